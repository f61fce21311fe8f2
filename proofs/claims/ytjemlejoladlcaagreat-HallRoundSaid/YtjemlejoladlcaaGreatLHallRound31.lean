/-
  Plain laws, gathered by a program of ours. No statement of the seat is proved here.
-/
import Derived.Test.YtjemlejoladlcaaGreatL28
import Derived.Test.YtjemlejoladlcaaGreatLHallRound30
set_option maxRecDepth 100000
set_option maxHeartbeats 40000000
namespace Go.Proofs.YtjemlejoladlcaaGreat
namespace NX
open Go
noncomputable section
theorem zo (l:List Edge) (p:Edge→Option Bool) (q:Edge→Bool) (hl:l.length≤4000000000000000000) (hp:∀x∈l,p x=some (q x)):Ty l p=some (Bf (l.findIdx? q)):=by
 unfold Ty;refine Hi l _ q hl (fun k x hx=>?_) ?_
 ·simp only [XR,Ay hx,A3,Aj hx,OB,hp x (List.mem_iff_getElem?.2 ⟨k,hx⟩),Di hx hl];cases q x<;>rfl
 ·simp only [XR,AB,A1,XQ,Option.map_some]
theorem lY (l:List Edge) (p:Edge→Option Bool) (q:Edge→Bool) (hl:l.length≤4000000000000000000) (hp:∀x∈l,p x=some (q x)):O9 l p=some (l.any q):=by unfold O9;rw [zo l p q hl hp,OB,HC,Hc]
def M4 (a b:Int):Int:=if a<b then -1 else if b<a then 1 else 0
theorem yZ (a b:Int):MN a b=some (M4 a b):=by simp only [MN,Ql,OB,M4];by_cases h1:a<b<;>by_cases h2:b<a<;>simp [h1,h2,A0]
theorem zw (a b:Int):Qh [a,b]=some (if a≠0 then a else b):=by
 unfold Qh;rw [B5];simp only [Qj,B7,List.length_cons,List.length_nil];by_cases ha:a=0
 ·subst ha;simp [A4];rw [show wr 1=1 from CT Om Om,B5];simp only [Qj,B7,List.length_cons,List.length_nil];by_cases hb:b=0
  ·subst hb;simp [A4];rw [show wr 2=2 from CT Om Om,B5];simp [Qj,B7,Vx]
  ·simp [A4,hb]
 ·simp [A4,ha]
def Edge.lt (x y:Edge):Bool:=decide (x.A<y.A)||(decide (x.A=y.A)&&decide (x.B<y.B))
theorem Z0k (x y:Edge):∃n,QY x y=some n∧decide (0≤n)=!x.lt y:=by
 refine ⟨if M4 x.A y.A≠0 then M4 x.A y.A else M4 x.B y.B,by simp only [QY,yZ,OB,zw],?_⟩;unfold M4 Edge.lt;by_cases h1:x.A<y.A
 ·simp [h1]
 ·by_cases h2:y.A<x.A
  ·have:x.A≠y.A:=by omega
   simp [h1,h2,this]
  ·have:x.A=y.A:=by omega
   simp [this];by_cases h3:x.B<y.B
   ·simp [h3]
   ·by_cases h4:y.B<x.B<;>simp [h3,h4]<;>omega
def Edge.ok (n:Int) (e:Edge):Bool:=decide (0≤e.A)&&(decide (e.A<e.B)&&decide (e.B<n))
def EM:List Edge→Bool
 | x::y::l=>x.lt y&&EM (y::l)
 | _=>true
theorem lP (l:List Edge):EM l=true↔∀k x y,l[k]?=some x→l[k+1]?=some y→x.lt y=true:=by
 induction l with
 | nil=>simp [EM]
 | cons a l ih=>
   cases l with
   | nil=>simp [EM]
   | cons b l=>
     simp only [EM,Bool.and_eq_true,ih];constructor
     ·rintro ⟨h1,h2⟩ k x y hx hy;cases k with
      | zero=>simp at hx hy;subst hx;subst hy;exact h1
      | succ k=>exact h2 k x y (by simpa using hx) (by simpa using hy)
     ·intro h;exact ⟨h 0 a b (by simp) (by simp),fun k x y hx hy=>h (k+1) x y (by simpa using hx) (by simpa using hy)⟩
def B3 (g:Graph):Bool:=decide (0≤g.N)&&(decide (g.N≤64)&&(decide (g.Edges.length≤400)&&(g.Edges.all (Edge.ok g.N)&&EM g.Edges)))
theorem yX (e:Edge) (g:Graph):QX e g=some (!e.ok g.N):=by
 simp only [QX,Nb,Edge.ok];by_cases h1:e.A<0
 ·have:¬0≤e.A:=by omega
  simp [h1,this]
 ·have h1':0≤e.A:=by omega
  by_cases h2:e.B≤e.A
  ·have:¬e.A<e.B:=by omega
   simp [h1,h2,this]
  ·have h2':e.A<e.B:=by omega
   by_cases h3:g.N≤e.B
   ·have:¬e.B<g.N:=by omega
    simp [h1,h2,h3,this]
   ·have:e.B<g.N:=by omega
    simp [h1,h2,h3,this,h1',h2']
theorem jt {β:Type} (l:List Edge) (body:Int→Option (Int ⊕ β)) (E no:β) (q:Edge→Bool) (_:l.length≤4000000000000000000)
  (hb:∀(k:Nat) x,l[k]?=some x→body k=some (if q x||(match k with | 0=>false | k+1=>match l[k]? with | some y=>!y.lt x | none=>false) then .inr E else .inl ((k+1:Nat):Int))) (he:body l.length=some (.inr no)):
  loop body 0=some (if l.all (fun x=>!q x)&&EM l then no else E):=by
 have Af:∀m k,m+k=l.length→(∀j x,j<k→l[j]?=some x→q x=false)→(∀j x y,j+1<k→l[j]?=some x→l[j+1]?=some y→x.lt y=true)→loop body (k:Int)=some (if l.all (fun x=>!q x)&&EM l then no else E):=by
  intro m;induction m with
  | zero=>
    intro k hk h1 h2;have:k=l.length:=by omega
    subst this;rw [B5,he];have a1:l.all (fun x=>!q x)=true:=by rw [List.all_eq_true];intro x hx;obtain ⟨j,hj⟩:=List.mem_iff_getElem?.1 hx;simp [h1 j x (List.getElem?_eq_some_iff.1 hj).1 hj]
    have a2:EM l=true:=by rw [lP];intro j x y hx hy;exact h2 j x y (List.getElem?_eq_some_iff.1 hy).1 hx hy
    simp [a1,a2]
  | succ m ih=>
    intro k hk h1 h2;have hlt:k<l.length:=by omega
    have hx:l[k]?=some l[k]:=List.getElem?_eq_getElem hlt;rw [B5,hb k _ hx];by_cases hq:q l[k]=true
    ·have:l.all (fun x=>!q x)=false:=by rw [List.all_eq_false];exact ⟨l[k],List.getElem_mem hlt,by simp [hq]⟩
     simp [hq,this]
    ·have hq:q l[k]=false:=by simpa using hq
     cases k with
     | zero=>
       simp only [hq,Bool.or_false,Bool.false_eq_true,if_false];refine ih 1 Om (fun j x hj h6=>?_) (fun j x y hj=>Om);have:j=0:=by omega
       subst this;rw [hx] at h6;simp at h6;rw [←h6];exact hq
     | succ k=>
       have hy:l[k]?=some l[k]:=List.getElem?_eq_getElem Om;simp only [hq,hy,Bool.false_or];by_cases hr:l[k].lt l[k+1]=true
       ·simp only [hr,Bool.not_true,Bool.false_eq_true,if_false];refine ih (k+1+1) Om (fun j x hj h6=>?_) (fun j x y hj h6 h8=>?_)
        ·rcases Nat.lt_succ_iff_lt_or_eq.1 hj with h | rfl
         ·exact h1 j x h h6
         ·rw [hx] at h6;simp at h6;rw [←h6];exact hq
        ·rcases Nat.lt_succ_iff_lt_or_eq.1 (Nat.succ_lt_succ_iff.1 hj) with h | rfl
         ·exact h2 j x y Om h6 h8
         ·rw [hy] at h6;rw [hx] at h8;simp at h6 h8;rw [←h6,←h8];exact hr
       ·have hr:l[k].lt l[k+1]=false:=by simpa using hr
        have:EM l=false:=by
         cases h:EM l with
         | false=>rfl
         | true=>rw [lP] at h;have:=h k _ _ hy hx;rw [hr] at this;exact absurd this (by simp)
        simp [hr,this]
 exact Af l.length 0 Om (fun j x hj=>Om) (fun j x y hj=>Om)
theorem P6 (g:Graph):Ih g=some (if B3 g then 0 else 30):=by
 simp only [Ih,KJ];by_cases h1:g.N<0
 ·have:¬0≤g.N:=by omega
  simp [h1,B3,this]
 by_cases h2:64<g.N
 ·have:¬g.N≤64:=by omega
  simp [h1,h2,B3,this]
 by_cases h3:400<g.Edges.length
 ·have:¬g.Edges.length≤400:=by omega
  have h3':(400:Int)<ln Edge.row g.Edges:=by rw [B7];omega
  simp [h1,h2,h3',B3,this]
 have h3':¬(400:Int)<ln Edge.row g.Edges:=by rw [B7];omega
 rw [lY g.Edges _ (fun e=>!e.ok g.N) Om (fun x _=>yX x g)];have e1:0≤g.N:=by omega
 have e2:g.N≤64:=by omega
 have e3:g.Edges.length≤400:=by omega
 simp only [h1,h2,h3',decide_false,A1,OB,B3,e1,e2,e3,decide_true,Bool.true_and];by_cases h4:g.Edges.any (fun e=>!e.ok g.N)=true
 ·have h5:g.Edges.all (Edge.ok g.N)=false:=by rw [List.any_eq_true] at h4;obtain ⟨x,hx,hq⟩:=h4;rw [List.all_eq_false];exact ⟨x,hx,by simpa using hq⟩
  simp [h4,h5]
 ·have h4:g.Edges.any (fun e=>!e.ok g.N)=false:=by simpa using h4
  have h5:g.Edges.all (Edge.ok g.N)=true:=by rw [List.any_eq_false] at h4;rw [List.all_eq_true];intro x hx;simpa using h4 x hx
  simp only [h4,h5,A1,Bool.true_and];have Af:=jt g.Edges (Nd g) 30 0 (fun _=>false) Om (fun k x hx=>by
   cases k with
   | zero=>have:=Ay (f:=Edge.row) hx;simp only [Nd,this,A3,Nc];simp;exact Di hx Om
   | succ k=>
     have hk:=(List.getElem?_eq_some_iff.1 hx).1;have hy:g.Edges[k]?=some g.Edges[k]:=List.getElem?_eq_getElem Om;obtain ⟨n,h6,h8⟩:=Z0k g.Edges[k] x;have h0:decide ((0:Int)<((k+1:Nat):Int))=true:=DT Om;simp only [Nd,Ay hx,A3,h0,eI (show k≤4000000000000000000 by omega),Aj hy,Aj hx,OB,h6,h8,Nc,hy,Bool.false_or];cases g.Edges[k].lt x
     ·simp
     ·simp only [Bool.not_true,Bool.false_eq_true,if_false,A1];rw [Di hx (show g.Edges.length≤4000000000000000000 by omega)])
   (by simp only [Nd,AB,A1,VV,Option.map_some])
  rw [Af];simp
theorem Df {g:Graph} (h:B3 g=true):0≤g.N∧g.N≤64∧g.Edges.length≤400∧(∀e∈g.Edges,0≤e.A∧e.A<e.B∧e.B<g.N)∧EM g.Edges=true:=by simp only [B3,Bool.and_eq_true,decide_eq_true_eq,List.all_eq_true,Edge.ok] at h;exact ⟨h.1,h.2.1,h.2.2.1,fun e he=>h.2.2.2.1 e he,h.2.2.2.2⟩
def cg (c:List Int) (i:Int):Int:=(c[i.toNat]?).getD 0
theorem Kh {c:List Int} {i:Int} (h0:0≤i) (h:i<c.length):A4 c i=some (cg c i):=by obtain ⟨x,h1,h2⟩:=UE h0 h;rw [h1,cg,h2];rfl
def FF (g:Graph) (c:List Int):Bool:=decide ((c.length:Int)=g.N)&&(c.all (fun x=>decide (1≤x))&&g.Edges.all (fun e=>!decide (cg c e.A=cg c e.B)))
theorem zA (g:Graph) (c:List Int) (_:c.length≤1000000):Qn g c=some (B3 g&&FF g c):=by
 simp only [Qn,P6,OB,Jl];cases hg:B3 g with
 | false=>simp [Ic]
 | true=>
   obtain ⟨g1,g2,g3,g4,g5⟩:=Df hg;simp only [if_true,decide_true,A3,Bool.true_and,B7];by_cases hl:(c.length:Int)=g.N
   ·rw [P7 c (fun z=>Vy z) (fun x=>decide (x<1)) Om (fun x _=>rfl)];simp only [hl,decide_true,A3,OB,FF,Bool.true_and];have e1:c.any (fun x=>decide (x<1))=!c.all (fun x=>decide (1≤x)):=LT _ _ _ (fun x=>by
     by_cases h:x<1
     ·have:¬1≤x:=by omega
      simp [h,this]
     ·have:1≤x:=by omega
      simp [h,this])
    rw [e1];cases hp:c.all (fun x=>decide (1≤x)) with
    | false=>simp [Ic]
    | true=>simp only [Bool.not_true,Ic,A1];rw [lY g.Edges _ (fun e=>decide (cg c e.A=cg c e.B)) Om (fun e he=>by obtain ⟨k1,k2,k3⟩:=g4 e he;simp only [Vz,Kh (c:=c) k1 Om,Kh (c:=c) (show 0≤e.B by omega) Om,OB])];simp [qe]
   ·simp [hl,FF,Ic]
theorem zJ (x y:Edge):Ru x y=some (x.lt y):=by
 simp only [Ru,Nr,Edge.lt];by_cases h1:x.A<y.A
 ·simp [h1]
 ·by_cases h2:x.A=y.A<;>simp [h1,h2]
theorem Z0j (g:Graph):Rs g=some (B3 g):=by
 simp only [Rs,Nq];by_cases h1:g.N<0
 ·have:¬0≤g.N:=by omega
  simp [h1,B3,this]
 by_cases h2:64<g.N
 ·have:¬g.N≤64:=by omega
  simp [h1,h2,B3,this]
 by_cases h3:400<g.Edges.length
 ·have:¬g.Edges.length≤400:=by omega
  have h3':(400:Int)<ln Edge.row g.Edges:=by rw [B7];omega
  simp [h1,h2,h3',B3,this]
 have h3':¬(400:Int)<ln Edge.row g.Edges:=by rw [B7];omega
 have e1:0≤g.N:=by omega
 have e2:g.N≤64:=by omega
 have e3:g.Edges.length≤400:=by omega
 simp only [h1,h2,h3',decide_false,A1,B3,e1,e2,e3,decide_true,Bool.true_and];have Af:=jt g.Edges (Rt g) false true (fun e=>!e.ok g.N) Om (fun k x hx=>by
  have hw:wr ((k:Int)+1)=((k+1:Nat):Int):=Di hx Om;simp only [Rt,Ay hx,A3,Aj hx,OB,JD,hw,Edge.ok];by_cases k1:x.A<0
  ·have:¬0≤x.A:=by omega
   simp [k1,this]
  ·have k1':0≤x.A:=by omega
   by_cases k2:x.B≤x.A
   ·have:¬x.A<x.B:=by omega
    simp [k1,k2,this]
   ·have k2':x.A<x.B:=by omega
    by_cases k3:g.N≤x.B
    ·have:¬x.B<g.N:=by omega
     simp [k1,k2,k3,this]
    ·have k3':x.B<g.N:=by omega
     simp only [k1,k2,k3,k1',k2',k3',decide_false,decide_true,A1,Bool.and_self,Bool.not_true,Bool.false_or];cases k with
     | zero=>simp
     | succ k=>have hk:=(List.getElem?_eq_some_iff.1 hx).1;have hy:g.Edges[k]?=some g.Edges[k]:=List.getElem?_eq_getElem Om;have h0:decide ((0:Int)<((k+1:Nat):Int))=true:=DT Om;simp only [h0,A3,eI (show k≤4000000000000000000 by omega),Aj hy,hy,OB,zJ];cases g.Edges[k].lt x<;>simp)
  (by simp only [Rt,AB,A1,WG,Option.map_some])
 rw [Af];have:g.Edges.all (fun x=>!!Edge.ok g.N x)=g.Edges.all (Edge.ok g.N):=by simp
 rw [this];cases g.Edges.all (Edge.ok g.N)&&EM g.Edges<;>rfl
def Z12 (l:List DI) (i:Nat) (x:SX):Bool:=decide (0≤x.PE)&&(decide (x.PE<l.length)&&(!decide (x.PE=i)&&(match l[x.PE.toNat]? with | some e=>(C8 e i).isSome | none=>false)))
def yJ (p:Option Int) (x:SX):Bool:=match p with | none=>true | some q=>decide (q<x.PE)
def cQ (l:List DI) (i:Nat):Option Int→List SX→Bool
 | _,[]=>true
 | p,x::r=>yJ p x&&(Z12 l i x&&cQ l i (some x.PE) r)
def sM (i:Nat) (xs:List SX):List Edge:=(xs.filter fun x=>decide ((i:Int)<x.PE)).map fun x=>⟨i,x.PE⟩
def U4 (l:List DI):Nat→List DI→Bool
 | _,[]=>true
 | i,d::r=>decide (d.ID=i)&&(cQ l i none d.SD&&U4 l (i+1) r)
def ah:Nat→List DI→List Edge
 | _,[]=>[]
 | i,d::r=>sM i d.SD++ah (i+1) r
def uq:Graph:=⟨0,[]⟩
def gW (l:List DI):Graph×Bool:=if U4 l 0 l&&B3 ⟨l.length,ah 0 l⟩ then (⟨l.length,ah 0 l⟩,true) else (uq,false)
theorem kO (l:List DI):∀(r:List DI) (i:Nat),U4 l i r=true↔∀k d,r[k]?=some d→d.ID=((i+k:Nat):Int)∧cQ l (i+k) none d.SD=true
 | [],i=>by simp [U4]
 | d::r,i=>by
   simp only [U4,Bool.and_eq_true,decide_eq_true_eq,kO l r (i+1)];constructor
   ·rintro ⟨h1,h2,h3⟩ k e he;cases k with
    | zero=>simp at he;subst he;exact ⟨by simpa using h1,by simpa using h2⟩
    | succ k=>have:=h3 k e (by simpa using he);rw [show i+(k+1)=i+1+k by omega];exact this
   ·intro h;refine ⟨by simpa using (h 0 d (by simp)).1,by simpa using (h 0 d (by simp)).2,fun k e he=>?_⟩;have:=h (k+1) e (by simpa using he);rw [show i+1+k=i+(k+1) by omega];exact this
theorem Edge.lt_trans {x y z:Edge} (h:x.lt y=true) (k:y.lt z=true):x.lt z=true:=by simp only [Edge.lt,Bool.or_eq_true,Bool.and_eq_true,decide_eq_true_eq] at *;omega
theorem lQ:∀ {l:List Edge},EM l=true→l.Pairwise fun x y=>x.lt y=true
 | [],_=>List.Pairwise.nil
 | [x],_=>by simp
 | x::y::l,h=>by
   simp only [EM,Bool.and_eq_true] at h;have ih:=lQ h.2;refine List.pairwise_cons.2 ⟨?_,ih⟩;intro z hz;rcases List.mem_cons.1 hz with rfl | hz
   ·exact h.1
   ·exact Edge.lt_trans h.1 ((List.pairwise_cons.1 ih).1 z hz)
theorem xp {g:Graph} (h:B3 g=true):g.Edges.Pairwise fun x y=>x.lt y=true:=lQ (Df h).2.2.2.2
def GG (a:Int) (e:Edge):Option Int:=if a=e.A then some e.B else if a=e.B then some e.A else none
def B9 (g:Graph) (a:Int):List Int:=g.Edges.filterMap (GG a)
theorem jW {g:Graph} (h:B3 g=true) (a:Int):(B9 g a).Pairwise (· < ·):=by
 unfold B9;rw [List.pairwise_filterMap];obtain ⟨_,_,_,h4,_⟩:=Df h;refine List.Pairwise.imp_of_mem ?_ (xp h);intro x y hx hy h6 b hb b' hb';have k1:=h4 x hx;have k2:=h4 y hy;simp only [Edge.lt,Bool.or_eq_true,Bool.and_eq_true,decide_eq_true_eq] at h6;unfold GG at hb hb';split at hb<;>split at hb'
 ·simp at hb hb';omega
 ·split at hb'
  ·simp at hb hb';omega
  ·simp at hb'
 ·split at hb
  ·simp at hb hb';omega
  ·simp at hb
 ·split at hb<;>split at hb'
  ·simp at hb hb';omega
  ·simp at hb'
  ·simp at hb
  ·simp at hb
theorem Yl (g:Graph) (a:Int):(B9 g a).length≤g.Edges.length:=List.length_filterMap_le _ _
theorem mh (g:Graph) (a:Int):KK g a=some (if B3 g then B9 g a else []):=by
 simp only [KK,P6,OB];cases hg:B3 g with
 | false=>rfl
 | true=>
   have h6:=(Df hg).2.2.1;simp only [if_true,decide_true,Bool.not_true,A1];refine CK g.Edges _ (fun pre=>((pre.length:Int),pre.filterMap (GG a))) (B9 g a) (fun pre e post h=>?_) ?_
   ·have hx:=Br h;have hm:=Bp h;have hl:(pre.filterMap (GG a)).length≤pre.length:=List.length_filterMap_le _ _;dsimp only [VX];rw [Ay hx,A3,Aj hx,OB,AN,List.filterMap_append];by_cases h1:a=e.A
    ·rw [DT h1,A3,B0 _ _ Om (by simp only [List.length_singleton];omega),OB,Jx,Al Om];simp [GG,h1]
    ·by_cases h2:a=e.B
     ·rw [DN h1,A1,DT h2,A3,B0 _ _ Om (by simp only [List.length_singleton];omega),OB,Jx,Al Om];have:¬e.B=e.A:=fun e'=>h1 (h2.trans e');simp [GG,h2,this]
     ·rw [DN h1,A1,DN h2,A1,Jx,Al Om];simp [GG,h1,h2]
   ·dsimp only [VX];rw [AB,A1,VW];have:(g.Edges.filterMap (GG a))=B9 g a:=rfl;rw [this,Z0s _ (by have:=Yl g a;omega) (jW hg a)];rfl
theorem Yh {g:Graph} (h:B3 g=true) {a b:Int}:b∈B9 g a↔(⟨a,b⟩:Edge)∈g.Edges∨(⟨b,a⟩:Edge)∈g.Edges:=by
 obtain ⟨_,_,_,h4,_⟩:=Df h;unfold B9;rw [List.mem_filterMap];constructor
 ·rintro ⟨e,he,hb⟩;unfold GG at hb;split at hb
  ·rename_i h1;simp at hb;subst hb;subst h1;exact .inl he
  ·split at hb
   ·rename_i h2;simp at hb;subst hb;subst h2;exact .inr he
   ·simp at hb
 ·rintro (he | he)
  ·exact ⟨_,he,by simp [GG]⟩
  ·have:=h4 _ he;dsimp only at this;exact ⟨_,he,by unfold GG;rw [if_neg (by dsimp only;omega),if_pos rfl]⟩
theorem GH {g:Graph} (h:B3 g=true) {a b:Int} (hb:b∈B9 g a):0≤b∧b<g.N∧b≠a∧0≤a∧a<g.N:=by
 obtain ⟨_,_,_,h4,_⟩:=Df h;rcases (Yh h).1 hb with he | he
 ·have:=h4 _ he;dsimp only at this;omega
 ·have:=h4 _ he;dsimp only at this;omega
def Dv (c:List Int) (a b:Int):SX:=⟨b,1,0,decide (cg c b<cg c a),decide (cg c b<cg c a),!decide (cg c b<cg c a),decide (cg c b<cg c a),!decide (cg c b<cg c a)⟩
def Fp (g:Graph) (c:List Int) (a:Nat):DI:=⟨a,0,(B9 g a).map (Dv c a)⟩
def K9 (g:Graph) (c:List Int):List DI:=(List.range g.N.toNat).map (Fp g c)
theorem jL {α:Type} (f:Nat→α) (k:Nat):(List.range (k+1)).map f=(List.range k).map f++[f k]:=by simp [List.range_succ]
theorem zG (g:Graph) (hg:B3 g=true) (c:List Int) (hc:(c.length:Int)=g.N) (a:Nat) (ha:(a:Int)<g.N) (L:List DI) (E:L.length≤1000):
  loop (SG c a L (B9 g a)) (0,[])=some (.inl (((a+1:Nat):Int),L++[Fp g c a])):=by
 obtain ⟨g1,g2,g3,_,_⟩:=Df hg;have h6:=Yl g a;refine CK (B9 g a) _ (fun pre=>((pre.length:Int),pre.map (Dv c a))) _ (fun pre b post h=>?_) ?_
 ·have hx:=Br h;have hm:=Bp h;obtain ⟨b1,b2,_,_,_⟩:=GH hg (Dt h);dsimp only [SG];rw [Ay hx,A3,Aj hx,OB,Kh (c:=c) (Int.natCast_nonneg a) Om,OB,Kh (c:=c) b1 Om,OB,B0 _ _ Om (by simp;omega),OB,AN,Al Om,List.map_append];rfl
 ·dsimp only [SG];rw [AB,A1,Xk,B0 _ _ Om (by simp;omega),OB,Al Om];rfl
theorem yH {g:Graph} {c:List Int} (h:FF g c=true):(c.length:Int)=g.N:=by simp only [FF,Bool.and_eq_true,decide_eq_true_eq] at h;exact h.1
theorem zF (g:Graph) (c:List Int) (hc:c.length≤1000000):SC g c=some (if B3 g then (if FF g c then (K9 g c,0) else ([],120)) else ([],30)):=by
 simp only [SC,P6,OB];cases hg:B3 g with
 | false=>rfl
 | true=>
   obtain ⟨g1,g2,_,_,_⟩:=Df hg;simp only [if_true,decide_true,Bool.not_true,A1,zA g c hc,hg,Bool.true_and,OB];cases hr:FF g c with
   | false=>rfl
   | true=>
     simp only [Bool.not_true,A1,if_true];refine Gv g.N.toNat (SF g c) (fun k=>((k:Int),(List.range k).map (Fp g c))) _ (fun k hk=>?_) ?_
     ·dsimp only [SF];rw [DT Om,A3,mh,hg,if_pos rfl,OB,zG g hg c (yH hr) k Om _ (by simp;omega),jL]
     ·dsimp only [SF];rw [DN Om,A1];rfl
theorem yI {g:Graph} (hg:B3 g=true) {c:List Int} (h:FF g c=true) {a b:Int} (hb:b∈B9 g a):cg c a≠cg c b:=by
 simp only [FF,Bool.and_eq_true,List.all_eq_true,Bool.not_eq_true',decide_eq_false_iff_not] at h;rcases (Yh hg).1 hb with he | he
 ·exact h.2.2 _ he
 ·exact fun e=>h.2.2 _ he e.symm
theorem Z1S {g:Graph} (hg:B3 g=true) (c:List Int):((K9 g c).length:Int)=g.N:=by have:=(Df hg).1;simp [K9];omega
theorem PT {l:List DI} (h:(gW l).2=true) {k:Nat} {d:DI} (E:l[k]?=some d):d.ID=k:=by
 unfold gW at h;split at h
 ·rename_i h1;simp only [Bool.and_eq_true] at h1;have:=((kO l l 0).1 h1.1 k d E).1;simpa using this
 ·simp at h
def Gw (p:Nat→Bool):Nat→Nat→Nat
 | 0,k=>k
 | f+1,k=>if p k then k else Gw p f (k+1)
theorem jA (p:Nat→Bool):∀(f k:Nat),p (k+f)=true→p (Gw p f k)=true∧k≤Gw p f k∧Gw p f k≤k+f
 | 0,k,h=>⟨h,Nat.le_refl _,Nat.le_refl _⟩
 | f+1,k,h=>by
   simp only [Gw];split
   ·rename_i h1;exact ⟨h1,Nat.le_refl _,Om⟩
   ·obtain ⟨h1,h2,h3⟩:=jA p f (k+1) (by rw [show k+1+f=k+(f+1) by omega];exact h);exact ⟨h1,Om,Om⟩
def H1 (c:List Int) (E:List Int) (k:Nat):Bool:=E.any fun b=>decide (cg c b=(k:Int))
def Jh (c E:List Int):Nat:=Gw (fun k=>!H1 c E k) 200 1
def HP (c E:List Int) (a:Int):Bool:=decide (cg c a=0)&&!E.any fun b=>decide (cg c b=0)&&decide (a<b)
def E6 (g:Graph) (c:List Int) (a:Nat):Int:=if HP c (B9 g a) a then (Jh c (B9 g a):Int) else cg c a
def GX (g:Graph) (c:List Int):List Int:=(List.range g.N.toNat).map (E6 g c)
structure ColI (g:Graph) (c:List Int):Prop where
 len:(c.length:Int)=g.N
 lo:∀x∈c,0≤x
 hi:∀x∈c,x≤100
theorem PD {c:List Int} {a:Int} (h0:0≤a) (h:a<c.length):cg c a∈c:=by obtain ⟨x,h1,h2⟩:=UE h0 h;unfold cg;rw [h2];exact List.mem_iff_getElem?.2 ⟨_,h2⟩
theorem V2 {g:Graph} (hg:B3 g=true) {c:List Int} (hc:ColI g c) (a:Int):H1 c (B9 g a) (Jh c (B9 g a))=false∧1≤Jh c (B9 g a)∧Jh c (B9 g a)≤201:=by have h:=jA (fun k=>!H1 c (B9 g a) k) 200 1 (by simp only [Bool.not_eq_true'];unfold H1;rw [List.any_eq_false];intro b hb;obtain ⟨b1,b2,_⟩:=GH hg hb;have:=hc.hi _ (PD (c:=c) b1 (by rw [hc.len];exact b2));simp;omega);have h1:=h.1;simp only [Bool.not_eq_true'] at h1;exact ⟨h1,h.2.1,h.2.2⟩
theorem zC (g:Graph) (hg:B3 g=true) (c:List Int) (hc:ColI g c) (a:Nat) (ha:(a:Int)<g.N) (A B:List Int) (E:A.length=a):
  loop (MO c a (B9 g a)) (A++1::B)=some (.inl (((a+1:Nat):Int),A++(Jh c (B9 g a):Int)::B)):=by
 obtain ⟨g1,g2,g3,_,_⟩:=Df hg;have h8:=Yl g a;have at1:∀y:Int,A4 (A++y::B) (a:Int)=some y:=fun y=>by rw [←E];exact Jd rfl
 have st1:∀y z:Int,(A++y::B).set ((a:Int)).toNat z=A++z::B:=fun y z=>by rw [←E];exact LC _ _ _ _
 have step:∀k:Nat,G7 (B9 g a) (fun z=>Qr z c (A++(k:Int)::B) a)=some (H1 c (B9 g a) k):=fun k=>by refine P7 (B9 g a) _ (fun b=>decide (cg c b=(k:Int))) Om (fun b hb=>?_);obtain ⟨b1,b2,_⟩:=GH hg hb;simp only [Qr];rw [Kh (c:=c) b1 (by rw [hc.len];exact b2),OB,at1,OB]
 have Af:∀f k:Nat,k+f=201→1≤k→H1 c (B9 g a) 201=false→loop (MO c a (B9 g a)) (A++(k:Int)::B)=some (.inl (((a+1:Nat):Int),A++(Gw (fun k=>!H1 c (B9 g a) k) f k:Int)::B)):=by
  intro f;induction f with
  | zero=>
    intro k hk _ h6;have:k=201:=by omega
    subst this;rw [B5];dsimp only [MO];rw [step,OB,h6,A1];dsimp only [Kx];rw [Al Om];rfl
  | succ f ih=>
    intro k hk h1 h6;rw [B5];dsimp only [MO];rw [step,OB];cases hu:H1 c (B9 g a) k with
    | true=>rw [A3,at1,OB,st1,Al Om];dsimp only;rw [ih (k+1) Om Om h6];simp [Gw,hu]
    | false=>rw [A1];dsimp only [Kx];rw [Al Om];simp [Gw,hu]
 refine Af 200 1 rfl (Nat.le_refl _) ?_;unfold H1;rw [List.any_eq_false];intro b hb;obtain ⟨b1,b2,_⟩:=GH hg hb;have:=hc.hi _ (PD (c:=c) b1 (by rw [hc.len];exact b2));simp;omega
theorem rm {c:List Int} {k:Nat} (h:k<c.length):c.drop k=cg c k::c.drop (k+1):=by rw [List.drop_eq_getElem_cons h];congr 1;unfold cg;simp [h]
theorem zB (g:Graph) (hg:B3 g=true) (c:List Int) (hc:ColI g c):Qo g c=some (GX g c,0):=by
 obtain ⟨g1,g2,g3,_,_⟩:=Df hg;have h6:=hc.len;simp only [Qo,P6,hg,if_true,decide_true,Bool.not_true,A1,OB,B7,h6];rw [P7 c (fun z=>VA z) (fun x=>decide (x<0)) Om (fun x _=>rfl),OB];have e0:c.any (fun x=>decide (x<0))=false:=by rw [List.any_eq_false];intro x hx;have:=hc.lo x hx;simp;omega
 rw [e0];simp only [Qs,A1,CF];rw [B0 _ _ Om (by simp;omega),OB,List.nil_append];refine (Gv g.N.toNat (Qt g c) (fun k=>((k:Int),(List.range k).map (E6 g c)++c.drop k)) (GX g c,0) (fun k hk=>?_) ?_)
 ·have h8:k<c.length:=by omega
  obtain ⟨g1',_⟩:=Df hg;dsimp only [Qt];rw [DT Om,A3,mh,hg,if_pos rfl,OB,Kh (c:=c) (Int.natCast_nonneg k) Om,OB,rm h8,jL];have hA:((List.range k).map (E6 g c)).length=k:=by simp
  have keep:E6 g c k=cg c k→Ky c k ((List.range k).map (E6 g c)++cg c k::c.drop (k+1)) (B9 g k) true=some (.inl (((k+1:Nat):Int),((List.range k).map (E6 g c)++[E6 g c k])++c.drop (k+1))):=fun e=>by dsimp only [Ky,Kx];rw [A3,Al Om,e];simp
  by_cases h0:cg c k=0
  ·rw [DT h0,Bool.not_true,A1];have h9:G7 (B9 g k) (fun z=>Qp z c k)=some ((B9 g k).any fun b=>decide (cg c b=0)&&decide ((k:Int)<b)):=by refine P7 (B9 g k) _ (fun b=>decide (cg c b=0)&&decide ((k:Int)<b)) (by have:=Yl g k;omega) (fun b hb=>?_);obtain ⟨b1,b2,_⟩:=GH hg hb;simp only [Qp,Qq];rw [Kh (c:=c) b1 Om,OB];cases decide (cg c b=0)<;>rfl
   rw [h9,OB];cases ht:(B9 g k).any fun b=>decide (cg c b=0)&&decide ((k:Int)<b) with
   | true=>refine keep ?_;unfold E6 HP;rw [ht];simp
   | false=>
     have e:E6 g c k=(Jh c (B9 g k):Int):=by unfold E6 HP;rw [ht,DT h0];simp
     dsimp only [Ky];have at1:=Jd (l:=(List.range k).map (E6 g c)++cg c k::c.drop (k+1)) rfl;rw [hA] at at1;have st1:=LC ((List.range k).map (E6 g c)) (c.drop (k+1)) (cg c k) 1;rw [hA] at st1;rw [A1,at1,OB,st1,zC g hg c hc k Om _ _ hA,e];simp
  ·rw [DN h0,Bool.not_false,A3];refine keep ?_;unfold E6 HP;rw [DN h0];simp
 ·dsimp only [Qt];rw [DN Om,A1,List.drop_eq_nil_of_le Om,List.append_nil];rfl
theorem jz (p:Nat→Bool):∀(f k j:Nat),p j=true→k≤j→j≤k+f→Gw p f k≤j
 | 0,k,j,_,h1,_=>h1
 | f+1,k,j,h,h1,h2=>by
   simp only [Gw];split
   ·exact h1
   ·rename_i hp;have:k≠j:=by rintro rfl;exact hp h
    exact jz p f (k+1) j h Om Om
theorem g7 {α:Type} (p q:α→Bool):∀(l:List α),(∀x∈l,p x=true→q x=true)→(∃x∈l,q x=true∧p x=false)→l.countP p<l.countP q
 | [],_,⟨x,hx,_⟩=>absurd hx (by simp)
 | y::l,h,⟨x,hx,h1,h2⟩=>by
   have hle:l.countP p≤l.countP q:=List.countP_mono_left fun z hz=>h z (List.mem_cons_of_mem _ hz);rw [List.countP_cons,List.countP_cons];rcases List.mem_cons.1 hx with rfl | hx
   ·rw [h1,h2];simp;omega
   ·have:=g7 p q l (fun z hz=>h z (List.mem_cons_of_mem _ hz)) ⟨x,hx,h1,h2⟩;have hy:=h y (by simp);cases hp:p y with
    | false=>simp;omega
    | true=>rw [hy hp];simp;omega
def Kc (g:Graph) (c:List Int):Nat:=(List.range g.N.toNat).countP fun a:Nat=>decide (cg c (a:Int)=0)
theorem Z24 (g:Graph) (c:List Int):Kc g c≤g.N.toNat:=by have:=List.countP_le_length (p:=fun a:Nat=>decide (cg c (a:Int)=0)) (l:=List.range g.N.toNat);simpa [Kc] using this
structure ColN (g:Graph) (c:List Int) (n:Nat):Prop where
 len:(c.length:Int)=g.N
 lo:∀x∈c,0≤x
 hi:∀x∈c,x≤n
 ne:∀a b,b∈B9 g a→cg c a≠0→cg c b≠0→cg c a≠cg c b
theorem ColN.I {g:Graph} {c:List Int} {n:Nat} (h:ColN g c n) (hn:n≤100):ColI g c:=⟨h.len,h.lo,fun x hx=>by have:=h.hi x hx;omega⟩
theorem UN {g:Graph} {c:List Int} {a:Int} (h0:0≤a) (h:a<g.N):cg (GX g c) a=E6 g c a.toNat:=by unfold cg GX;rw [List.getElem?_map,List.getElem?_range Om];rfl
theorem cH {g:Graph} (hg:B3 g=true) {a b:Int} (h:b∈B9 g a):a∈B9 g b:=by rw [Yh hg] at *;exact h.symm
theorem eH {c E:List Int} {a:Int}:HP c E a=true↔cg c a=0∧∀b∈E,cg c b=0→b≤a:=by
 unfold HP;simp only [Bool.and_eq_true,decide_eq_true_eq,Bool.not_eq_true',List.any_eq_false,Bool.and_eq_true,decide_eq_true_eq,not_and];constructor
 ·rintro ⟨h1,h2⟩;exact ⟨h1,fun b hb h0=>by have:=h2 b hb h0;omega⟩
 ·rintro ⟨h1,h2⟩;exact ⟨h1,fun b hb h0=>by have:=h2 b hb h0;omega⟩
theorem tC {g:Graph} {c:List Int} {n:Nat} (hc:ColN g c n) (hn:n≤100) (a:Int):Jh c (B9 g a)≤n+1:=by
 refine jz _ _ _ _ ?_ Om Om;simp only [Bool.not_eq_true'];unfold H1;rw [List.any_eq_false];intro b hb;simp only [decide_eq_true_eq];intro he;by_cases h:0≤b∧b<c.length
 ·have:=hc.hi _ (PD (c:=c) h.1 h.2);omega
 ·unfold cg at he;have h6:0≤b.toNat:=Nat.zero_le _;cases hq:c[b.toNat]? with
  | none=>rw [hq] at he;simp at he;omega
  | some y=>rw [hq] at he;have:=hc.hi y (List.mem_iff_getElem?.2 ⟨_,hq⟩);simp at he;omega
theorem Ym (g:Graph) (c:List Int) (a:Nat):(HP c (B9 g a) a=true∧E6 g c a=(Jh c (B9 g a):Int))∨(HP c (B9 g a) a=false∧E6 g c a=cg c a):=by unfold E6;cases HP c (B9 g a) a<;>simp
theorem ColN.round {g:Graph} (hg:B3 g=true) {c:List Int} {n:Nat} (hc:ColN g c n) (hn:n≤100):ColN g (GX g c) (n+1):=by
 obtain ⟨g1,g2,_,_,_⟩:=Df hg;have hI:=hc.I hn;have h6:∀x∈GX g c,0≤x∧x≤n+1:=fun x hx=>by
  obtain ⟨a,ha,rfl⟩:=List.mem_map.1 hx;have ha':=List.mem_range.1 ha;have:=tC hc hn a;rcases Ym g c a with ⟨_,h2⟩ | ⟨_,h2⟩
  ·rw [h2];omega
  ·rw [h2];have hm:=PD (c:=c) (a:=(a:Int)) Om (by have:=hc.len;omega);have:=hc.lo _ hm;have:=hc.hi _ hm;omega
 refine ⟨by simp [GX];omega,fun x hx=>(h6 x hx).1,fun x hx=>by have:=(h6 x hx).2;omega,fun a b hb h8 h9=>?_⟩;obtain ⟨b1,b2,b3,a1,a2⟩:=GH hg hb;have hab:=cH hg hb;rw [UN a1 a2] at h8 ⊢;rw [UN b1 b2] at h9 ⊢;have ea:((a.toNat:Nat):Int)=a:=Int.toNat_of_nonneg a1;have eb:((b.toNat:Nat):Int)=b:=Int.toNat_of_nonneg b1;have ua:=(V2 hg hI a).1;have ub:=(V2 hg hI b).1;unfold H1 at ua ub;rw [List.any_eq_false] at ua ub;have ua':=ua b hb;have ub':=ub a hab;simp only [decide_eq_true_eq] at ua' ub';rcases Ym g c a.toNat with ⟨h1,h2⟩ | ⟨h1,h2⟩<;>rcases Ym g c b.toNat with ⟨k1,k2⟩ | ⟨k1,k2⟩<;>rw [ea] at h1 h2<;>rw [eb] at k1 k2
 ·rw [eH] at h1 k1;have:=h1.2 b hb k1.1;have:=k1.2 a hab h1.1;exact absurd Om b3
 ·rw [h2,k2];exact fun e=>ua' e.symm
 ·rw [h2,k2];exact ub'
 ·rw [h2,k2];rw [h2] at h8;rw [k2] at h9;exact hc.ne a b hb h8 h9
theorem jM (p:Nat→Bool):∀n:Nat,(∃a,a<n∧p a=true)→∃a,a<n∧p a=true∧∀b,b<n→p b=true→b≤a
 | 0,⟨a,h,_⟩=>absurd h Om
 | n+1,⟨a,h,hp⟩=>by
   cases hn:p n with
   | true=>exact ⟨n,Om,hn,fun b hb _=>Om⟩
   | false=>
     have:a≠n:=by rintro rfl;rw [hn] at hp;simp at hp
     obtain ⟨a',h1,h2,h3⟩:=jM p n ⟨a,Om,hp⟩;refine ⟨a',Om,h2,fun b hb hpb=>?_⟩;have:b≠n:=by rintro rfl;rw [hn] at hpb;simp at hpb
     exact h3 b Om hpb
theorem ot {g:Graph} (hg:B3 g=true) {c:List Int} {n:Nat} (hc:ColN g c n) (hn:n≤100) (h0:(0:Int)∈c):Kc g (GX g c)<Kc g c:=by
 have hI:=hc.I hn;have ex:∃a,a<g.N.toNat∧(fun a:Nat=>decide (cg c (a:Int)=0)) a=true:=by obtain ⟨k,hk⟩:=List.mem_iff_getElem?.1 h0;have hlt:=(List.getElem?_eq_some_iff.1 hk).1;have:=hc.len;refine ⟨k,Om,?_⟩;simp [cg,hk]
 obtain ⟨a,h1,h2,h3⟩:=jM _ _ ex;simp only [decide_eq_true_eq] at h2 h3;refine g7 _ _ _ (fun b hb hz=>?_) ⟨a,List.mem_range.2 h1,by simpa using h2,?_⟩
 ·have hb':=List.mem_range.1 hb;have hf:=(V2 hg hI b).2.1;simp only [decide_eq_true_eq] at hz ⊢;rw [UN Om Om,Int.toNat_natCast] at hz;rcases Ym g c b with ⟨k1,k2⟩ | ⟨k1,k2⟩
  ·rw [eH] at k1;exact k1.1
  ·rw [←k2];exact hz
 ·have ht:HP c (B9 g a) a=true:=by rw [eH];refine ⟨h2,fun b hb h6=>?_⟩;obtain ⟨b1,b2,_⟩:=GH hg hb;have:=h3 b.toNat Om (by rw [Int.toNat_of_nonneg b1];exact h6);omega
  have hf:=(V2 hg hI a).2.1;simp only [decide_eq_false_iff_not];rw [UN Om Om,Int.toNat_natCast];unfold E6;rw [ht];simp;omega
def IQ (g:Graph):Nat→List Int→Int→List Int×Int
 | 0,c,n=>(c,n)
 | f+1,c,n=>if (0:Int)∈c then IQ g f (GX g c) (n+1) else (c,n)
theorem oq {g:Graph} {c:List Int} {n:Nat} (hc:ColN g c n) (h0:(0:Int)∈c):0<Kc g c:=by obtain ⟨k,hk⟩:=List.mem_iff_getElem?.1 h0;have hlt:=(List.getElem?_eq_some_iff.1 hk).1;have:=hc.len;refine List.countP_pos_iff.2 ⟨k,List.mem_range.2 Om,?_⟩;simp [cg,hk]
theorem yO {g:Graph} (hg:B3 g=true):∀(f:Nat) (c:List Int) (n:Nat),ColN g c n→Kc g c≤f→n+f≤100→FF g (IQ g f c n).1=true∧(IQ g f c n).1.length≤64:=by
 obtain ⟨g1,g2,g3,g4,g5⟩:=Df hg;have done:∀(c:List Int) (n:Nat),ColN g c n→(0:Int)∉c→FF g c=true∧c.length≤64:=fun c n hc h0=>by
  have hl:=hc.len;refine ⟨?_,Om⟩;unfold FF;rw [DT hl,Bool.true_and,Bool.and_eq_true,List.all_eq_true,List.all_eq_true];have nz:∀a:Int,0≤a→a<g.N→cg c a≠0:=fun a h1 h2 h=>h0 (h ▸ PD (c:=c) h1 Om);refine ⟨fun x hx=>?_,fun e he=>?_⟩
  ·have:=hc.lo x hx;have:x≠0:=by rintro rfl;exact h0 hx
   simp;omega
  ·obtain ⟨e1,e2,e3⟩:=g4 e he;have:=hc.ne e.A e.B ((Yh hg).2 (.inl he)) (nz _ e1 Om) (nz _ Om e3);simpa using this
 intro f;induction f with
 | zero=>
   intro c n hc hz _;have h0:(0:Int)∉c:=fun h=>by have:=oq hc h;omega
   exact done c n hc h0
 | succ f ih=>
   intro c n hc hz hn;simp only [IQ];split
   ·rename_i h0;have:=ot hg hc Om h0;have k:=ih (GX g c) (n+1) (hc.round hg Om) Om Om;rwa [show ((n+1:Nat):Int)=(n:Int)+1 from rfl] at k
   ·rename_i h0;exact done c n hc h0
theorem yP {g:Graph} (hg:B3 g=true):∀(f:Nat) (c:List Int) (n:Nat),ColN g c n→Kc g c≤f→n+f≤100→loop (MQ g) (c,(n:Int))=some ((IQ g f c n).1,(IQ g f c n).2,0):=by
 obtain ⟨g1,g2,g3,g4,g5⟩:=Df hg;have stop:∀(c:List Int) (n:Nat),ColN g c n→(0:Int)∉c→loop (MQ g) (c,(n:Int))=some (c,(n:Int),0):=fun c n hc h0=>by have hl:=hc.len;rw [B5];dsimp only [MQ];rw [YT c 0 Om,OB,DN h0,A1];rfl
 intro f;induction f with
 | zero=>
   intro c n hc hz _;have h0:(0:Int)∉c:=fun h=>by have:=oq hc h;omega
   exact stop c n hc h0
 | succ f ih=>
   intro c n hc hz hn;have hl:=hc.len;simp only [IQ];by_cases h0:(0:Int)∈c
   ·rw [if_pos h0,B5];dsimp only [MQ];rw [YT c 0 Om,OB,DT h0,A3,zB g hg c (hc.I Om),OB,Al Om];have:=ot hg hc Om h0;exact ih (GX g c) (n+1) (hc.round hg Om) Om Om
   ·rw [if_neg h0];exact stop c n hc h0
def c0 (g:Graph):List Int:=List.replicate g.N.toNat 0
def DO (g:Graph):List Int:=(IQ g 64 (c0 g) 0).1
theorem r8 (g:Graph) (a:Int):cg (c0 g) a=0:=by unfold cg c0;rw [List.getElem?_replicate];split<;>rfl
theorem fL {g:Graph} (hg:B3 g=true):ColN g (c0 g) 0:=by
 obtain ⟨g1,_⟩:=Df hg;refine ⟨by simp [c0];omega,fun x hx=>?_,fun x hx=>?_,fun a b _ h _=>absurd (r8 g a) h⟩
 ·have:=List.eq_of_mem_replicate hx;omega
 ·have:=List.eq_of_mem_replicate hx;omega
theorem oo {g:Graph} (hg:B3 g=true) (c:List Int):Kc g c≤64:=by have:=Z24 g c;have:=(Df hg).2.1;omega
theorem fY {g:Graph} (hg:B3 g=true):FF g (DO g)=true∧(DO g).length≤64:=by have:=yO hg 64 (c0 g) 0 (fL hg) (oo hg _) Om;exact this
theorem zD (g:Graph) (hg:B3 g=true):Kz g=some (DO g,(IQ g 64 (c0 g) 0).2,0):=by
 obtain ⟨g1,g2,_⟩:=Df hg;simp only [Kz,P6,hg,if_true,OB,decide_true,Bool.not_true,A1];have e:OE 8 g.N 0=some (c0 g):=by unfold OE;rw [if_pos ⟨Om,Om⟩];rfl
 rw [e,OB];exact yP hg 64 (c0 g) 0 (fL hg) (oo hg _) Om
def K5 (g:Graph):SN:=⟨K9 g (DO g),[]⟩
theorem zu (g:Graph):OA g=some (if B3 g then (K5 g,0) else (⟨[],[]⟩,30)):=by
 cases hg:B3 g with
 | false=>
   have:Kz g=some ([],0,30):=by simp only [Kz,P6,hg,OB];rfl
   simp only [OA,this,OB];rfl
 | true=>obtain ⟨h1,h2⟩:=fY hg;simp only [OA,zD g hg,OB,decide_true,Bool.not_true,A1,zF g _ (show (DO g).length≤1000000 by omega),hg,h1,if_true];rfl
def Af (d:DI):Int×List Int:=(d.ID,d.SD.map (·.PE))
def qo:Bar:=⟨[],[]⟩
def H7 (g:Graph):Bar:=⟨(K5 g).DZ.map fun d=>⟨d,0,[]⟩,[]⟩
theorem zM (g:Graph):Qd g=some (if B3 g then (H7 g,0) else (qo,30)):=by
 simp only [Qd,zu,OB];cases hg:B3 g with
 | false=>rfl
 | true=>
   have hl:(K5 g).DZ.length≤64:=by have:=Z1S hg (DO g);have:=(Df hg).2.1;show (K9 g (DO g)).length≤64;omega
   rw [if_pos rfl,show decide ((0:Int)=0)=true from rfl,Bool.not_true,A1,if_pos rfl];refine CK (K5 g).DZ (Qf (K5 g,0)) (fun pre=>((pre.length:Int),pre.map fun d=>(⟨d,0,[]⟩:DK))) (H7 g,0) (fun pre x post h=>?_) ?_
   ·have hx:=Br h;have hm:=Bp h;dsimp only [Qf];rw [Ay hx,A3,Aj hx,OB,B0 _ _ Om (by simp;omega),OB,Al Om,AN];simp
   ·dsimp only [Qf];rw [AB,A1];rfl
theorem zx (n:NO) (h:FewN n):Ra n=some n:=by
 have h1:=h.sides;have h2:=h.need;have h3:=h.told;have h4:=h.known;have h5:=h.asked;have h6:=h.book;have hb:R9 n.BK=some n.BK:=by
  unfold R9;refine CK n.BK.SE _ (fun pre=>((pre.length:Int),pre)) _ (fun pre x post h0=>?_) ?_
  ·have hx:=Br h0;have hm:=Bp h0;have hN:=h.needs x (Dt h0);dsimp only [Wr];rw [Ay hx,A3,Aj hx,OB,B0 _ _ Om (by simp;omega),OB,List.nil_append,B0 _ _ Om (by simp;omega),OB,Al Om,AN]
  ·dsimp only [Wr,Wq];rw [AB,A1];rfl
 simp only [Ra,Wp,Wo,hb];rw [B0 _ _ Om (by simp;omega),OB,B0 _ _ Om (by simp;omega),OB,OB,OB,B0 _ _ Om (by simp;omega),OB,B0 _ _ Om (by simp;omega),OB,B0 _ _ Om (by simp;omega),OB];rfl
theorem nm (p:Int):Bm [p]=[p]:=Z0Y (by simp)
def K0 (d:DK):List KE:=d.DI.SD.map fun x=>⟨x.PE,x.EP⟩
def D1 (d:DK):NO:=⟨d,⟨0,[]⟩,K0 d,[],[]⟩
structure NewD (d:DK):Prop where
 din:DinOK d.DI
 id:d.DI.ID<64
 th:d.TH=0
 nd:d.NE=[]
 sd:∀x∈d.DI.SD,x.PE<64∧x.EP=1∧x.SS=0
theorem jX {d:DK} (h:NewD d):(K0 d).Pairwise fun x y=>x.PE<y.PE:=List.pairwise_map.2 h.din.up
theorem NewD.ok {d:DK} (h:NewD d):OkN (D1 d):=by
 refine ⟨⟨h.din,by rw [show (D1 d).DK.TH=0 from h.th];omega,by rw [show (D1 d).DK.TH=0 from h.th];omega,by rw [show (D1 d).DK.NE=[] from h.nd];exact .nil,fun _=>h.nd,by rw [show (D1 d).DK.NE=[] from h.nd];simp⟩,(by decide:DB ⟨0,[]⟩=true),by simp [D1],by simp [D1],h.id,jX h,?_,?_,.nil,by simp [D1],?_,.inl h.th,?_,by simp [D1]⟩
 ·intro k hk;obtain ⟨x,hx,rfl⟩:=List.mem_map.1 hk;have h1:=h.sd x hx;have h2:=(h.din.side x hx).lo;dsimp only;omega
 ·intro x hx;have h1:=h.sd x hx;have h2:BG (K0 d) x.PE=x.EP:=M9 (jX h) (k:=⟨x.PE,x.EP⟩) (List.mem_map.2 ⟨x,hx,rfl⟩);exact ⟨h1.1,Om,h2,fun e=>Om⟩
 ·rw [show (D1 d).DK.TH=0 from h.th];simp [Fv,D1]
 ·intro x hx hn;rw [show (D1 d).DK.NE=[] from h.nd] at hn;simp at hn
theorem Z0b {d:DK} (h:NewD d):RE d=some (D1 d,0):=by
 have hl:=h.din.len;unfold RE;refine CK d.DI.SD _ (fun pre=>((pre.length:Int),pre.map fun x=>(⟨x.PE,x.EP⟩:KE))) _ (fun pre x post h0=>?_) ?_
 ·have hx:=Br h0;have hm:=Bp h0;dsimp only [WK];rw [Ay hx,A3,Aj hx,OB,B0 _ _ Om (by simp;omega),OB,Al Om,AN,List.map_append];rfl
 ·dsimp only [WK,WJ];rw [AB,A1];have hc:Il (D1 d)=some 0:=by rw [YX _ h.ok.few,(IL _).2 h.ok];rfl
  rw [show (⟨d,⟨0,[]⟩,d.DI.SD.map fun x=>(⟨x.PE,x.EP⟩:KE),[],[]⟩:NO)=D1 d from rfl,hc,OB];have hk:(K0 d).length≤1000000:=by simp [K0];omega
  have ho:NK d.DI.ID d.DI.PH d.DI.SD d.TH d.NE 0 (K0 d)=some (d.DI.SD,d.NE,K0 d,[],[],[]):=by dsimp only [NK,X4,X5];rw [HG _ Om,OB,EN _ (by rw [h.nd];simp),OB,HF _ hk,OB,EN _ (by simp),OB,HF _ (by simp),OB,Ud _ (by simp),OB,B5];rfl
  show Option.map Sum.inr (A0 (!decide ((0:Int)=0)) _ ((NK d.DI.ID d.DI.PH d.DI.SD d.TH d.NE 0 (K0 d)).bind _))=_;rw [ho];rfl
theorem md (l:List ML) (p:ML→Option Bool) (q:ML→Bool) (hl:l.length≤4000000000000000000) (hp:∀x∈l,p x=some (q x)):Lp l p=some (Bf (l.findIdx? q)):=by
 unfold Lp;refine Hi l _ q hl (fun k x hx=>?_) ?_
 ·simp only [XW,Ay hx,A3,Aj hx,OB,hp x (List.mem_iff_getElem?.2 ⟨k,hx⟩),Di hx hl];cases q x<;>rfl
 ·simp only [XW,AB,A1,XV,Option.map_some]
theorem za (l:List ML) (p:ML→Option Bool) (q:ML→Bool) (hl:l.length≤4000000000000000000) (hp:∀x∈l,p x=some (q x)):Tg l p=some (l.any q):=by unfold Tg;rw [md l p q hl hp,OB,HC,Hc]
theorem YS (l:List ML) (h:l.length≤1000000):Lk l=some l:=by simp only [Lk];rw [B0 _ _ Om (by simp;omega),List.nil_append]
theorem dq (l:List NO) (h:l.length≤1000000):Ll l=some l:=by simp only [Ll];rw [B0 _ _ Om (by simp;omega),List.nil_append]
theorem zm (n:Nat) (hn:n≤3000000):Tt n=some []:=by
 have e0:wr (0-0)=0:=CT Om Om;have e1:wr ((n:Int)-0)=n:=by rw [CT Om Om];omega
 simp only [Tt,XM,Tu,e0,e1];rw [DN Om,A1];by_cases h:0<n
 ·rw [DT Om,A3];unfold LU;rw [if_pos ⟨Om,Om,Om⟩,OB];unfold Cj;rw [if_pos ⟨Om,Om,Om⟩];simp
 ·rw [DN Om,A1]
theorem dt (a b:List ML) (ha:a.length≤1000000) (hb:b.length≤1000000):Lm [a,b]=some (a++b):=by
 have g0:A4 [a,b] 0=some a:=rfl;have g1:A4 [a,b] (wr (0+1))=some b:=by rw [CT Om Om];rfl
 have l0:ln (Ci 5 ML.row) [a,b]=2:=by rw [B7];rfl
 have w1:wr (0+1)=1:=CT Om Om;have w2:wr (1+1)=2:=CT Om Om;have s1:wr (0+ln ML.row a)=(a.length:Int):=by rw [B7,CT Om Om];omega
 have s2:wr ((a.length:Int)+ln ML.row b)=((a.length+b.length:Nat):Int):=by rw [B7,CT Om Om];omega
 unfold Lm;rw [B5];dsimp only [Ta];rw [l0,show decide ((0:Int)<2)=true from rfl,A3,g0,OB,s1,DN Om,A1];dsimp only [T9];rw [s1,w1,B5];dsimp only [Ta];rw [l0,show decide ((1:Int)<2)=true from rfl,A3,←w1,g1,OB,s2,DN Om,A1];dsimp only [T9];rw [s2,w1,w2,B5];dsimp only [Ta];rw [l0,show decide ((2:Int)<2)=false from rfl,A1];dsimp only [Xt];rw [zm _ Om,OB];have k:loop (O6 [a,b]) (0,[])=some (a++b):=by rw [B5];dsimp only [O6];rw [l0,show decide ((0:Int)<2)=true from rfl,A3,g0,OB,B0 _ _ Om (by simp;omega),OB,List.nil_append,w1];dsimp only;rw [B5];dsimp only [O6];rw [l0,show decide ((1:Int)<2)=true from rfl,A3,←w1,g1,OB,B0 _ _ Om Om,OB,w1,w2];dsimp only;rw [B5];dsimp only [O6];rw [l0,show decide ((2:Int)<2)=false from rfl,A1];rfl
 rw [k];rfl
def I3:HL:=⟨[],[]⟩
structure HallOK (h:HL):Prop where
 nodes:∀(k:Nat) n,h.NS[k]?=some n→n.DK.DI.ID=k∧OkN n
 len:h.NS.length≤64
 mail:∀m∈h.ML,0≤m.From∧m.From<h.NS.length∧0≤m.To∧m.To<h.NS.length∧m.From≠m.To
 ml:h.ML.length≤1000000
theorem Fe (h:HL) (a:Int):Hp h a=some (decide (0≤a)&&decide (a<h.NS.length)):=by simp only [Hp,R7,B7];cases decide (0≤a)<;>rfl
theorem P9 {h:HL} (hk:HallOK h):Ii h=some 0:=by
 have hl:=hk.len;unfold Ii;refine CK h.NS _ (fun pre=>(pre.length:Int)) _ (fun pre x post h0=>?_) ?_
 ·have hx:=Br h0;have hm:=Bp h0;obtain ⟨q1,q2⟩:=hk.nodes _ _ hx;dsimp only [W4,QZ];rw [Ay hx,A3,Aj hx,OB,DT q1,Bool.not_true,A1,YX x q2.few,(IL x).2 q2,if_pos rfl,OB,show (!decide ((0:Int)=0))=false by decide,A1,Al Om,AN]
 ·dsimp only [W4,W2];rw [AB,A1,B7,DN Om,A1];rw [za h.ML _ (fun _=>false) (by have:=hk.ml;omega) (fun m hm=>by obtain ⟨a1,a2,a3,a4,a5⟩:=hk.mail m hm;dsimp only [W1,Nf];rw [Fe,OB,DT a1,DT a2,Bool.and_true,Bool.not_true,A1,Fe,OB,DT a3,DT a4,Bool.and_true,Bool.not_true,A1,DN a5])];simp only [List.any_eq_false.2 (fun _ _=>Bool.false_ne_true),OB];rfl
theorem Z09 (h:HL) (hf:∀n∈h.NS,FewN n) (hl:h.NS.length≤1000000) (hm:h.ML.length≤1000000):Rk h=some h:=by
 unfold Rk;rw [B0 _ _ Om (by simp;omega),OB,List.nil_append];refine CK h.NS _ (fun pre=>((pre.length:Int),pre)) _ (fun pre x post h0=>?_) ?_
 ·have hx:=Br h0;have hm':=Bp h0;dsimp only [WD];rw [Ay hx,A3,Aj hx,OB,zx x (hf x (Dt h0)),OB,B0 _ _ Om (by simp;omega),OB,Al Om,AN]
 ·dsimp only [WD,WC];rw [AB,A1];rfl
theorem fD {g:Graph} (hg:B3 g=true) (E:g.N≤24):∀d∈(H7 g).DS,NewD d:=by
 intro d hd;obtain ⟨e,he,rfl⟩:=List.mem_map.1 hd;obtain ⟨a,ha,rfl⟩:=List.mem_map.1 he;have ha':=List.mem_range.1 ha;have h0:=(Df hg).1;have h6:=jW hg (a:Int);have h8:((B9 g a).length:Int)≤g.N:=Pn h6 h0 fun x hx=>by have:=GH hg hx;omega
 refine ⟨⟨by dsimp only [Fp];omega,by dsimp only [Fp];omega,by dsimp only [Fp];omega,by dsimp only [Fp];rw [List.length_map];omega,List.pairwise_map.2 h6,?_⟩,by dsimp only [Fp];omega,rfl,rfl,?_⟩
 ·intro x hx;obtain ⟨b,hb,rfl⟩:=List.mem_map.1 hx;have:=GH hg hb;refine ⟨this.1,this.2.2.1,by dsimp only [Dv];omega,by dsimp only [Dv];omega,by dsimp only [Dv];omega,by dsimp only [Dv];omega,fun h=>h⟩
 ·intro x hx;obtain ⟨b,hb,rfl⟩:=List.mem_map.1 hx;have:=GH hg hb;exact ⟨by dsimp only [Dv];omega,rfl,rfl⟩
theorem UF {g:Graph} (hg:B3 g=true):((H7 g).DS.length:Int)=g.N:=by have h0:=(Df hg).1;simp only [H7,K5,K9,List.length_map,List.length_range];omega
theorem qp {g:Graph} {k:Nat} {d:DK} (h:(H7 g).DS[k]?=some d):d.DI.ID=k:=by simp only [H7,K5,K9,List.getElem?_map,Option.map_eq_some_iff] at h;obtain ⟨e,⟨a,ha,rfl⟩,rfl⟩:=h;rw [List.getElem?_eq_some_iff] at ha;obtain ⟨_,ha⟩:=ha;rw [List.getElem_range] at ha;subst ha;rfl
def DQ (g:Graph):HL:=⟨(H7 g).DS.map D1,[]⟩
theorem gZ {g:Graph} (hg:B3 g=true) (E:g.N≤24):HallOK (DQ g):=by have hl:=UF hg;refine ⟨fun k n hn=>?_,by simp only [DQ,List.length_map];omega,by simp [DQ],by simp [DQ]⟩;simp only [DQ,List.getElem?_map,Option.map_eq_some_iff] at hn;obtain ⟨d,hd,rfl⟩:=hn;exact ⟨qp hd,(fD hg E d (List.mem_iff_getElem?.2 ⟨k,hd⟩)).ok⟩
theorem ms (g:Graph) (E:g.N≤24):KM g=some (if B3 g then (DQ g,0) else (I3,30)):=by
 unfold KM;rw [zM];cases hg:B3 g with
 | false=>rw [if_neg (by simp),if_neg (by simp)];rfl
 | true=>
   rw [if_pos rfl,if_pos rfl,OB,show (!decide ((0:Int)=0))=false by decide,A1];have hl:=UF hg;refine CK (H7 g).DS _ (fun pre=>((pre.length:Int),pre.map D1)) _ (fun pre x post h0=>?_) ?_
   ·have hx:=Br h0;have hm:=Bp h0;dsimp only [W7];rw [Ay hx,A3,Aj hx,OB,Z0b (fD hg E x (Dt h0)),OB,show (!decide ((0:Int)=0))=false by decide,A1,B0 _ _ Om (by simp;omega),OB,Al Om,AN,List.map_append];rfl
   ·dsimp only [W7,W6];rw [AB,A1];rfl
theorem HallOK.at {h:HL} (hk:HallOK h) {n:NO} (hn:n∈h.NS):OkN n:=by obtain ⟨k,hk'⟩:=List.mem_iff_getElem?.1 hn;exact (hk.nodes k n hk').2
theorem Z0X (E:Int) (A:List NO) (n:NO) (hn:n.BK.SE.length≤1000000) (hs:∀s∈n.BK.SE,s.NE.length≤1000000) (r:Int×List NO ⊕ HL) (hr:R5 E A n n.BK.SE=some r):loop (R6 E A n n.BK.SE) (0,n.BK.SE)=some r:=by
 refine CK n.BK.SE _ (fun pre=>((pre.length:Int),n.BK.SE)) _ (fun pre x post h0=>?_) ?_
 ·have hx:=Br h0;have hm:=Bp h0;dsimp only [R6,Wm];rw [Ay hx,A3,Aj hx,OB,EN _ (hs x (Dt h0)),OB,show (⟨x.ID,x.NE,x.SS,x.Age⟩:SE)=x from rfl,Int.toNat_natCast,LD hx,Al Om,AN]
 ·dsimp only [R6];rw [AB,A1,hr];rfl
theorem mw {h:HL} (hk:HallOK h):Nh h=some h:=by
 have hl:=hk.len;unfold Nh;rw [YS _ (by have:=hk.ml;omega),OB,dq _ Om,OB];dsimp only [Wi];refine CK h.NS _ (fun pre=>((pre.length:Int),h.NS)) _ (fun pre x post h0=>?_) ?_
 ·have hx:=Br h0;have hm:=Bp h0;have hf:=(hk.at (Dt h0)).few;have hb:=hf.bk;dsimp only [Wn];rw [Ay hx,A3,Aj hx,OB,HG _ (by have:=hf.sides;omega),OB,EN _ (by have:=hf.need;omega),OB];rw [show (⟨⟨⟨x.DK.DI.ID,x.DK.DI.PH,x.DK.DI.SD⟩,x.DK.TH,x.DK.NE⟩,x.BK,x.KN,x.TL,x.AK⟩:NO)=x from rfl,Int.toNat_natCast,LD hx];dsimp only [Wk];rw [Aj hx,OB,HF _ (by have:=hf.known;omega),OB,EN _ (by have:=hf.told;omega),OB,HF _ (by have:=hf.asked;omega),OB];rw [show (⟨x.DK,x.BK,x.KN,x.TL,x.AK⟩:NO)=x from rfl,Int.toNat_natCast,LD hx];dsimp only [Wl];rw [Aj hx,OB,Ud _ hb.1,OB];refine Z0X _ _ x hb.1 hb.2 _ ?_;dsimp only [R5];rw [show (⟨x.DK,⟨x.BK.LA,x.BK.SE⟩,x.KN,x.TL,x.AK⟩:NO)=x from rfl,Int.toNat_natCast,LD hx,Al Om,AN]
 ·dsimp only [Wn,Wj];rw [AB,A1];rfl
def Jj (h:HL) (k:Nat) (M:List ML) (r:NO×List ML×List EV×Int):HL×List EV×Int:=if r.2.2.2=0 then (⟨h.NS.set k r.1,M++r.2.1⟩,r.2.2.1,0) else (I3,[],r.2.2.2)
theorem dB {h:HL} (hk:HallOK h) {k:Nat} {n:NO} (hn:h.NS[k]?=some n) {a:Do} (hp:a.KI=4→0≤a.PE∧a.PE<h.NS.length) {r:NO×List ML×List EV×Int} (hr:JF n a=some r) (hl:r.2.1.length≤1000000):
  Ho h k a=some (Jj h k h.ML r):=by
 have hlt:=(List.getElem?_eq_some_iff.1 hn).1;have h6:=hk.len;have h8:=hk.ml;have hj:KL h k a false=some (Jj h k h.ML r):=by
  dsimp only [KL];rw [A1,mw hk,OB];dsimp only [W9,VY];rw [Aj hn,OB,hr,OB,OB];dsimp only [Wa];unfold Jj;by_cases e:r.2.2.2=0
  ·rw [DT e,Bool.not_true,A1,dq _ Om,OB,dt _ _ Om hl,OB,if_pos e];dsimp only [Wc];rw [Aj hn];rfl
  ·rw [DN e,Bool.not_false,A3,if_neg e];rfl
 unfold Ho;rw [P9 hk,OB,show (!decide ((0:Int)=0))=false by decide,A1,Fe,OB,DT Om,DT Om,Bool.and_true,Bool.not_true,A1];by_cases e:a.KI=4
 ·have:=hp e;rw [DT e,A3,Fe,OB,DT this.1,DT this.2,Bool.and_true,Bool.not_true,hj]
 ·rw [DN e,A1,hj]
theorem mn (l:List ML) (a b:Int) (hl:l.length≤1000000):Lp l (fun z=>R0 z a b)=some (Bf (l.findIdx? fun m=>decide (m.From=a)&&decide (m.To=b))):=by refine md l _ _ Om fun m _=>?_;dsimp only [R0,R4];cases decide (m.From=a)<;>rfl
theorem dD {h:HL} (hk:HallOK h) {a:Int} (ha:0≤a∧a<h.NS.length) {k:Nat} {n:NO} (hn:h.NS[k]?=some n) {i:Nat} (hi:(h.ML.findIdx? fun m=>decide (m.From=a)&&decide (m.To=(k:Int)))=some i) {m:ML} (hm:h.ML[i]?=some m)
  {r:NO×List ML×List EV×Int} (hr:Im n a m.Msg=some r) (hl:r.2.1.length≤1000000):Er h a k=some (Jj h k (h.ML.take i++h.ML.drop (i+1)) r):=by
 have hlt:=(List.getElem?_eq_some_iff.1 hn).1;have h9:=(List.getElem?_eq_some_iff.1 hm).1;have h8:=hk.len;have h6:=hk.ml;unfold Er;rw [P9 hk,OB,show (!decide ((0:Int)=0))=false by decide,A1,Fe,OB,DT ha.1,DT ha.2,Bool.and_true,Bool.not_true,A1,Fe,OB,DT Om,DT Om,Bool.and_true,Bool.not_true];dsimp only [Ng];rw [A1,mn _ _ _ h6,hi,OB];rw [show Bf (some i)=(i:Int) from rfl];rw [DN Om,A1,Aj hm,OB];have e1:Cj h.ML 0 (i:Int)=some (h.ML.take i):=by unfold Cj;rw [if_pos ⟨Om,Om,Om⟩];simp
 have e2:Cj h.ML (wr ((i:Int)+1)) (ln ML.row h.ML)=some (h.ML.drop (i+1)):=by rw [Al Om,B7];unfold Cj;rw [if_pos ⟨Om,Om,Om⟩];simp
 rw [e1,OB,e2,OB,mw hk,OB,dt _ _ (by simp;omega) (by simp;omega),OB];dsimp only [Wf,W5];rw [Aj hn,OB,hr,OB,OB];dsimp only [Wg];unfold Jj;by_cases e:r.2.2.2=0
 ·rw [DT e,Bool.not_true,A1,dq _ Om,OB,dt _ _ (by simp;omega) hl,OB,if_pos e];dsimp only [Wh];rw [Aj hn];rfl
 ·rw [DN e,Bool.not_false,A3,if_neg e];rfl
theorem mr {h:HL} (hk:HallOK h) {a b:Int} (ha:0≤a∧a<h.NS.length) (hb:0≤b∧b<h.NS.length) (hi:(h.ML.findIdx? fun m=>decide (m.From=a)&&decide (m.To=b))=none):Er h a b=some (I3,[],192):=by have h6:=hk.ml;unfold Er;rw [P9 hk,OB,show (!decide ((0:Int)=0))=false by decide,A1,Fe,OB,DT ha.1,DT ha.2,Bool.and_true,Bool.not_true,A1,Fe,OB,DT hb.1,DT hb.2,Bool.and_true,Bool.not_true];dsimp only [Ng];rw [A1,mn _ _ _ h6,hi,OB];rfl
theorem zg (l m:List ML) (hl:l.length≤1000000):Tq l m=some (decide (l=m)):=by
 simp only [Tq,Mz];by_cases h:l.length=m.length
 ·simp only [h,decide_true,Bool.not_true,A1];rw [MA l m _ (fun x y=>decide (x=y)) h Om (fun k x y hx hy=>by simp only [XH,Ay hx,A3,Aj hx,Aj hy,OB,eX,Di hx (show l.length≤4000000000000000000 by omega),Jl];cases decide (x=y)<;>rfl) (by simp only [XH,AB,A1,XG,Option.map_some]),LK l m h]
 ·simp [h,My h]
theorem zh (l m:List NO) (hf:∀n∈l,FewN n) (hl:l.length≤1000000):Tn l m (fun z=>Ip z.1 z.2)=some (decide (l=m)):=by
 simp only [Tn,Mz];by_cases h:l.length=m.length
 ·simp only [h,decide_true,Bool.not_true,A1];rw [MA l m _ (fun x y=>decide (x=y)) h Om (fun k x y hx hy=>by simp only [XB,Ay hx,A3,Aj hx,Aj hy,OB,mA x y (hf x (List.mem_iff_getElem?.2 ⟨k,hx⟩)),Di hx (show l.length≤4000000000000000000 by omega),Jl];cases decide (x=y)<;>rfl) (by simp only [XB,AB,A1,XA,Option.map_some]),LK l m h]
 ·simp [h,My h]
theorem my (h g:HL) (hf:∀n∈h.NS,FewN n) (hl:h.NS.length≤1000000) (hm:h.ML.length≤1000000):Jz h g=some (decide (h.NS=g.NS)&&decide (h.ML=g.ML)):=by
 unfold Jz;rw [zh _ _ hf hl,OB];cases decide (h.NS=g.NS) with
 | false=>rfl
 | true=>rw [A3,zg _ _ hm];rfl
theorem dC (h:HL) (hf:∀n∈h.NS,FewN n) (hl:h.NS.length≤1000000) (hm:h.ML.length≤1000000):Jy h=some ⟨h.NS.map (·.DK),h.ML⟩:=by
 unfold Jy;rw [YS _ hm,OB];refine CK h.NS _ (fun pre=>((pre.length:Int),pre.map (·.DK))) _ (fun pre x post h0=>?_) ?_
 ·have hx:=Br h0;have hm':=Bp h0;have q:=hf x (Dt h0);dsimp only [W0];rw [Ay hx,A3,Aj hx,OB,HG _ (by have:=q.sides;omega),OB,EN _ (by have:=q.need;omega),OB,B0 _ _ Om (by simp;omega),OB,Al Om,AN,List.map_append];rfl
 ·dsimp only [W0,VZ];rw [AB,A1];rfl
def aA:NO:=⟨⟨⟨0,0,[]⟩,0,[]⟩,⟨0,[]⟩,[],[],[]⟩
def aB:NO:=⟨⟨⟨1,0,[]⟩,0,[]⟩,⟨0,[]⟩,[],[],[]⟩
def xA:SX:=⟨1,1,1,true,true,false,true,false⟩
def I9:NO:=⟨⟨⟨0,0,[xA]⟩,0,[]⟩,⟨0,[]⟩,[⟨1,1⟩],[],[]⟩
def OG:NO:=⟨⟨⟨0,2,[xA]⟩,0,[]⟩,⟨0,[]⟩,[⟨1,1⟩],[],[]⟩
def Ef:NO:=⟨⟨⟨0,2,[xA]⟩,0,[]⟩,⟨0,[]⟩,[⟨1,1⟩],[1],[]⟩
def jF:NO:=⟨⟨⟨1,0,[]⟩,0,[]⟩,⟨0,[]⟩,[],[],[⟨0,1⟩]⟩
def yB:SX:=⟨0,1,0,false,false,true,false,true⟩
def OH:NO:=⟨⟨⟨1,0,[yB]⟩,0,[]⟩,⟨0,[]⟩,[⟨0,1⟩],[],[]⟩
def oh:SX:=⟨1,1,0,true,true,false,true,false⟩
def jE:NO:=⟨⟨⟨0,2,[oh]⟩,0,[]⟩,⟨0,[]⟩,[⟨1,1⟩],[],[]⟩
def TU:NO:=⟨⟨⟨0,0,[oh]⟩,0,[]⟩,⟨0,[]⟩,[⟨1,1⟩],[],[]⟩
def w0:HL:=⟨[aA,aB],[]⟩
def w1:HL:=⟨[Ef,aB],[⟨0,1,⟨5,1,0⟩⟩]⟩
def w2:HL:=⟨[Ef,OH],[⟨1,0,⟨6,1,0⟩⟩]⟩
def w3:HL:=⟨[TU,OH],[]⟩
theorem kX:OkN aA:=(IL _).1 (by decide)
theorem cW:OkN aB:=(IL _).1 (by decide)
theorem cY:OkN Ef:=(IL _).1 (by decide)
theorem kY:OkN OH:=(IL _).1 (by decide)
theorem xr:OkN TU:=(IL _).1 (by decide)
theorem Zp {a b:NO} (ha:OkN a) (hb:OkN b) (E:a.DK.DI.ID=0) (J:b.DK.DI.ID=1) {M:List ML} (hM:∀m∈M,(m.From=0∧m.To=1)∨(m.From=1∧m.To=0)) (hl:M.length≤1000):HallOK ⟨[a,b],M⟩:=by
 refine ⟨fun k n hn=>?_,by simp,fun m hm=>?_,by dsimp only;omega⟩
 ·rcases k with _ | _ | k
  ·simp at hn;subst hn;exact ⟨E,ha⟩
  ·simp at hn;subst hn;exact ⟨J,hb⟩
  ·simp at hn
 ·have:=hM m hm;simp only [List.length_cons,List.length_nil];omega
theorem xt:HallOK w0:=Zp kX cW rfl rfl (by simp) (by simp)
theorem kZ:HallOK w1:=Zp cY cW rfl rfl (by simp) (by simp)
theorem xu:HallOK w2:=Zp cY kY rfl rfl (by simp) (by simp)
theorem YD:HallOK w3:=Zp xr kY rfl rfl (by simp) (by simp)
theorem HallOK.few {h:HL} (hk:HallOK h):∀n∈h.NS,FewN n:=fun _ hn=>(hk.at hn).few
theorem xB:onceN I9=Ef∧Dg I9=[⟨0,1,⟨5,1,0⟩⟩]∧EK I9=[]:=by
 have e1:AS I9=OG:=by decide
 have e2:AG OG=OG:=by decide
 have e3:Cv OG=([1],[⟨0,1,⟨5,1,0⟩⟩]):=by unfold Cv;rw [if_pos (show OG.DK.DI.PH=2 from rfl)];show Ca 0 [xA] [] []=_;unfold Ca;rw [show Cw [] xA=true by decide,if_pos rfl];show Ca 0 [] (Bm [1]) _=_;rw [nm];rfl
 have e4:BT OG=Ef:=by unfold BT;rw [e3];rfl
 have e5:Dn Ef=Ef:=by decide
 have e6:E3 Ef=[]:=by decide
 have e7:(Bo (Bx I9).DK).2=[]:=by decide
 have e8:DH I9=[]:=by decide
 have e9:EK I9=[]:=by decide
 unfold onceN Dg;rw [e1,e2,e4,e3,e5,e6,e7,e8];exact ⟨rfl,rfl,e9⟩
theorem yD:Bu I9 [] []=(Ef,[⟨0,1,⟨5,1,0⟩⟩],[]):=by
 obtain ⟨e1,e2,e3⟩:=xB;have h:onceN Ef=Ef:=by decide
 unfold Bu;rw [Fh,e1,e2,e3,if_neg (by decide),Fh,h,if_pos rfl];rfl
theorem yF:Bu jF [] []=(OH,[⟨1,0,⟨6,1,0⟩⟩],[⟨6,1,0,0,[]⟩]):=by decide
theorem yE:Bu jE [] [⟨6,0,0,1,[]⟩]=(TU,[],[⟨6,0,0,1,[]⟩]):=by decide
theorem q7:JF aA ⟨4,0,1,0,[]⟩=some (Ef,[⟨0,1,⟨5,1,0⟩⟩],[],0):=by
 have a1:AW aA ⟨4,0,1,0,[]⟩=(0,I9,[]):=by decide
 rw [lX aA _ kX (by simp),a1];unfold Dh;rw [if_pos rfl,yD]
theorem tE:Im aB 0 ⟨5,1,0⟩=some (OH,[⟨1,0,⟨6,1,0⟩⟩],[⟨6,1,0,0,[]⟩],0):=by
 have a1:B1 aB 0 ⟨5,1,0⟩=(0,jF,[]):=by decide
 rw [du aB _ _ cW,a1];unfold Dh;rw [if_pos rfl,yF]
theorem tH:Im Ef 1 ⟨6,1,0⟩=some (TU,[],[⟨6,0,0,1,[]⟩],0):=by
 have a1:B1 Ef 1 ⟨6,1,0⟩=(0,jE,[⟨6,0,0,1,[]⟩]):=by unfold B1 Hh;rw [show Ef.TL=[1] from rfl,nm];decide
 rw [du Ef _ _ cY,a1];unfold Dh;rw [if_pos rfl,yE]
theorem P8:Hq=some true:=by
 have e1:KM ⟨2,[]⟩=some (w0,0):=by rw [ms _ (by decide),if_pos (show B3 ⟨2,[]⟩=true by decide)];rfl
 have e2:Ho w0 0 ⟨4,0,1,0,[]⟩=some (w1,[],0):=by have:=dB xt (k:=0) (n:=aA) rfl (a:=⟨4,0,1,0,[]⟩) (fun _=>by decide) q7 (by simp);exact this
 have e3:Er w1 0 1=some (w2,[⟨6,1,0,0,[]⟩],0):=by have:=dD kZ (a:=0) (by decide) (k:=1) (n:=aB) rfl (i:=0) (by decide) (m:=⟨0,1,⟨5,1,0⟩⟩) rfl tE (by simp);exact this
 have e4:Er w2 1 0=some (w3,[⟨6,0,0,1,[]⟩],0):=by have:=dD xu (a:=1) (by decide) (k:=0) (n:=Ef) rfl (i:=0) (by decide) (m:=⟨1,0,⟨6,1,0⟩⟩) rfl tH (by simp);exact this
 have e5:Er w3 1 0=some (I3,[],192):=mr YD (by decide) (by decide) (by decide);have e6:Jy w3=some ⟨[TU.DK,OH.DK],[]⟩:=dC w3 YD.few (by decide) (by decide);have e7:Ii w3=some 0:=P9 YD;have e8:Jz w3 w3=some true:=by rw [my w3 w3 YD.few (by decide) (by decide)];decide
 have e9:Jz w1 w2=some false:=by rw [my w1 w2 kZ.few (by decide) (by decide)];decide
 unfold Hq;rw [e1,OB,e2,OB,e3,OB,e4,OB,e5,OB,e6,OB];dsimp only;rw [e7,e8,e9];rfl
theorem U6 (n:NO):(onceN n).DK.DI.ID=n.DK.DI.ID:=(Mc (Bx n).DK).id.trans (YL n)
theorem nr:∀(k:Nat) (n:NO) (E:List ML) (V:List EV),OkN n→(Fh k n E V).2.1.length≤E.length+500*k∧(Fh k n E V).2.2.length≤V.length+500*k
 | 0,_,_,_,_=>by unfold Fh;exact ⟨by dsimp only;omega,by dsimp only;omega⟩
 | k+1,n,E,V,h=>by
   unfold Fh;split
   ·exact ⟨by dsimp only;omega,by dsimp only;omega⟩
   ·have:=nr k (onceN n) (E++Dg n) (V++EK n) h.once;have l1:=l4 h;have l2:=l6 h;rw [List.length_append,List.length_append] at this;omega
theorem yC {n:NO} (h:OkN n) (E:List ML) (V:List EV):(Bu n E V).2.1.length≤E.length+4500∧(Bu n E V).2.2.length≤V.length+4500:=nr 9 n E V h
theorem jP (n:NO):(AS n).DK.DI.ID=n.DK.DI.ID:=U6 n
def Ux (id:Int) (m:ML):Prop:=m.From=id∧m.To≠id∧m.Msg.Num=0
theorem cu {n:NO} (h:OkN n) {m:ML} (hm:Lq n.DK.DI.ID n.DK.DI.SD m):Ux n.DK.DI.ID m:=by obtain ⟨h1,⟨x,hx,e⟩,h3⟩:=hm;have:=h.peer0 hx;exact ⟨h1,Om,h3⟩
theorem l5 {n:NO} (h:OkN n) {m:ML} (hm:m∈Dg n):Ux n.DK.DI.ID m:=by
 have hg:=h.pre.firgra;have h6:(AG (AS n)).DK.DI.ID=n.DK.DI.ID:=jP n;unfold Dg at hm;rcases List.mem_append.1 hm with hm | hm
 ·unfold DH at hm;split at hm
  ·simp at hm
  ·unfold Eo at hm;obtain ⟨k,hk,rfl⟩:=List.mem_map.1 hm;have:=h.may k hk;exact ⟨rfl,by show k.PE≠_;omega,rfl⟩
 ·rcases List.mem_append.1 hm with hm | hm
  ·have:=cu h.pre (te m hm);rw [YL] at this;exact this
  ·rcases List.mem_append.1 hm with hm | hm
   ·rw [←h6];refine cu hg ?_;unfold Cv at hm;split at hm
    ·exact ez _ _ _ _ _ (fun x hx=>hx) (by simp) m hm
    ·simp at hm
   ·rw [←h6];refine cu hg ?_;unfold E3 BB at hm;obtain ⟨x,hx,hm⟩:=List.mem_flatMap.1 hm;unfold F5 at hm;split at hm
    ·simp at hm;subst hm;exact ⟨rfl,⟨x,hx,rfl⟩,rfl⟩
    ·simp at hm
theorem lO {n:NO} (h:OkN n) {V:List EV}:∀m∈(Bu n [] V).2.1,Ux n.DK.DI.ID m:=
 (P2 (P:=fun m E _=>m.DK.DI.ID=n.DK.DI.ID∧∀x∈E,Ux n.DK.DI.ID x) (fun m E V hm hP=>⟨(U6 m).trans hP.1,fun v hv=>by
   rcases List.mem_append.1 hv with hv | hv
   ·exact hP.2 v hv
   ·have:=l5 hm hv;rw [hP.1] at this;exact this⟩) h ⟨rfl,by simp⟩).2
theorem YI (m:NO) (V:List EV):Dh 0 m V=((Bu m [] V).1,(Bu m [] V).2.1,(Bu m [] V).2.2,0):=rfl
theorem lm {e:Int} (h:e≠0) (m:NO) (V:List EV):Dh e m V=(Yp,[],[],e):=by unfold Dh;rw [if_neg h]
def Bq (k e:Int) (l:List Msg):Nat:=l.countP fun m=>decide (m.KI=k)&&decide (m.EP=e)
theorem Ha (k e:Int) (a b:List Msg):Bq k e (a++b)=Bq k e a+Bq k e b:=List.countP_append
theorem Kk (k e:Int) (m:Msg) (l:List Msg):Bq k e (m::l)=(if m.KI=k∧m.EP=e then 1 else 0)+Bq k e l:=by unfold Bq;rw [List.countP_cons];simp only [Bool.and_eq_true,decide_eq_true_eq];omega
theorem a8 (k e:Int):Bq k e []=0:=rfl
def E2 (k:Int):Prop:=k=1∨k=2∨k=3∨k=4
def Pk (m:Msg):Prop:=E2 m.KI∧m.Num=0
def Bl (e:Int) (l:List Msg):Prop:=∀m∈l,Pk m∧m.EP≤e
theorem Bl.mono {e f:Int} {l:List Msg} (h:Bl e l) (hf:e≤f):Bl f l:=fun m hm=>⟨(h m hm).1,Int.le_trans (h m hm).2 hf⟩
theorem Bl.app {e:Int} {a b:List Msg} (h:Bl e a) (k:Bl e b):Bl e (a++b):=fun m hm=>(List.mem_append.1 hm).elim (h m) (k m)
theorem Bl.nil (e:Int):Bl e []:=fun _ h=>by simp at h
theorem Bl.tail {e:Int} {m:Msg} {l:List Msg} (h:Bl e (m::l)):Bl e l:=fun x hx=>h x (List.mem_cons_of_mem _ hx)
theorem Bl.cnt {e f k:Int} {l:List Msg} (h:Bl e l) (hf:e<f):Bq k f l=0:=by unfold Bq;rw [List.countP_eq_zero];intro m hm;have:=(h m hm).2;simp only [Bool.and_eq_true,decide_eq_true_eq];omega
structure Vw where
 sd:Option SX
 kn:Int
 tl:Bool
 ak:Option Int
def HB (x:SX):Prop:=x.FK=true∧x.TO=false∧x.BO=true∧x.Ask=false
def Fc (x y:SX) (e:Int) (ab ba:List Msg):Prop:=∀k,E2 k→bn (Bc k x)+bn (Bc k y)+Bq k e ab+Bq k e ba=1
def wW (x:SX) (e:Int) (ba:List Msg):Prop:=∀k,E2 k→bn (Bc k x)+Bq k e ba≤1
inductive EI (a b:Vw) (ab ba:List Msg):Prop
 | no (ha:a.sd=none) (hb:b.sd=none) (hk:b.ak=none) (hle:b.kn≤a.kn) (h1:Bl a.kn ab) (h2:Bl a.kn ba)
 | op (x:SX) (ha:a.sd=some x) (hx:x.SS=1) (hn:HB x) (he:x.EP=a.kn) (ht:a.tl=false) (hb:b.sd=none) (hk:b.ak=none) (hlt:b.kn<a.kn) (h1:Bl (a.kn-1) ab) (h2:Bl (a.kn-1) ba)
 | nw (x:SX) (u:List Msg) (ha:a.sd=some x) (hx:x.SS=1) (hn:HB x) (he:x.EP=a.kn) (ht:a.tl=true) (hb:b.sd=none) (hk:b.ak=none) (hlt:b.kn<a.kn) (hab:ab=u++[⟨5,a.kn,0⟩]) (h1:Bl (a.kn-1) u) (h2:Bl (a.kn-1) ba)
 | sk (x:SX) (ha:a.sd=some x) (hx:x.SS=1) (hn:HB x) (he:x.EP=a.kn) (ht:a.tl=true) (hb:b.sd=none) (hk:b.ak=some a.kn) (hlt:b.kn<a.kn) (h1:Bl (a.kn-1) ab) (h2:Bl (a.kn-1) ba)
 | kw (x y:SX) (u w:List Msg) (ha:a.sd=some x) (hx:x.SS=1) (hn:HB x) (he:x.EP=a.kn) (ht:a.tl=true) (hb:b.sd=some y) (hy:y.SS=0) (hf:y.EP=a.kn) (hk:b.ak=none) (hkn:b.kn=a.kn)
    (hba:ba=u++⟨6,a.kn,0⟩::w) (h1:Bl (a.kn-1) u) (h2:Bl a.kn w) (h3:Bl (a.kn-1) ab) (ho:Fc x y a.kn ab w)
 | lv (x y:SX) (ha:a.sd=some x) (hx:x.SS=0∨x.SS=2) (he:x.EP=a.kn) (hb:b.sd=some y) (hy:y.SS=0) (hf:y.EP=a.kn) (hk:b.ak=none) (hkn:b.kn=a.kn) (h1:Bl a.kn ab) (h2:Bl a.kn ba) (ho:Fc x y a.kn ab ba)
 | cl (x y:SX) (u w:List Msg) (ha:a.sd=some x) (hx:x.SS=3) (he:x.EP=a.kn) (hb:b.sd=some y) (hy:y.SS=0) (hf:y.EP=a.kn) (hk:b.ak=none) (hkn:b.kn=a.kn) (hab:ab=u++⟨7,a.kn,0⟩::w) (h1:Bl a.kn u) (h3:Bl a.kn w) (h2:Bl a.kn ba) (ho:Fc x y a.kn (u++w) ba)
 | lg (x y:SX) (ha:a.sd=some x) (hx:x.SS=3) (he:x.EP=a.kn) (hb:b.sd=some y) (hy:y.SS=2) (hf:y.EP=a.kn) (hk:b.ak=none) (hkn:b.kn=a.kn) (h1:Bl a.kn ab) (h2:Bl a.kn ba) (ho:Fc x y a.kn ab ba)
 | cd (x:SX) (u:List Msg) (ha:a.sd=some x) (hx:x.SS=3) (he:x.EP=a.kn) (hb:b.sd=none) (hk:b.ak=none) (hkn:b.kn=a.kn) (hba:ba=u++[⟨8,a.kn,0⟩]) (h1:Bl a.kn ab) (h2:Bl a.kn u) (ho:wW x a.kn u)
structure FireP (x x':SX) (o:List Msg):Prop where
 pr:x'.PE=x.PE
 ep:x'.EP=x.EP
 st:x'.SS=x.SS
 al:∀m∈o,Pk m∧m.EP=x.EP
 fl:∀k,E2 k→bn (Bc k x')+Bq k x.EP o=bn (Bc k x)
 nw:HB x→HB x'∧o=[]
theorem FireP.refl (x:SX):FireP x x []:=⟨rfl,rfl,rfl,by simp,fun _ _=>rfl,fun h=>⟨h,rfl⟩⟩
theorem FireP.trans {x y z:SX} {o p:List Msg} (h:FireP x y o) (k:FireP y z p):FireP x z (o++p):=by
 refine ⟨k.pr.trans h.pr,k.ep.trans h.ep,k.st.trans h.st,fun m hm=>?_,fun q hq=>?_,fun hn=>?_⟩
 ·rcases List.mem_append.1 hm with hm | hm
  ·exact h.al m hm
  ·have:=k.al m hm;rw [h.ep] at this;exact this
 ·have h1:=h.fl q hq;have h2:=k.fl q hq;rw [h.ep] at h2;rw [Ha];omega
 ·obtain ⟨h1,h2⟩:=h.nw hn;obtain ⟨h3,h4⟩:=k.nw h1;exact ⟨h3,by rw [h2,h4];rfl⟩
theorem FireP.tle {x x':SX} {o:List Msg} (h:FireP x x' o):Bl x.EP o:=fun m hm=>⟨(h.al m hm).1,by rw [(h.al m hm).2];exact Int.le_refl _⟩
inductive LsE (lo:Bool):Vw→List Msg→Vw→Prop
 | nil (v:Vw):LsE lo v [] v
 | fire (v:Vw) (x x':SX) (o:List Msg) (h:v.sd=some x) (hf:FireP x x' o):LsE lo v o ⟨some x',v.kn,v.tl,v.ak⟩
 | tell (v:Vw) (x:SX) (hl:lo=true) (h:v.sd=some x) (hs:x.SS=1) (ht:v.tl=false):LsE lo v [⟨5,x.EP,0⟩] ⟨v.sd,v.kn,true,v.ak⟩
 | leave (v:Vw) (x:SX) (hl:lo=true) (h:v.sd=some x) (hs:x.SS=2):LsE lo v [⟨7,x.EP,0⟩] ⟨some {x with SS:=3},v.kn,v.tl,v.ak⟩
 | drop (v:Vw) (x:SX) (hl:lo=false) (h:v.sd=some x) (hs:x.SS=2):LsE lo v [⟨8,x.EP,0⟩] ⟨none,v.kn,v.tl,v.ak⟩
 | answer (v:Vw) (x:SX) (e:Int) (hl:lo=false) (h:v.sd=none) (hk:v.ak=some e) (hx:x.EP=e∧x.SS=0∧x.FK=false∧x.TO=true∧x.BO=false∧x.Ask=true):LsE lo v [⟨6,e,0⟩] ⟨some x,e,v.tl,none⟩
 | trans (v v' v'':Vw) (o p:List Msg) (h:LsE lo v o v') (k:LsE lo v' p v''):LsE lo v (o++p) v''
theorem YF {x x' y:SX} {e:Int} {o ab ba:List Msg} (h:Fc x y e ab ba) (hf:FireP x x' o) (he:x.EP=e):Fc x' y e (ab++o) ba:=fun k hk=>by have h1:=h k hk;have h2:=hf.fl k hk;rw [he] at h2;rw [Ha];omega
theorem YG {x y y':SX} {e:Int} {o ab ba:List Msg} (h:Fc x y e ab ba) (hf:FireP y y' o) (he:y.EP=e):Fc x y' e ab (ba++o):=fun k hk=>by have h1:=h k hk;have h2:=hf.fl k hk;rw [he] at h2;rw [Ha];omega
theorem EI.lo {a b:Vw} {ab ba:List Msg} (h:EI a b ab ba) {o:List Msg} {E:Vw} (s:LsE true a o E):EI E b (ab++o) ba:=by
 induction s generalizing ab with
 | nil v=>rw [List.append_nil];exact h
 | trans v v' v'' o p _ _ ih1 ih2=>rw [←List.append_assoc];exact ih2 (ih1 h)
 | fire v x x' o h6 hf=>
   cases h with
   | no ha=>rw [ha] at h6;simp at h6
   | op z ha hx hn he ht hb hk hlt h1 h2=>rw [ha] at h6;cases h6;obtain ⟨n1,rfl⟩:=hf.nw hn;rw [List.append_nil];exact .op x' rfl (hf.st.trans hx) n1 (hf.ep.trans he) ht hb hk hlt h1 h2
   | nw z u ha hx hn he ht hb hk hlt hab h1 h2=>rw [ha] at h6;cases h6;obtain ⟨n1,rfl⟩:=hf.nw hn;rw [List.append_nil];exact .nw x' u rfl (hf.st.trans hx) n1 (hf.ep.trans he) ht hb hk hlt hab h1 h2
   | sk z ha hx hn he ht hb hk hlt h1 h2=>rw [ha] at h6;cases h6;obtain ⟨n1,rfl⟩:=hf.nw hn;rw [List.append_nil];exact .sk x' rfl (hf.st.trans hx) n1 (hf.ep.trans he) ht hb hk hlt h1 h2
   | kw z y u w ha hx hn he ht hb hy h8 hk hkn hba h1 h2 h3 ho=>rw [ha] at h6;cases h6;have ho':=YF ho hf he;obtain ⟨n1,rfl⟩:=hf.nw hn;rw [List.append_nil] at ho' ⊢;exact .kw x' y u w rfl (hf.st.trans hx) n1 (hf.ep.trans he) ht hb hy h8 hk hkn hba h1 h2 h3 ho'
   | lv z y ha hx he hb hy h8 hk hkn h1 h2 ho=>rw [ha] at h6;cases h6;have ht:=hf.tle;rw [he] at ht;exact .lv x' y rfl (by rw [hf.st];exact hx) (hf.ep.trans he) hb hy h8 hk hkn (h1.app ht) h2 (YF ho hf he)
   | cl z y u w ha hx he hb hy h8 hk hkn hab h1 h3 h2 ho=>rw [ha] at h6;cases h6;have ht:=hf.tle;rw [he] at ht;exact .cl x' y u (w++o) rfl (hf.st.trans hx) (hf.ep.trans he) hb hy h8 hk hkn (by rw [hab];simp) h1 (h3.app ht) h2 (by rw [←List.append_assoc];exact YF ho hf he)
   | lg z y ha hx he hb hy h8 hk hkn h1 h2 ho=>rw [ha] at h6;cases h6;have ht:=hf.tle;rw [he] at ht;exact .lg x' y rfl (hf.st.trans hx) (hf.ep.trans he) hb hy h8 hk hkn (h1.app ht) h2 (YF ho hf he)
   | cd z u ha hx he hb hk hkn hba h1 h2 ho=>rw [ha] at h6;cases h6;have ht:=hf.tle;rw [he] at ht;exact .cd x' u rfl (hf.st.trans hx) (hf.ep.trans he) hb hk hkn hba (h1.app ht) h2 (fun k hk'=>by have:=ho k hk';have:=hf.fl k hk';show bn (Bc k x')+Bq k v.kn u≤1;omega)
 | tell v x _ h6 hs h9=>
   cases h with
   | no ha=>rw [ha] at h6;simp at h6
   | op z ha hx hn he ht hb hk hlt h1 h2=>rw [ha] at h6;cases h6;exact .nw x ab ha hx hn he rfl hb hk hlt (by rw [he]) h1 h2
   | nw z u ha hx hn he ht=>rw [ht] at h9;simp at h9
   | sk z ha hx hn he ht=>rw [ht] at h9;simp at h9
   | kw z y u w ha hx hn he ht=>rw [ht] at h9;simp at h9
   | lv z y ha hx=>rw [ha] at h6;cases h6;omega
   | cl z y u w ha hx=>rw [ha] at h6;cases h6;omega
   | lg z y ha hx=>rw [ha] at h6;cases h6;omega
   | cd z u ha hx=>rw [ha] at h6;cases h6;omega
 | leave v x _ h6 hs=>
   cases h with
   | no ha=>rw [ha] at h6;simp at h6
   | op z ha hx=>rw [ha] at h6;cases h6;omega
   | nw z u ha hx=>rw [ha] at h6;cases h6;omega
   | sk z ha hx=>rw [ha] at h6;cases h6;omega
   | kw z y u w ha hx=>rw [ha] at h6;cases h6;omega
   | lv z y ha hx he hb hy h8 hk hkn h1 h2 ho=>rw [ha] at h6;cases h6;exact .cl {x with SS:=3} y ab [] rfl rfl he hb hy h8 hk hkn (by rw [he]) h1 (Bl.nil _) h2 (by rw [List.append_nil];exact ho)
   | cl z y u w ha hx=>rw [ha] at h6;cases h6;omega
   | lg z y ha hx=>rw [ha] at h6;cases h6;omega
   | cd z u ha hx=>rw [ha] at h6;cases h6;omega
 | drop v x hl=>simp at hl
 | answer v x e hl=>simp at hl
theorem EI.hi {a b:Vw} {ab ba:List Msg} (h:EI a b ab ba) {o:List Msg} {E:Vw} (s:LsE false b o E):EI a E ab (ba++o):=by
 induction s generalizing ba with
 | nil v=>rw [List.append_nil];exact h
 | trans v v' v'' o p _ _ ih1 ih2=>rw [←List.append_assoc];exact ih2 (ih1 h)
 | fire v x x' o h6 hf=>
   cases h with
   | no ha hb=>rw [hb] at h6;simp at h6
   | op z ha hx hn he ht hb=>rw [hb] at h6;simp at h6
   | nw z u ha hx hn he ht hb=>rw [hb] at h6;simp at h6
   | sk z ha hx hn he ht hb=>rw [hb] at h6;simp at h6
   | kw z y u w ha hx hn he ht hb hy h8 hk hkn hba h1 h2 h3 ho=>rw [hb] at h6;cases h6;have ht':=hf.tle;rw [h8] at ht';exact .kw z x' u (w++o) ha hx hn he ht rfl (hf.st.trans hy) (hf.ep.trans h8) hk hkn (by rw [hba];simp) h1 (h2.app ht') h3 (YG ho hf h8)
   | lv z y ha hx he hb hy h8 hk hkn h1 h2 ho=>rw [hb] at h6;cases h6;have ht':=hf.tle;rw [h8] at ht';exact .lv z x' ha hx he rfl (hf.st.trans hy) (hf.ep.trans h8) hk hkn h1 (h2.app ht') (YG ho hf h8)
   | cl z y u w ha hx he hb hy h8 hk hkn hab h1 h3 h2 ho=>rw [hb] at h6;cases h6;have ht':=hf.tle;rw [h8] at ht';exact .cl z x' u w ha hx he rfl (hf.st.trans hy) (hf.ep.trans h8) hk hkn hab h1 h3 (h2.app ht') (YG ho hf h8)
   | lg z y ha hx he hb hy h8 hk hkn h1 h2 ho=>rw [hb] at h6;cases h6;have ht':=hf.tle;rw [h8] at ht';exact .lg z x' ha hx he rfl (hf.st.trans hy) (hf.ep.trans h8) hk hkn h1 (h2.app ht') (YG ho hf h8)
   | cd z u ha hx he hb=>rw [hb] at h6;simp at h6
 | tell v x hl=>simp at hl
 | leave v x hl=>simp at hl
 | drop v x _ h6 hs=>
   cases h with
   | no ha hb=>rw [hb] at h6;simp at h6
   | op z ha hx hn he ht hb=>rw [hb] at h6;simp at h6
   | nw z u ha hx hn he ht hb=>rw [hb] at h6;simp at h6
   | sk z ha hx hn he ht hb=>rw [hb] at h6;simp at h6
   | kw z y u w ha hx hn he ht hb hy=>rw [hb] at h6;cases h6;omega
   | lv z y ha hx he hb hy=>rw [hb] at h6;cases h6;omega
   | cl z y u w ha hx he hb hy=>rw [hb] at h6;cases h6;omega
   | lg z y ha hx he hb hy h8 hk hkn h1 h2 ho=>rw [hb] at h6;cases h6;exact .cd z ba ha hx he rfl hk hkn (by rw [h8]) h1 h2 (fun k hk'=>by have:=ho k hk';omega)
   | cd z u ha hx he hb=>rw [hb] at h6;simp at h6
 | answer v x e _ h6 h9 hx'=>
   cases h with
   | no ha hb hk=>rw [hk] at h9;simp at h9
   | op z ha hx hn he ht hb hk=>rw [hk] at h9;simp at h9
   | nw z u ha hx hn he ht hb hk=>rw [hk] at h9;simp at h9
   | sk z ha hx hn he ht hb hk hlt h1 h2=>rw [hk] at h9;cases h9;obtain ⟨q1,q2,q3,q4,q5,q6⟩:=hx';obtain ⟨n1,n2,n3,n4⟩:=hn;refine .kw z x ba [] ha hx ⟨n1,n2,n3,n4⟩ he ht rfl q2 q1 rfl rfl rfl h2 (Bl.nil _) h1 (fun k hk'=>?_);rw [h1.cnt Om,a8];rcases hk' with rfl | rfl | rfl | rfl<;>simp [Bc,bn,n1,n2,n3,n4,q3,q4,q5,q6]
   | kw z y u w ha hx hn he ht hb hy h8 hk=>rw [hk] at h9;simp at h9
   | lv z y ha hx he hb hy h8 hk=>rw [hk] at h9;simp at h9
   | cl z y u w ha hx he hb hy h8 hk=>rw [hk] at h9;simp at h9
   | lg z y ha hx he hb hy h8 hk=>rw [hk] at h9;simp at h9
   | cd z u ha hx he hb hk=>rw [hk] at h9;simp at h9
inductive GtE (lo:Bool) (v:Vw) (m:Msg):Vw→Prop
 | fit (x:SX) (ht:Pk m) (h:v.sd=some x) (he:x.EP=m.EP) (hl:Bc m.KI x=false):GtE lo v m ⟨some (CE m.KI x),v.kn,v.tl,v.ak⟩
 | old (ht:Pk m) (h:∀x,v.sd=some x→x.EP≠m.EP):GtE lo v m v
 | new (hl:lo=false) (hm:m.KI=5∧m.Num=0) (h:v.sd=none) (hk:v.kn<m.EP) (ha:v.ak=none):GtE lo v m ⟨none,v.kn,v.tl,some m.EP⟩
 | known (x:SX) (hl:lo=true) (hm:m.KI=6∧m.Num=0) (h:v.sd=some x) (he:x.EP=m.EP) (hs:x.SS=1) (ht:v.tl=true):GtE lo v m ⟨some {x with SS:=0},v.kn,false,v.ak⟩
 | close (x:SX) (hl:lo=false) (hm:m.KI=7∧m.Num=0) (h:v.sd=some x) (he:x.EP=m.EP) (hs:x.SS=0):GtE lo v m ⟨some {x with SS:=2},v.kn,v.tl,v.ak⟩
 | closed (x:SX) (hl:lo=true) (hm:m.KI=8∧m.Num=0) (h:v.sd=some x) (he:x.EP=m.EP) (hs:x.SS=3):GtE lo v m ⟨none,v.kn,v.tl,v.ak⟩
theorem br {k j:Int} (hk:E2 k) (hj:E2 j) (x:SX) (h:Bc k x=false):bn (Bc j (CE k x))=bn (Bc j x)+(if k=j then 1 else 0):=by rcases hk with rfl | rfl | rfl | rfl<;>rcases hj with rfl | rfl | rfl | rfl<;>simp_all [Bc,CE,bn]
theorem Hg (k:Int) (x:SX):(CE k x).PE=x.PE∧(CE k x).EP=x.EP∧(CE k x).SS=x.SS:=by
 unfold CE;split
 ·exact ⟨rfl,rfl,rfl⟩
 ·split
  ·exact ⟨rfl,rfl,rfl⟩
  ·split<;>exact ⟨rfl,rfl,rfl⟩
theorem M5 {m:Msg} {l:List Msg} {k e:Int} (he:m.EP=e):Bq k e (m::l)=(if m.KI=k then 1 else 0)+Bq k e l:=by rw [Kk];simp [he]
theorem aa {m:Msg} {l:List Msg} {k e:Int} (he:m.EP≠e):Bq k e (m::l)=Bq k e l:=by rw [Kk,if_neg (fun h=>he h.2)];omega
theorem UI {b:Bool} (h:bn b=0):b=false:=by cases b<;>simp_all [bn]
theorem Lw {x y:SX} {e:Int} {m:Msg} {ab ba:List Msg} (h:Fc x y e (m::ab) ba) (ht:Pk m):(m.EP=e→Bc m.KI y=false∧Fc x (CE m.KI y) e ab ba)∧(m.EP≠e→Fc x y e ab ba):=by
 refine ⟨fun he=>?_,fun he k hk=>by have:=h k hk;rw [aa he] at this;exact this⟩;have h0:Bc m.KI y=false:=by have:=h m.KI ht.1;rw [M5 he,if_pos rfl] at this;exact UI Om
 refine ⟨h0,fun k hk=>?_⟩;have:=h k hk;rw [M5 he] at this;rw [br ht.1 hk y h0];omega
theorem OV {x y:SX} {e:Int} {m:Msg} {ab ba:List Msg} (h:Fc x y e ab (m::ba)) (ht:Pk m):(m.EP=e→Bc m.KI x=false∧Fc (CE m.KI x) y e ab ba)∧(m.EP≠e→Fc x y e ab ba):=by
 refine ⟨fun he=>?_,fun he k hk=>by have:=h k hk;rw [aa he] at this;exact this⟩;have h0:Bc m.KI x=false:=by have:=h m.KI ht.1;rw [M5 he,if_pos rfl] at this;exact UI Om
 refine ⟨h0,fun k hk=>?_⟩;have:=h k hk;rw [M5 he] at this;rw [br ht.1 hk x h0];omega
theorem EI.getHi {a b:Vw} {m:Msg} {ab ba:List Msg} (h:EI a b (m::ab) ba):∃b',GtE false b m b'∧EI a b' ab ba:=by
 cases h with
 | no ha hb hk hle h1 h2=>exact ⟨b,.old (h1 m (by simp)).1 (by rw [hb];simp),.no ha hb hk hle h1.tail h2⟩
 | op z ha hx hn he ht hb hk hlt h1 h2=>exact ⟨b,.old (h1 m (by simp)).1 (by rw [hb];simp),.op z ha hx hn he ht hb hk hlt h1.tail h2⟩
 | nw z u ha hx hn he ht hb hk hlt hab h1 h2=>
   cases u with
   | nil=>simp only [List.nil_append,List.cons.injEq] at hab;obtain ⟨rfl,rfl⟩:=hab;exact ⟨_,.new rfl ⟨rfl,rfl⟩ hb hlt hk,.sk z ha hx hn he ht rfl rfl hlt (Bl.nil _) h2⟩
   | cons q u=>simp only [List.cons_append,List.cons.injEq] at hab;obtain ⟨rfl,rfl⟩:=hab;exact ⟨b,.old (h1 m (by simp)).1 (by rw [hb];simp),.nw z u ha hx hn he ht hb hk hlt rfl h1.tail h2⟩
 | sk z ha hx hn he ht hb hk hlt h1 h2=>exact ⟨b,.old (h1 m (by simp)).1 (by rw [hb];simp),.sk z ha hx hn he ht hb hk hlt h1.tail h2⟩
 | kw z y u w ha hx hn he ht hb hy h6 hk hkn hba h1 h2 h3 ho=>have hm:=h3 m (by simp);refine ⟨b,.old hm.1 (fun x hx'=>?_),.kw z y u w ha hx hn he ht hb hy h6 hk hkn hba h1 h2 h3.tail ((Lw ho hm.1).2 Om)⟩;rw [hb] at hx';cases hx';omega
 | lv z y ha hx he hb hy h6 hk hkn h1 h2 ho=>
   have hm:=h1 m (by simp);by_cases hq:m.EP=a.kn
   ·obtain ⟨o1,o2⟩:=(Lw ho hm.1).1 hq;obtain ⟨c1,c2,c3⟩:=Hg m.KI y;exact ⟨_,.fit y hm.1 hb Om o1,.lv z _ ha hx he rfl (c3.trans hy) (c2.trans h6) hk hkn h1.tail h2 o2⟩
   ·refine ⟨b,.old hm.1 (fun x hx'=>?_),.lv z y ha hx he hb hy h6 hk hkn h1.tail h2 ((Lw ho hm.1).2 hq)⟩;rw [hb] at hx';cases hx';omega
 | cl z y u w ha hx he hb hy h6 hk hkn hab h1 h3 h2 ho=>
   cases u with
   | nil=>simp only [List.nil_append,List.cons.injEq] at hab;obtain ⟨rfl,rfl⟩:=hab;exact ⟨_,.close y rfl ⟨rfl,rfl⟩ hb h6 hy,.lg z {y with SS:=2} ha hx he rfl rfl h6 hk hkn h3 h2 ho⟩
   | cons q u=>
     simp only [List.cons_append,List.cons.injEq] at hab;obtain ⟨rfl,rfl⟩:=hab;have hm:=h1 m (by simp);by_cases hq:m.EP=a.kn
     ·obtain ⟨o1,o2⟩:=(Lw ho hm.1).1 hq;obtain ⟨c1,c2,c3⟩:=Hg m.KI y;exact ⟨_,.fit y hm.1 hb Om o1,.cl z _ u w ha hx he rfl (c3.trans hy) (c2.trans h6) hk hkn rfl h1.tail h3 h2 o2⟩
     ·refine ⟨b,.old hm.1 (fun x hx'=>?_),.cl z y u w ha hx he hb hy h6 hk hkn rfl h1.tail h3 h2 ((Lw ho hm.1).2 hq)⟩;rw [hb] at hx';cases hx';omega
 | lg z y ha hx he hb hy h6 hk hkn h1 h2 ho=>
   have hm:=h1 m (by simp);by_cases hq:m.EP=a.kn
   ·obtain ⟨o1,o2⟩:=(Lw ho hm.1).1 hq;obtain ⟨c1,c2,c3⟩:=Hg m.KI y;exact ⟨_,.fit y hm.1 hb Om o1,.lg z _ ha hx he rfl (c3.trans hy) (c2.trans h6) hk hkn h1.tail h2 o2⟩
   ·refine ⟨b,.old hm.1 (fun x hx'=>?_),.lg z y ha hx he hb hy h6 hk hkn h1.tail h2 ((Lw ho hm.1).2 hq)⟩;rw [hb] at hx';cases hx';omega
 | cd z u ha hx he hb hk hkn hba h1 h2 ho=>exact ⟨b,.old (h1 m (by simp)).1 (by rw [hb];simp),.cd z u ha hx he hb hk hkn hba h1.tail h2 ho⟩
theorem EI.getLo {a b:Vw} {m:Msg} {ab ba:List Msg} (h:EI a b ab (m::ba)):∃a',GtE true a m a'∧EI a' b ab ba:=by
 cases h with
 | no ha hb hk hle h1 h2=>exact ⟨a,.old (h2 m (by simp)).1 (by rw [ha];simp),.no ha hb hk hle h1 h2.tail⟩
 | op z ha hx hn he ht hb hk hlt h1 h2=>have hm:=h2 m (by simp);exact ⟨a,.old hm.1 (fun x hx'=>by rw [ha] at hx';cases hx';omega),.op z ha hx hn he ht hb hk hlt h1 h2.tail⟩
 | nw z u ha hx hn he ht hb hk hlt hab h1 h2=>have hm:=h2 m (by simp);exact ⟨a,.old hm.1 (fun x hx'=>by rw [ha] at hx';cases hx';omega),.nw z u ha hx hn he ht hb hk hlt hab h1 h2.tail⟩
 | sk z ha hx hn he ht hb hk hlt h1 h2=>have hm:=h2 m (by simp);exact ⟨a,.old hm.1 (fun x hx'=>by rw [ha] at hx';cases hx';omega),.sk z ha hx hn he ht hb hk hlt h1 h2.tail⟩
 | kw z y u w ha hx hn he ht hb hy h6 hk hkn hba h1 h2 h3 ho=>
   cases u with
   | nil=>simp only [List.nil_append,List.cons.injEq] at hba;obtain ⟨rfl,rfl⟩:=hba;exact ⟨_,.known z rfl ⟨rfl,rfl⟩ ha he hx ht,.lv {z with SS:=0} y rfl (.inl rfl) he hb hy h6 hk hkn (h3.mono (by show a.kn-1≤a.kn;omega)) h2 ho⟩
   | cons q u=>simp only [List.cons_append,List.cons.injEq] at hba;obtain ⟨rfl,rfl⟩:=hba;have hm:=h1 m (by simp);exact ⟨a,.old hm.1 (fun x hx'=>by rw [ha] at hx';cases hx';omega),.kw z y u w ha hx hn he ht hb hy h6 hk hkn rfl h1.tail h2 h3 ho⟩
 | lv z y ha hx he hb hy h6 hk hkn h1 h2 ho=>
   have hm:=h2 m (by simp);by_cases hq:m.EP=a.kn
   ·obtain ⟨o1,o2⟩:=(OV ho hm.1).1 hq;obtain ⟨c1,c2,c3⟩:=Hg m.KI z;exact ⟨_,.fit z hm.1 ha Om o1,.lv _ y rfl (by rw [c3];exact hx) (c2.trans he) hb hy h6 hk hkn h1 h2.tail o2⟩
   ·refine ⟨a,.old hm.1 (fun x hx'=>?_),.lv z y ha hx he hb hy h6 hk hkn h1 h2.tail ((OV ho hm.1).2 hq)⟩;rw [ha] at hx';cases hx';omega
 | cl z y u w ha hx he hb hy h6 hk hkn hab h1 h3 h2 ho=>
   have hm:=h2 m (by simp);by_cases hq:m.EP=a.kn
   ·obtain ⟨o1,o2⟩:=(OV ho hm.1).1 hq;obtain ⟨c1,c2,c3⟩:=Hg m.KI z;exact ⟨_,.fit z hm.1 ha Om o1,.cl _ y u w rfl (c3.trans hx) (c2.trans he) hb hy h6 hk hkn hab h1 h3 h2.tail o2⟩
   ·refine ⟨a,.old hm.1 (fun x hx'=>?_),.cl z y u w ha hx he hb hy h6 hk hkn hab h1 h3 h2.tail ((OV ho hm.1).2 hq)⟩;rw [ha] at hx';cases hx';omega
 | lg z y ha hx he hb hy h6 hk hkn h1 h2 ho=>
   have hm:=h2 m (by simp);by_cases hq:m.EP=a.kn
   ·obtain ⟨o1,o2⟩:=(OV ho hm.1).1 hq;obtain ⟨c1,c2,c3⟩:=Hg m.KI z;exact ⟨_,.fit z hm.1 ha Om o1,.lg _ y rfl (c3.trans hx) (c2.trans he) hb hy h6 hk hkn h1 h2.tail o2⟩
   ·refine ⟨a,.old hm.1 (fun x hx'=>?_),.lg z y ha hx he hb hy h6 hk hkn h1 h2.tail ((OV ho hm.1).2 hq)⟩;rw [ha] at hx';cases hx';omega
 | cd z u ha hx he hb hk hkn hba h1 h2 ho=>
   cases u with
   | nil=>simp only [List.nil_append,List.cons.injEq] at hba;obtain ⟨rfl,rfl⟩:=hba;exact ⟨_,.closed z rfl ⟨rfl,rfl⟩ ha he hx,.no rfl hb hk (by show b.kn≤a.kn;omega) h1 (Bl.nil _)⟩
   | cons q u=>
     simp only [List.cons_append,List.cons.injEq] at hba;obtain ⟨rfl,rfl⟩:=hba;have hm:=h2 m (by simp);by_cases hq:m.EP=a.kn
     ·have h0:Bc m.KI z=false:=by have:=ho m.KI hm.1.1;rw [M5 hq,if_pos rfl] at this;exact UI Om
      obtain ⟨c1,c2,c3⟩:=Hg m.KI z;refine ⟨_,.fit z hm.1 ha Om h0,.cd _ u rfl (c3.trans hx) (c2.trans he) hb hk hkn rfl h1 h2.tail (fun k hk'=>?_)⟩;have:=ho k hk';rw [M5 hq] at this;show bn (Bc k (CE m.KI z))+Bq k a.kn u≤1;rw [br hm.1.1 hk' z h0];omega
     ·refine ⟨a,.old hm.1 (fun x hx'=>?_),.cd z u ha hx he hb hk hkn rfl h1 h2.tail (fun k hk'=>?_)⟩
      ·rw [ha] at hx';cases hx';omega
      ·have:=ho k hk';rw [aa hq] at this;exact this
theorem EI.add {a b:Vw} {ab ba:List Msg} (h:EI a b ab ba) (hs:a.sd=none) {x:SX} (hx:x.SS=1∧HB x∧x.EP=a.kn+1):EI ⟨some x,a.kn+1,false,a.ak⟩ b ab ba:=by
 cases h with
 | no ha hb hk hle h1 h2=>exact .op x rfl hx.1 hx.2.1 hx.2.2 rfl hb hk (by show b.kn<a.kn+1;omega) (h1.mono (by show _≤a.kn+1-1;omega)) (h2.mono (by show _≤a.kn+1-1;omega))
 | op z ha=>rw [ha] at hs;simp at hs
 | nw z u ha=>rw [ha] at hs;simp at hs
 | sk z ha=>rw [ha] at hs;simp at hs
 | kw z y u w ha=>rw [ha] at hs;simp at hs
 | lv z y ha=>rw [ha] at hs;simp at hs
 | cl z y u w ha=>rw [ha] at hs;simp at hs
 | lg z y ha=>rw [ha] at hs;simp at hs
 | cd z u ha=>rw [ha] at hs;simp at hs
theorem EI.shut {a b:Vw} {ab ba:List Msg} (h:EI a b ab ba) {x:SX} (hs:a.sd=some x) (hx:x.SS=0):EI ⟨some {x with SS:=2},a.kn,a.tl,a.ak⟩ b ab ba:=by
 cases h with
 | no ha=>rw [ha] at hs;simp at hs
 | op z ha hx'=>rw [ha] at hs;cases hs;omega
 | nw z u ha hx'=>rw [ha] at hs;cases hs;omega
 | sk z ha hx'=>rw [ha] at hs;cases hs;omega
 | kw z y u w ha hx'=>rw [ha] at hs;cases hs;omega
 | lv z y ha hx' he hb hy h6 hk hkn h1 h2 ho=>rw [ha] at hs;cases hs;exact .lv _ y rfl (.inr rfl) he hb hy h6 hk hkn h1 h2 ho
 | cl z y u w ha hx'=>rw [ha] at hs;cases hs;omega
 | lg z y ha hx'=>rw [ha] at hs;cases hs;omega
 | cd z u ha hx'=>rw [ha] at hs;cases hs;omega
theorem EI.one {a b:Vw} {ab ba:List Msg} (h:EI a b ab ba) {x y:SX} (hx:a.sd=some x) (hy:b.sd=some y):x.EP=y.EP∧∀k,E2 k→bn (Bc k x)+bn (Bc k y)+Bq k x.EP ab+Bq k x.EP ba=1:=by
 cases h with
 | no ha=>rw [ha] at hx;simp at hx
 | op z ha _ _ _ _ hb=>rw [hb] at hy;simp at hy
 | nw z u ha _ _ _ _ hb=>rw [hb] at hy;simp at hy
 | sk z ha _ _ _ _ hb=>rw [hb] at hy;simp at hy
 | kw z z' u w ha hx' hn he ht hb hy' h6 hk hkn hba h1 h2 h3 ho=>rw [ha] at hx;cases hx;rw [hb] at hy;cases hy;refine ⟨Om,fun k hk'=>?_⟩;have:=ho k hk';rw [he,hba,Ha,Kk,h1.cnt Om,if_neg (by rintro ⟨q,_⟩;rcases hk' with rfl | rfl | rfl | rfl<;>simp at q)];omega
 | lv z z' ha hx' he hb hy' h6 hk hkn h1 h2 ho=>rw [ha] at hx;cases hx;rw [hb] at hy;cases hy;exact ⟨Om,by rw [he];exact ho⟩
 | cl z z' u w ha hx' he hb hy' h6 hk hkn hab h1 h3 h2 ho=>rw [ha] at hx;cases hx;rw [hb] at hy;cases hy;refine ⟨Om,fun k hk'=>?_⟩;have:=ho k hk';rw [Ha] at this;rw [he,hab,Ha,Kk,if_neg (by rintro ⟨q,_⟩;rcases hk' with rfl | rfl | rfl | rfl<;>simp at q)];omega
 | lg z z' ha hx' he hb hy' h6 hk hkn h1 h2 ho=>rw [ha] at hx;cases hx;rw [hb] at hy;cases hy;exact ⟨Om,by rw [he];exact ho⟩
 | cd z u ha _ _ hb=>rw [hb] at hy;simp at hy
def Ao (S:List SX) (p:Int):Option SX:=S.find? fun x=>decide (x.PE=p)
def CI (A:List KE) (p:Int):Option Int:=(A.find? fun k=>decide (k.PE=p)).map (·.EP)
def Ap (n:NO) (p:Int):Vw:=⟨Ao n.DK.DI.SD p,BG n.KN p,decide (p∈n.TL),CI n.AK p⟩
def BN (p:Int) (E:List ML):List Msg:=(E.filter fun m=>decide (m.To=p)).map (·.Msg)
theorem IU (p:Int) (a b:List ML):BN p (a++b)=BN p a++BN p b:=by simp [BN]
theorem K6 (x:SX) (S:List SX) (p:Int):Ao (x::S) p=if x.PE=p then some x else Ao S p:=by unfold Ao;rw [List.find?_cons];by_cases h:x.PE=p<;>simp [h]
theorem E8 {S:List SX} {p:Int} {x:SX} (h:Ao S p=some x):x∈S∧x.PE=p:=by unfold Ao at h;exact ⟨List.mem_of_find?_eq_some h,by simpa using List.find?_some h⟩
theorem Ek {S:List SX} {p:Int}:Ao S p=none↔∀x∈S,x.PE≠p:=by unfold Ao;rw [List.find?_eq_none];simp
theorem Pc {S:List SX} (hu:S.Pairwise fun x y=>x.PE<y.PE) {x:SX} (hx:x∈S):Ao S x.PE=some x:=by
 cases h:Ao S x.PE with
 | none=>exact absurd rfl (Ek.1 h x hx)
 | some y=>obtain ⟨h1,h2⟩:=E8 h;rw [Kb hu h1 hx h2]
theorem dO {g:SX→SX} (hg:∀x,(g x).PE=x.PE) (S:List SX) (p:Int):Ao (S.map g) p=(Ao S p).map g:=by
 induction S with
 | nil=>rfl
 | cons x S ih=>rw [List.map_cons,K6,K6,hg,ih];split<;>rfl
theorem mM {g:SX→Option SX} (hg:∀x y,g x=some y→y.PE=x.PE) {S:List SX} (hu:S.Pairwise fun x y=>x.PE<y.PE) (p:Int):Ao (S.filterMap g) p=(Ao S p).bind g:=by
 induction S with
 | nil=>rfl
 | cons x S ih=>
   obtain ⟨h1,h2⟩:=List.pairwise_cons.1 hu;have ih:=ih h2;rw [K6,List.filterMap_cons];cases hx:g x with
   | none=>
     dsimp only;rw [ih];split
     ·rename_i e;rw [OB,hx,Ek.2 (fun y hy e2=>by have:=h1 y hy;omega)];rfl
     ·rfl
   | some y=>
     dsimp only;rw [K6,hg x y hx,ih];split
     ·rw [OB,hx]
     ·rfl
theorem mN {S:List SX} {x:SX} (hn:∀y∈S,y.PE≠x.PE) (p:Int):Ao (D9 S x) p=if p=x.PE then some x else Ao S p:=by
 unfold D9;have e:∀l,Ao (S.take (AF S (·.PE) x.PE)++l) p=(Ao (S.take (AF S (·.PE) x.PE)) p).or (Ao l p):=fun l=>List.find?_append ..;rw [e,K6];by_cases h:p=x.PE
 ·rw [if_pos h,if_pos h.symm,Ek.2 (fun y hy=>by rw [h];exact hn y (List.mem_of_mem_take hy))];rfl
 ·rw [if_neg h,if_neg (fun q=>h q.symm),←e,List.take_append_drop]
theorem Zo {f:SX→List ML} (hf:∀x,∀m∈f x,m.To=x.PE) {S:List SX} (hu:S.Pairwise fun x y=>x.PE<y.PE) (p:Int):BN p (S.flatMap f)=match Ao S p with | some x=>(f x).map (·.Msg) | none=>[]:=by
 induction S with
 | nil=>rfl
 | cons x S ih=>
   obtain ⟨h1,h2⟩:=List.pairwise_cons.1 hu;rw [List.flatMap_cons,IU,ih h2,K6];by_cases e:x.PE=p
   ·rw [if_pos e,Ek.2 (fun y hy e2=>by have:=h1 y hy;omega)];dsimp only;rw [List.append_nil];unfold BN;rw [List.filter_eq_self.2 (fun m hm=>by simpa using (hf x m hm).trans e)]
   ·rw [if_neg e];have:BN p (f x)=[]:=by unfold BN;rw [List.filter_eq_nil_iff.2 (fun m hm=>by rw [hf x m hm];simpa using e)];rfl
    rw [this,List.nil_append]
theorem qd (k:KE) (A:List KE) (p:Int):CI (k::A) p=if k.PE=p then some k.EP else CI A p:=by unfold CI;rw [List.find?_cons];by_cases h:k.PE=p<;>simp [h]
theorem fp {A:List KE} {p:Int}:CI A p=none↔∀k∈A,k.PE≠p:=by unfold CI;rw [Option.map_eq_none_iff,List.find?_eq_none];simp
theorem ZI {A:List KE} {p e:Int} (h:CI A p=some e):∃k∈A,k.PE=p∧k.EP=e:=by unfold CI at h;obtain ⟨k,h1,h2⟩:=Option.map_eq_some_iff.1 h;exact ⟨k,List.mem_of_find?_eq_some h1,by simpa using List.find?_some h1,h2⟩
theorem ZK (p:Int):∀(A:List KE) (S:List SX) (K:List KE) (id:Int),(∀k∈A,∀x∈S,x.PE≠k.PE)→(A.map (·.PE)).Nodup→(K.Pairwise fun x y=>x.PE<y.PE)→
  (Ao (CW S A) p=match CI A p with | some e=>some (D7 ⟨p,e⟩) | none=>Ao S p)∧(BG (DG K A) p=match CI A p with | some e=>e | none=>BG K p)∧(BN p (Eo id A)=match CI A p with | some e=>[⟨6,e,0⟩] | none=>[])
 | [],S,K,id,_,_,_=>⟨rfl,rfl,rfl⟩
 | k::A,S,K,id,h1,h2,h3=>by
   rw [List.map_cons,List.nodup_cons] at h2;have h6:∀y∈S,y.PE≠(D7 k).PE:=fun y hy=>h1 k (by simp) y hy;obtain ⟨a1,a2,a3⟩:=ZK p A (D9 S (D7 k)) (CZ K k.PE k.EP) id (fun q hq x hx=>by
    rcases FA.1 hx with rfl | hx
    ·intro e;exact h2.1 (List.mem_map.2 ⟨q,hq,e.symm⟩)
    ·exact h1 q (List.mem_cons_of_mem _ hq) x hx) h2.2 (Vh h3 _ _)
   rw [qd];have e1:CW S (k::A)=CW (D9 S (D7 k)) A:=rfl;have e2:DG K (k::A)=DG (CZ K k.PE k.EP) A:=rfl;have e3:BN p (Eo id (k::A))=(if k.PE=p then [⟨6,k.EP,0⟩] else [])++BN p (Eo id A):=by unfold Eo BN;rw [List.map_cons,List.filter_cons];by_cases e:k.PE=p<;>simp [e]
   rw [e1,e2,e3,a1,a2,a3,mN h6,UU h3];by_cases e:k.PE=p
   ·have hA:CI A p=none:=fp.2 fun q hq e'=>h2.1 (List.mem_map.2 ⟨q,hq,e'.trans e.symm⟩);rw [hA,if_pos e];dsimp only;refine ⟨?_,?_,?_⟩
    ·rw [if_pos (show p=(D7 k).PE from e.symm)];unfold D7;rw [e]
    ·rw [if_pos e.symm]
    ·rw [if_pos e];rfl
   ·rw [if_neg e];cases hA:CI A p with
    | some q=>exact ⟨rfl,rfl,by rw [if_neg e];rfl⟩
    | none=>exact ⟨by dsimp only;rw [if_neg (show ¬p=(D7 k).PE from fun q=>e q.symm)],by dsimp only;rw [if_neg (fun q=>e q.symm)],by rw [if_neg e];rfl⟩
theorem mQ {n:NO} (h:OkN n) (p:Int):LsE (decide (n.DK.DI.ID<p)) (Ap n p) (BN p (DH n)) (Ap (AM n) p):=by
 unfold AM DH;split
 ·exact .nil _
 ·obtain ⟨a1,a2,a3⟩:=ZK p n.AK n.DK.DI.SD n.KN n.DK.DI.ID (fun k hk=>(h.may k hk).1) h.dis h.kup;unfold Ap;dsimp only;rw [a1,a2,a3];cases hA:CI n.AK p with
  | none=>exact .nil _
  | some e=>obtain ⟨k,hk,rfl,rfl⟩:=ZI hA;have hm:=h.may k hk;exact .answer _ (D7 ⟨k.PE,k.EP⟩) _ (by simp;omega) (Ek.2 hm.1) rfl ⟨rfl,rfl,rfl,rfl,rfl,rfl⟩
theorem gK (ph:Int) (x:SX) (id:Int):FireP x (Bj ph x) ((Cf id ph x).map (·.Msg)):=by
 obtain ⟨h1,h2,h3⟩:=ax ph x;refine ⟨h1,h2,h3,fun m hm=>?_,fun k hk=>?_,fun hn=>?_⟩
 ·unfold Cf at hm;rw [List.map_append,List.mem_append] at hm;rcases hm with hm | hm
  ·split at hm<;>simp at hm;subst hm;exact ⟨⟨.inl rfl,rfl⟩,rfl⟩
  ·split at hm<;>simp at hm;subst hm;exact ⟨⟨.inr (.inl rfl),rfl⟩,rfl⟩
 ·obtain ⟨a,b,c,f,d,t,bo,ak⟩:=x;unfold Cf Bj D4;by_cases e1:ph=1<;>by_cases e2:ph=2<;>rcases hk with rfl | rfl | rfl | rfl<;>cases f<;>cases d<;>cases t<;>simp [Bc,bn,Bq,e1,e2]
 ·obtain ⟨n1,n2,n3,n4⟩:=hn;have e1:D4 ph x=x:=by unfold D4;rw [if_neg (by simp [n2])]
  unfold Cf Bj;rw [e1];simp [n2,HB,n1,n3,n4]
theorem tu (nd:Bool) (th:Int) (x:SX) (id:Int):FireP x (C2 nd th x) ((Ct id nd th x).map (·.Msg)):=by
 obtain ⟨h1,h2,h3,_⟩:=Ki nd th x;refine ⟨h1,h2,h3,fun m hm=>?_,fun k hk=>?_,fun hn=>?_⟩
 ·unfold Ct at hm;rw [List.map_append,List.mem_append] at hm;rcases hm with hm | hm
  ·split at hm<;>simp at hm;subst hm;exact ⟨⟨.inr (.inr (.inl rfl)),rfl⟩,rfl⟩
  ·split at hm<;>simp at hm;subst hm;exact ⟨⟨.inr (.inr (.inr rfl)),rfl⟩,rfl⟩
 ·obtain ⟨a,b,c,f,d,t,bo,ak⟩:=x;unfold Ct C2 DM;generalize F4 nd th ⟨a,b,c,f,d,t,bo,ak⟩=kp;by_cases e1:th=1<;>rcases hk with rfl | rfl | rfl | rfl<;>cases nd<;>cases kp<;>cases bo<;>cases ak<;>simp [Bc,bn,Bq,e1]
 ·obtain ⟨n1,n2,n3,n4⟩:=hn;have e1:DM nd th x=x:=by unfold DM;rw [if_neg (by simp [n4])]
  unfold Ct C2;rw [e1];simp [HB,n1,n2,n3,n4]
theorem tw (x:SX):FireP x (HW x) []:=⟨rfl,rfl,rfl,by simp,fun k _=>rfl,fun h=>⟨h,rfl⟩⟩
theorem tv (d:DI) (x:SX) (id:Int):FireP x (BU d x) ((Cf id d.PH x).map (·.Msg)):=by
 unfold BU;split
 ·have:=(gK d.PH x id).trans (tw _);rwa [List.append_nil] at this
 ·exact gK _ _ _
theorem mT {d:DK} (hu:d.DI.SD.Pairwise fun x y=>x.PE<y.PE) (p:Int):
  (∀x,Ao d.DI.SD p=some x→∃x',Ao (Aw d).DI.SD p=some x'∧FireP x x' (BN p (Cq d)))∧(Ao d.DI.SD p=none→Ao (Aw d).DI.SD p=none∧BN p (Cq d)=[]):=by
 have h6:(AC d).SD=d.DI.SD:=rfl;have g1:∀x,(Em d x).PE=x.PE:=fun x=>congrArg (·.1) (IT d x);have g2:∀x,(BU (AC d) x).PE=x.PE:=fun x=>(Mb _ x).1;have eS:Ao (Aw d).DI.SD p=(Ao d.DI.SD p).map (Em d):=by rw [GU,dO g1]
 have m1:BN p (He (AC d))=match Ao d.DI.SD p with | some x=>(Cf (AC d).ID (AC d).PH x).map (·.Msg) | none=>[]:=by unfold He;rw [h6,Zo (fun x m hm=>(?_:m.To=x.PE)) hu];unfold Cf at hm;rcases List.mem_append.1 hm with hm | hm<;>split at hm<;>simp at hm<;>rw [hm]
 have h8:(BV (AC d)).SD.Pairwise fun x y=>x.PE<y.PE:=by rw [Hd,h6];exact P0 (by rw [List.map_map];exact List.map_congr_left fun x _=>g2 x) hu
 have m2:BN p ((BV (AC d)).SD.flatMap fun x=>Ct d.DI.ID (Ch d x) d.TH x)=match Ao d.DI.SD p with | some x=>(Ct d.DI.ID (Ch d (BU (AC d) x)) d.TH (BU (AC d) x)).map (·.Msg) | none=>[]:=by rw [Zo (fun x m hm=>(fH hm).2.1) h8,Hd,dO g2,h6];cases Ao d.DI.SD p<;>rfl
 unfold Cq;rw [eS,IU,m1,m2];constructor
 ·intro x hx;rw [hx];refine ⟨Em d x,rfl,?_⟩;dsimp only;have nd:Ch d (BU (AC d) x)=Ch d x:=by unfold Ch;rw [g2]
  rw [nd];exact (tv (AC d) x _).trans (tu _ _ _ _)
 ·intro hx;rw [hx];exact ⟨rfl,rfl⟩
theorem mR (p:Int):∀(k:Nat) (d:DK) (out:List ML),(d.DI.SD.Pairwise fun x y=>x.PE<y.PE)→∃E,(BZ k d out).2=out++E∧
  (∀x,Ao d.DI.SD p=some x→∃x',Ao (BZ k d out).1.DI.SD p=some x'∧FireP x x' (BN p E))∧(Ao d.DI.SD p=none→Ao (BZ k d out).1.DI.SD p=none∧BN p E=[])
 | 0,d,out,_=>⟨[],by simp [BZ],fun x hx=>⟨x,hx,FireP.refl x⟩,fun h=>⟨h,rfl⟩⟩
 | k+1,d,out,hu=>by
   unfold BZ;split
   ·exact ⟨[],by simp,fun x hx=>⟨x,hx,FireP.refl x⟩,fun h=>⟨h,rfl⟩⟩
   ·have hu':(Aw d).DI.SD.Pairwise fun x y=>x.PE<y.PE:=by rw [GU];exact P0 (by rw [List.map_map];exact List.map_congr_left fun x _=>congrArg (·.1) (IT d x)) hu
    obtain ⟨E,h1,h2,h3⟩:=mR p k (Aw d) (out++Cq d) hu';obtain ⟨a1,a2⟩:=mT hu p;refine ⟨Cq d++E,by rw [h1,List.append_assoc],fun x hx=>?_,fun hx=>?_⟩
    ·obtain ⟨y,hy,f1⟩:=a1 x hx;obtain ⟨z,hz,f2⟩:=h2 y hy;exact ⟨z,hz,by rw [IU];exact f1.trans f2⟩
    ·obtain ⟨b1,b2⟩:=a2 hx;obtain ⟨c1,c2⟩:=h3 b1;exact ⟨c1,by rw [IU,b2,c2];rfl⟩
theorem Z0A {n:NO} (hu:n.DK.DI.SD.Pairwise fun x y=>x.PE<y.PE) (lo:Bool) (p:Int):LsE lo (Ap n p) (BN p (Bo n.DK).2) (Ap (BC n) p):=by
 obtain ⟨E,h1,h2,h3⟩:=mR p 300 n.DK [] hu;rw [List.nil_append] at h1;have e:Bo n.DK=BZ 300 n.DK []:=rfl;unfold BC Ap;dsimp only;rw [e,h1];cases hs:Ao n.DK.DI.SD p with
 | none=>obtain ⟨c1,c2⟩:=h3 hs;rw [c1,c2];exact .nil _
 | some x=>obtain ⟨x',c1,c2⟩:=h2 x hs;rw [c1];exact .fire _ x x' _ rfl c2
theorem Z4 (id p:Int):∀(S:List SX) (T:List Int),(S.Pairwise fun x y=>x.PE<y.PE)→BN p (Ca id S T []).2=match Ao S p with | some x=>if x.SS=1∧p∉T then [⟨5,x.EP,0⟩] else [] | none=>[]
 | [],T,_=>rfl
 | x::S,T,hu=>by
   obtain ⟨h1,h2⟩:=List.pairwise_cons.1 hu;have ub:Cw T x=true↔x.SS=1∧x.PE∉T:=by unfold Cw EL;rw [Bool.and_eq_true,decide_eq_true_eq,Bool.not_eq_true',decide_eq_false_iff_not]
   rw [K6];unfold Ca;cases hu':Cw T x with
   | true=>
     rw [if_pos rfl,Uq,IU,Z4 id p S _ h2];have hx:=ub.1 hu';by_cases e:x.PE=p
     ·rw [if_pos e,Ek.2 (fun y hy e2=>by have:=h1 y hy;omega)];dsimp only;rw [if_pos ⟨hx.1,e ▸ hx.2⟩];simp [BN,e]
     ·rw [if_neg e];have:BN p ([]++[(⟨id,x.PE,⟨5,x.EP,0⟩⟩:ML)])=[]:=by simp [BN,e]
      rw [this,List.nil_append];have hs:=(FH (T++[x.PE])).2 p;have hq:p∈Bm (T++[x.PE])↔p∈T:=by rw [hs,List.mem_append,List.mem_singleton];exact ⟨fun h=>h.elim id' (fun q=>absurd q.symm e),.inl⟩
      cases Ao S p with
      | none=>rfl
      | some y=>simp only [hq]
   | false=>
     rw [if_neg (by simp),Z4 id p S T h2];by_cases e:x.PE=p
     ·rw [if_pos e,Ek.2 (fun y hy e2=>by have:=h1 y hy;omega)];dsimp only;rw [if_neg (fun h=>by have:=ub.2 ⟨h.1,e ▸ h.2⟩;rw [hu'] at this;simp at this)]
     ·rw [if_neg e]
where id' {a:Prop} (h:a):a:=h
theorem mV {n:NO} (h:OkN n) (p:Int):LsE (decide (n.DK.DI.ID<p)) (Ap n p) (BN p (Cv n).2) (Ap (BT n) p):=by
 have hm:=Zl n p;unfold BT Ap;dsimp only;unfold Cv at hm ⊢;by_cases hP:n.DK.DI.PH=2
 ·rw [if_pos hP] at hm ⊢;rw [Z4 _ p _ _ h.dr.din.up];cases hs:Ao n.DK.DI.SD p with
  | none=>
    have:p∈(Ca n.DK.DI.ID n.DK.DI.SD n.TL []).1↔p∈n.TL:=by rw [hm];exact ⟨fun q=>q.elim (fun q=>q) (fun ⟨_,x,hx,_,e⟩=>absurd e (Ek.1 hs x hx)),.inl⟩
    rw [decide_eq_decide.2 this];exact .nil _
  | some x=>
    obtain ⟨h1,h2⟩:=E8 hs;dsimp only;by_cases hc:x.SS=1∧p∉n.TL
    ·rw [if_pos hc,DT (hm.2 (.inr ⟨hP,x,h1,hc.1,h2⟩)),DN hc.2];have:=(h.sd x h1).2.2.2 (.inl hc.1);have:=(h.peer0 h1).2.2;exact .tell _ x (by simp;omega) rfl hc.1 rfl
    ·rw [if_neg hc];have:p∈(Ca n.DK.DI.ID n.DK.DI.SD n.TL []).1↔p∈n.TL:=by rw [hm];refine ⟨fun q=>q.elim (fun q=>q) (fun ⟨_,y,hy,hs',e⟩=>?_),.inl⟩;have:y=x:=Kb h.dr.din.up hy h1 Om;subst this;exact Classical.byContradiction fun q=>hc ⟨hs',q⟩
     rw [decide_eq_decide.2 this];exact .nil _
 ·rw [if_neg hP];exact .nil _
theorem mS {n:NO} (h:OkN n) (p:Int):LsE (decide (n.DK.DI.ID<p)) (Ap n p) (BN p (E3 n)) (Ap (Dn n) p):=by
 have t1:∀x,∀m∈F5 n.DK.DI.ID n.DK.TH n.DK.NE x,m.To=x.PE:=fun x m hm=>by unfold F5 at hm;split at hm<;>simp at hm;rw [hm]
 have t2:∀x y,Dp n.DK.DI.ID n.DK.TH n.DK.NE x=some y→y.PE=x.PE:=fun x y hy=>by
  unfold Dp at hy;split at hy
  ·split at hy<;>simp at hy;rw [←hy]
  ·simp at hy;rw [←hy]
 unfold Dn E3 Ap AR BB;dsimp only;rw [Zo t1 h.dr.din.up,mM t2 h.dr.din.up]
 ·cases hs:Ao n.DK.DI.SD p with
  | none=>exact .nil _
  | some x=>
    obtain ⟨h1,h2⟩:=E8 hs;have hne:=(h.peer0 h1).2.2;rw [OB];dsimp only;unfold Dp F5;cases hg:C0 n.DK.TH n.DK.NE x with
    | false=>exact .nil _
    | true=>
      have h6:=aH hg;by_cases hi:n.DK.DI.ID<x.PE
      ·rw [if_pos rfl,if_pos hi,if_pos rfl,if_pos hi];exact .leave _ x (by simp;omega) rfl h6
      ·rw [if_pos rfl,if_neg hi,if_pos rfl,if_neg hi];exact .drop _ x (by simp;omega) rfl h6
theorem Z0C {n:NO} (h:OkN n) (p:Int):LsE (decide (n.DK.DI.ID<p)) (Ap n p) (BN p (Dg n)) (Ap (onceN n) p):=by
 have h1:=mQ h p;have e2:Ap (Bx n) p=Ap (AM n) p:=by
  have:(BF (AM n)).DK.DI=(AM n).DK.DI:=by
   unfold BF CM;dsimp only;split
   ·split<;>rfl
   ·rfl
  unfold Bx BA Ap;dsimp only;rw [this];rfl
 have h9:(Bx n).DK.DI.ID=n.DK.DI.ID:=YL n;have h3:=Z0A (n:=Bx n) h.pre.dr.din.up (decide (n.DK.DI.ID<p)) p;have hg:=h.pre.firgra;have h6:(AG (BC (Bx n))).DK.DI.ID=n.DK.DI.ID:=(Mc (Bx n).DK).id.trans h9;have h4:=mV hg p;have h5:=mS hg.tel p;have h8:(BT (AG (BC (Bx n)))).DK.DI.ID=n.DK.DI.ID:=h6;rw [h6] at h4;rw [h8] at h5;have e4:Ap (AG (BC (Bx n))) p=Ap (BC (Bx n)) p:=rfl;unfold onceN Dg AS;rw [IU,IU,IU];rw [←e2] at h1;rw [e4] at h4;exact .trans _ _ _ _ _ h1 (.trans _ _ _ _ _ h3 (.trans _ _ _ _ _ h4 h5))
theorem mU {n:NO} (h:OkN n) (V:List EV) (p:Int):LsE (decide (n.DK.DI.ID<p)) (Ap n p) (BN p (Bu n [] V).2.1) (Ap (Bu n [] V).1 p):=(P2 (P:=fun m E _=>m.DK.DI.ID=n.DK.DI.ID∧LsE (decide (n.DK.DI.ID<p)) (Ap n p) (BN p E) (Ap m p)) (fun m E V hm hP=>by have:=Z0C hm p;rw [hP.1] at this;exact ⟨(U6 m).trans hP.1,by rw [IU];exact .trans _ _ _ _ _ hP.2 this⟩) h ⟨rfl,.nil _⟩).2
theorem Z0z {S S':List SX} (E:S'.Pairwise fun x y=>x.PE<y.PE) {p:Int} (h:∀x,x.PE=p→(x∈S↔x∈S')):Ao S p=Ao S' p:=by
 cases hs:Ao S p with
 | none=>symm;rw [Ek];intro x hx e;exact Ek.1 hs x ((h x e).2 hx) e
 | some x=>obtain ⟨h1,h2⟩:=E8 hs;have:=Pc E ((h x h2).1 h1);rw [h2] at this;exact this.symm
theorem Z1 {S:List SX} (hu:S.Pairwise fun x y=>x.PE<y.PE) {j:Nat} {x y:SX} (hj:S[j]?=some x) (hy:y.PE=x.PE) (q:Int):Ao (S.set j y) q=if q=x.PE then some y else Ao S q:=by
 have hm:∀z,z∈S.set j y↔z=y∨z∈S∧z.PE≠x.PE:=fun z=>Pd hu hj y;cases hs:Ao (S.set j y) q with
 | none=>have h0:=Ek.1 hs;have hq:q≠x.PE:=fun e=>h0 y ((hm y).2 (.inl rfl)) (by rw [hy,e]);rw [if_neg hq];symm;rw [Ek];intro z hz e;exact h0 z ((hm z).2 (.inr ⟨hz,by rw [e];exact hq⟩)) e
 | some z=>
   obtain ⟨h1,h2⟩:=E8 hs;rcases (hm z).1 h1 with rfl | ⟨hz,hne⟩
   ·rw [if_pos (by rw [←h2,hy])]
   ·rw [if_neg (by rw [←h2];exact hne),←h2,Pc hu hz]
theorem Uj {n:NO} (hu:n.DK.DI.SD.Pairwise fun x y=>x.PE<y.PE) {p:Int} {x:SX} (h:Ao n.DK.DI.SD p=some x):∃j,BI n p=some (j,x)∧n.DK.DI.SD[j]?=some x∧x.PE=p:=by
 obtain ⟨h1,h2⟩:=E8 h;cases hs:BI n p with
 | none=>exact absurd h2 (dg (dU hs) x h1)
 | some q=>obtain ⟨j,y⟩:=q;obtain ⟨_,h4,h5⟩:=LE hs;have:y=x:=Kb hu (List.mem_of_getElem? h4) h1 Om;subst this;exact ⟨j,rfl,h4,h2⟩
theorem Z15 {n:NO} {p:Int} (h:Ao n.DK.DI.SD p=none):BI n p=none:=by
 cases hs:BI n p with
 | none=>rfl
 | some q=>obtain ⟨j,y⟩:=q;obtain ⟨_,h4,h5⟩:=LE hs;exact absurd h5 (Ek.1 h y (List.mem_of_getElem? h4))
theorem qc {A:List KE} {k:KE} (h:CI A k.PE=none) (q:Int):CI (A++[k]) q=if q=k.PE then some k.EP else CI A q:=by
 unfold CI at h ⊢;rw [List.find?_append];by_cases e:q=k.PE
 ·rw [if_pos e];subst e;rw [Option.map_eq_none_iff] at h;rw [h];simp
 ·rw [if_neg e];have:([k].find? fun z=>decide (z.PE=q))=none:=by simp;exact fun q'=>e q'.symm
  rw [this,Option.or_none]
theorem Z0B {n:NO} (h:OkN n) {p:Int} {m:Msg} {v':Vw} (hp:0≤p∧p≠n.DK.DI.ID) (he:m.EP≤65535) (g:GtE (decide (n.DK.DI.ID<p)) (Ap n p) m v'):
  (B1 n p m).1=0∧Ap (B1 n p m).2.1 p=v'∧∀q,q≠p→Ap (B1 n p m).2.1 q=Ap n q:=by
 have hu:=h.dr.din.up;cases g with
 | fit x ht hs hq hl=>
   obtain ⟨j,h1,h2,h3⟩:=Uj hu hs;have hk:E1 m=true:=by unfold E1;exact DT ht.1
   have hf:HX (BI n p) m=true:=by rw [h1];exact DT hq
   have hl':Bc m.KI (xO (BI n p))=false:=by rw [h1];exact hl
   have eg:B1 n p m=(0,Mv n j x m.KI,[]):=by unfold B1;rw [if_neg (by rw [ht.2];simp),if_pos hk,if_pos hf,if_neg (by rw [hl'];simp),h1];rfl
   have es:=Z1 hu h2 (Hg m.KI x).1;rw [eg];refine ⟨rfl,?_,fun q hq'=>?_⟩
   ·unfold Mv Ap;dsimp only;rw [es,if_pos h3.symm]
   ·unfold Mv Ap;dsimp only;rw [es,if_neg (by rw [h3];exact hq')]
 | old ht hs=>
   have hk:E1 m=true:=by unfold E1;exact DT ht.1
   have hf:HX (BI n p) m=false:=by
    cases h9:Ao n.DK.DI.SD p with
    | none=>rw [Z15 h9];rfl
    | some x=>obtain ⟨j,h1,_,_⟩:=Uj hu h9;rw [h1];exact DN (hs x h9)
   have eg:B1 n p m=(0,n,[]):=by unfold B1;rw [if_neg (by rw [ht.2];simp),if_pos hk,if_neg (by rw [hf];simp)]
   rw [eg];exact ⟨rfl,rfl,fun _ _=>rfl⟩
 | new h6 hm hs hkn hA=>
   have hk:E1 m=false:=by unfold E1;rw [hm.1];decide
   have hlt:p<n.DK.DI.ID:=by simp at h6;omega
   have hB:Fb n ⟨p,m.EP⟩=true:=(cy _ _).2 ⟨Ek.1 hs,hp.1,hlt,hkn,he⟩;have hd:EB (n.AK++[⟨p,m.EP⟩])=true:=by unfold EB;rw [decide_eq_true_eq,List.map_append,List.nodup_append];refine ⟨h.dis,by simp,fun a ha b hb=>?_⟩;obtain ⟨k,hk',rfl⟩:=List.mem_map.1 ha;simp at hb;rw [hb];exact fp.1 hA k hk'
   have eg:B1 n p m=(0,LV n ⟨p,m.EP⟩,[]):=by unfold B1;rw [if_neg (by rw [hm.2];simp),if_neg (by rw [hk];simp),if_pos hm.1,if_pos ⟨hB,hd⟩]
   have ea:=qc (k:=⟨p,m.EP⟩) hA;rw [eg];refine ⟨rfl,?_,fun q hq'=>?_⟩
   ·unfold LV Ap;dsimp only;rw [ea,if_pos rfl,show Ao n.DK.DI.SD p=none from hs]
   ·unfold LV Ap;dsimp only;rw [ea,if_neg hq']
 | known x h6 hm hs hq h8 hC=>
   obtain ⟨j,h1,h2,h3⟩:=Uj hu hs;have hk:E1 m=false:=by unfold E1;rw [hm.1];decide
   have hi:DR (BI n p) m 1=true:=by rw [h1];unfold DR;simp [hq,h8]
   have htl':p∈n.TL:=by simpa [Ap] using hC
   have eg:B1 n p m=(0,Hh n j x,[⟨6,n.DK.DI.ID,0,p,[]⟩]):=by unfold B1;rw [if_neg (by rw [hm.2];simp),if_neg (by rw [hk];simp),if_neg (by rw [hm.1];decide),if_pos hm.1,if_pos ⟨hi,htl'⟩,h1];rfl
   have es:=Z1 hu h2 (y:= {x with SS:=0}) rfl;have hw:∀q,q∈(Bm n.TL).filter (fun z=>!decide (z∈ [x.PE]))↔q∈n.TL∧q≠p:=fun q=>by rw [List.mem_filter,(FH n.TL).2];simp [h3]
   rw [eg];refine ⟨rfl,?_,fun q hq'=>?_⟩
   ·unfold Hh Ap;dsimp only;rw [es,if_pos h3.symm,DN (fun e=>((hw p).1 e).2 rfl)]
   ·unfold Hh Ap;dsimp only;rw [es,if_neg (by rw [h3];exact hq'),decide_eq_decide.2 ((hw q).trans ⟨fun e=>e.1,fun e=>⟨e,hq'⟩⟩)]
 | close x h6 hm hs hq h8=>
   obtain ⟨j,h1,h2,h3⟩:=Uj hu hs;have hk:E1 m=false:=by unfold E1;rw [hm.1];decide
   have hi:DR (BI n p) m 0=true:=by rw [h1];unfold DR;simp [hq,h8]
   have hlt:p<n.DK.DI.ID:=by simp at h6;omega
   have eg:B1 n p m=(0,Bg n j x,Gg n p):=by unfold B1;rw [if_neg (by rw [hm.2];simp),if_neg (by rw [hk];simp),if_neg (by rw [hm.1];decide),if_neg (by rw [hm.1];decide),if_pos hm.1,if_pos ⟨hi,hlt⟩,h1];rfl
   have es:=Z1 hu h2 (y:= {x with SS:=2}) rfl;rw [eg];have esd:(Bg n j x).DK.DI.SD=n.DK.DI.SD.set j {x with SS:=2}:=by unfold Bg;split<;>rfl
   refine ⟨rfl,?_,fun q hq'=>?_⟩
   ·unfold Ap;dsimp only;rw [esd,es,if_pos h3.symm];rfl
   ·unfold Ap;dsimp only;rw [esd,es,if_neg (by rw [h3];exact hq')];rfl
 | closed x h6 hm hs hq h8=>
   obtain ⟨j,h1,h2,h3⟩:=Uj hu hs;have hk:E1 m=false:=by unfold E1;rw [hm.1];decide
   have hi:DR (BI n p) m 3=true:=by rw [h1];unfold DR;simp [hq,h8]
   have eg:B1 n p m=(0,Kl n p,[⟨8,n.DK.DI.ID,0,p,[]⟩]):=by unfold B1;rw [if_neg (by rw [hm.2];simp),if_neg (by rw [hk];simp),if_neg (by rw [hm.1];decide),if_neg (by rw [hm.1];decide),if_neg (by rw [hm.1];decide),if_pos hm.1,if_pos hi]
   rw [eg];refine ⟨rfl,?_,fun q hq'=>?_⟩
   ·unfold Kl Ap;dsimp only;rw [Ek.2 (fun z hz=>by simpa using (List.mem_filter.1 hz).2)]
   ·unfold Kl Ap;dsimp only;rw [Z0z hu (p:=q) fun z hz=>by rw [List.mem_filter];simp [hz,hq']]
def ow (id:Int) (a:Do) (q:Int) (v v':Vw):Prop:=v'=v∨(id<q∧(a.KI=4∧a.PE=q)∧v.sd=none∧∃x,x.SS=1∧HB x∧x.EP=v.kn+1∧v'=⟨some x,v.kn+1,false,v.ak⟩)∨(id<q∧∃x,v.sd=some x∧x.SS=0∧v'=⟨some {x with SS:=2},v.kn,v.tl,v.ak⟩)
theorem Z3 {n:NO} (h:OkN n) {a:Do} (h0:(AW n a).1=0) (q:Int):ow n.DK.DI.ID a q (Ap n q) (Ap (AW n a).2.1 q):=by
 have hu:=h.dr.din.up;revert h0;unfold AW;split
 ·intro h0;left;unfold CG
  (repeat' split)<;>rfl
 ·split
  ·rename_i h8;split
   ·rename_i hp;cases h6:C6 n.DK.DI.SD a.PE with
    | some j=>intro h0;simp at h0
    | none=>
      dsimp only;split
      ·intro _;have hn:=dg h6;have es:Ao (D9 n.DK.DI.SD (addS n a.PE)) q=if q=a.PE then some (addS n a.PE) else Ao n.DK.DI.SD q:=mN hn q
       have ek:BG (CZ n.KN (addS n a.PE).PE (addS n a.PE).EP) q=if q=a.PE then BG n.KN a.PE+1 else BG n.KN q:=UU h.kup a.PE (BG n.KN a.PE+1) q
       by_cases e:q=a.PE
       ·subst e;right;left;refine ⟨hp.1,⟨h8,rfl⟩,Ek.2 hn,addS n a.PE,rfl,⟨rfl,rfl,rfl,rfl⟩,rfl,?_⟩;unfold IN Ap;dsimp only;rw [es,ek,if_pos rfl,if_pos rfl,DN (fun ht=>by obtain ⟨x,hx,_,e⟩:=h.tin a.PE ht;exact hn x hx e)]
       ·left;unfold IN Ap;dsimp only;rw [es,ek,if_neg e,if_neg e]
      ·intro h0;simp at h0
   ·intro h0;simp at h0
  ·split
   ·split
    ·rename_i hp;cases h6:C6 n.DK.DI.SD a.PE with
     | none=>intro h0;simp at h0
     | some j=>
       obtain ⟨x,hx,hd⟩:=OY h6;dsimp only;rw [hx];dsimp only;split
       ·rename_i h9;intro _;have es:=Z1 hu hx (y:= {x with SS:=2}) rfl q;have esd:(Bg n j x).DK.DI.SD=n.DK.DI.SD.set j {x with SS:=2}:=by unfold Bg;split<;>rfl
        by_cases e:q=x.PE
        ·right;right;refine ⟨Om,x,?_,h9,?_⟩
         ·rw [e];exact Pc hu (List.mem_of_getElem? hx)
         ·unfold Ap;dsimp only;rw [esd,es,if_pos e];rfl
        ·left;unfold Ap;dsimp only;rw [esd,es,if_neg e];rfl
       ·intro h0;simp at h0
    ·intro h0;simp at h0
   ·intro h0;simp at h0
theorem LsE.still {lo:Bool} {v v':Vw} {o:List Msg} (s:LsE lo v o v') (h:v.sd=none∧v.ak=none):o=[]∧v'.sd=none∧v'.ak=none:=by
 induction s with
 | nil v=>exact ⟨rfl,h⟩
 | fire v x x' o hs=>rw [h.1] at hs;simp at hs
 | tell v x _ hs=>rw [h.1] at hs;simp at hs
 | leave v x _ hs=>rw [h.1] at hs;simp at hs
 | drop v x _ hs=>rw [h.1] at hs;simp at hs
 | answer v x e _ _ hk=>rw [h.2] at hk;simp at hk
 | trans v v' v'' o p _ _ ih1 ih2=>obtain ⟨a1,a2⟩:=ih1 h;obtain ⟨b1,b2⟩:=ih2 a2;exact ⟨by rw [a1,b1];rfl,b2⟩
def B2 (M:List ML) (a b:Int):List Msg:=(M.filter fun m=>decide (m.From=a)&&decide (m.To=b)).map (·.Msg)
theorem OF (M L:List ML) (a b:Int):B2 (M++L) a b=B2 M a b++B2 L a b:=by simp [B2]
theorem cG {L:List ML} {k:Int} (h:∀m∈L,m.From=k) (a b:Int):B2 L a b=if a=k then BN b L else []:=by
 unfold B2 BN;by_cases e:a=k
 ·rw [if_pos e];congr 1;apply List.filter_congr;intro m hm;rw [h m hm,e];simp
 ·rw [if_neg e,List.filter_eq_nil_iff.2 (fun m hm=>by rw [h m hm];simp;intro e';exact absurd e'.symm e)];rfl
def PI (N:List NO) (M:List ML):Prop:=∀(i k:Nat) (a b:NO),i<k→N[i]?=some a→N[k]?=some b→EI (Ap a k) (Ap b i) (B2 M i k) (B2 M k i)
def eY (N:List NO):Prop:=∀(i:Nat) (a:NO),N[i]?=some a→∀q:Int,¬(0≤q∧q<N.length)→(Ap a q).sd=none∧(Ap a q).ak=none
structure HI (h:HL):Prop where
 ok:HallOK h
 pi:PI h.NS h.ML
 no:eY h.NS
theorem Ea {α:Type} {N:List α} {k:Nat} {n:α} (hn:N[k]?=some n) (m:α) (i:Nat):(N.set k m)[i]?=if i=k then some m else N[i]?:=by
 have hlt:=(List.getElem?_eq_some_iff.1 hn).1;rw [List.getElem?_set];by_cases e:k=i
 ·subst e;simp [hlt]
 ·rw [if_neg e,if_neg (fun q=>e q.symm)]
theorem PI.move {N:List NO} {M:List ML} (h:PI N M) {k:Nat} {n m:NO} {L:List ML} (hn:N[k]?=some n) (E:∀x∈L,x.From=(k:Int)) (hs:∀q:Int,LsE (decide ((k:Int)<q)) (Ap n q) (BN q L) (Ap m q)):PI (N.set k m) (M++L):=by
 intro i j a b h6 ha hb;rw [Ea hn] at ha hb;rw [OF,OF,cG E,cG E];by_cases e1:i=k
 ·subst e1;rw [if_pos rfl] at ha;cases ha;rw [if_neg Om] at hb;rw [if_pos rfl,if_neg Om,List.append_nil];have h1:=h i j n b h6 hn hb;have h2:=hs j;rw [DT Om] at h2;exact h1.lo h2
 ·rw [if_neg e1] at ha;by_cases e2:j=k
  ·subst e2;rw [if_pos rfl] at hb;cases hb;rw [if_neg Om,if_pos rfl,List.append_nil];have h1:=h i j a n h6 ha hn;have h2:=hs i;rw [DN Om] at h2;exact h1.hi h2
  ·rw [if_neg e2] at hb;rw [if_neg Om,if_neg Om,List.append_nil,List.append_nil];exact h i j a b h6 ha hb
theorem PI.rest {N:List NO} {M:List ML} {k:Nat} {n m:NO} (hn:N[k]?=some n) (h:PI (N.set k m) M) (hm:OkN m) (h6:m.DK.DI.ID=k) (V:List EV):PI (N.set k (Bu m [] V).1) (M++(Bu m [] V).2.1):=by have h1:=h.move (k:=k) (n:=m) (m:=(Bu m [] V).1) (L:=(Bu m [] V).2.1) (by rw [Ea hn,if_pos rfl]) (fun x hx=>by rw [←h6];exact (lO hm x hx).1) (fun q=>by have:=mU hm V q;rw [h6] at this;exact this);rw [List.set_set] at h1;exact h1
theorem EI.ep {a b:Vw} {ab ba:List Msg} (h:EI a b ab ba):(∀m∈ab,m.EP≤a.kn)∧∀m∈ba,m.EP≤a.kn:=by
 have le1:∀ {l:List Msg},Bl (a.kn-1) l→∀m∈l,m.EP≤a.kn:=fun hl m hm=>by have:=(hl m hm).2;omega
 have le0:∀ {l:List Msg},Bl a.kn l→∀m∈l,m.EP≤a.kn:=fun hl m hm=>(hl m hm).2;cases h with
 | no ha hb hk hle h1 h2=>exact ⟨le0 h1,le0 h2⟩
 | op x ha hx hn he ht hb hk hlt h1 h2=>exact ⟨le1 h1,le1 h2⟩
 | nw x u ha hx hn he ht hb hk hlt hab h1 h2=>
   refine ⟨fun m hm=>?_,le1 h2⟩;rw [hab,List.mem_append,List.mem_singleton] at hm;rcases hm with hm | rfl
   ·exact le1 h1 m hm
   ·exact Int.le_refl _
 | sk x ha hx hn he ht hb hk hlt h1 h2=>exact ⟨le1 h1,le1 h2⟩
 | kw x y u w ha hx hn he ht hb hy hf hk hkn hba h1 h2 h3 ho=>
   refine ⟨le1 h3,fun m hm=>?_⟩;rw [hba,List.mem_append,List.mem_cons] at hm;rcases hm with hm | rfl | hm
   ·exact le1 h1 m hm
   ·exact Int.le_refl _
   ·exact le0 h2 m hm
 | lv x y ha hx he hb hy hf hk hkn h1 h2 ho=>exact ⟨le0 h1,le0 h2⟩
 | cl x y u w ha hx he hb hy hf hk hkn hab h1 h3 h2 ho=>
   refine ⟨fun m hm=>?_,le0 h2⟩;rw [hab,List.mem_append,List.mem_cons] at hm;rcases hm with hm | rfl | hm
   ·exact le0 h1 m hm
   ·exact Int.le_refl _
   ·exact le0 h3 m hm
 | lg x y ha hx he hb hy hf hk hkn h1 h2 ho=>exact ⟨le0 h1,le0 h2⟩
 | cd x u ha hx he hb hk hkn hba h1 h2 ho=>
   refine ⟨le0 h1,fun m hm=>?_⟩;rw [hba,List.mem_append,List.mem_singleton] at hm;rcases hm with hm | rfl
   ·exact le0 h2 m hm
   ·exact Int.le_refl _
theorem PI.both {N:List NO} {M:List ML} (h:PI N M) {i k:Nat} {a b:NO} {x y:SX} (h6:i≠k) (ha:N[i]?=some a) (hb:N[k]?=some b) (hx:Ao a.DK.DI.SD k=some x) (hy:Ao b.DK.DI.SD i=some y):
  x.EP=y.EP∧∀q,E2 q→bn (Bc q x)+bn (Bc q y)+Bq q x.EP (B2 M i k)+Bq q x.EP (B2 M k i)=1:=by
 rcases Nat.lt_or_gt_of_ne h6 with hlt | hlt
 ·exact (h i k a b hlt ha hb).one hx hy
 ·obtain ⟨e,h1⟩:=(h k i b a hlt hb ha).one hy hx;refine ⟨e.symm,fun q hq=>?_⟩;have:=h1 q hq;rw [e] at this;omega
theorem jS {M:List ML} {a b:Int} {i:Nat} (hi:(M.findIdx? fun m=>decide (m.From=a)&&decide (m.To=b))=some i) {m:ML} (hm:M[i]?=some m):
  m.From=a∧m.To=b∧B2 M a b=m.Msg::B2 (M.take i++M.drop (i+1)) a b∧∀c d:Int,¬(c=a∧d=b)→B2 M c d=B2 (M.take i++M.drop (i+1)) c d:=by
 rw [List.findIdx?_eq_some_iff_getElem] at hi;obtain ⟨h6,hp,hq⟩:=hi;have em:M[i]=m:=by rw [List.getElem?_eq_getElem h6] at hm;exact Option.some.inj hm
 rw [em] at hp;simp only [Bool.and_eq_true,decide_eq_true_eq] at hp;have eM:M=M.take i++m::M.drop (i+1):=by rw [←em,List.getElem_cons_drop,List.take_append_drop]
 have e0:∀c d,B2 M c d=B2 (M.take i) c d++B2 (m::M.drop (i+1)) c d:=fun c d=>by rw [←OF,←eM]
 have e1:∀c d,B2 (m::M.drop (i+1)) c d=(if m.From=c∧m.To=d then [m.Msg] else [])++B2 (M.drop (i+1)) c d:=fun c d=>by
  unfold B2;rw [List.filter_cons];by_cases e:m.From=c∧m.To=d
  ·simp [e]
  ·rw [if_neg (by simpa using e),if_neg e];rfl
 have e2:B2 (M.take i) a b=[]:=by
  unfold B2;rw [List.filter_eq_nil_iff.2]
  ·rfl
  ·intro x hx;obtain ⟨j,hj⟩:=List.mem_iff_getElem?.1 hx;rw [List.getElem?_take] at hj;split at hj
   ·rename_i h8;have:=hq j h8;rw [List.getElem?_eq_getElem Om] at hj;rw [←Option.some.inj hj];simpa using this
   ·simp at hj
 refine ⟨hp.1,hp.2,?_,fun c d h9=>?_⟩
 ·rw [e0,e1,if_pos hp,e2,OF,e2];rfl
 ·rw [e0,e1,if_neg (fun e=>h9 ⟨e.1.symm.trans hp.1,e.2.symm.trans hp.2⟩),OF];rfl
theorem yA {n:NO} (h:OkN n) (V:List EV):(Bu n [] V).1.DK.DI.ID=n.DK.DI.ID:=P2 (P:=fun m _ _=>m.DK.DI.ID=n.DK.DI.ID) (fun m _ _ _ hP=>(U6 m).trans hP) h rfl
theorem HI.rest {h:HL} {M:List ML} {k:Nat} {n m:NO} {V:List EV} (hk:HallOK h) (hA:eY h.NS) (hn:h.NS[k]?=some n) (hB:PI (h.NS.set k m) M) (hm:OkN m) (h9:m.DK.DI.ID=k)
  (hd:∀q:Int,¬(0≤q∧q<h.NS.length)→(Ap m q).sd=none∧(Ap m q).ak=none) (hM:∀x∈M,x∈h.ML) (hl:h.ML.length+6000≤1000000) (hC:M.length≤h.ML.length):
  HI ⟨h.NS.set k (Bu m [] V).1,M++(Bu m [] V).2.1⟩∧(Bu m [] V).2.1.length≤6000:=by
 have hlt:=(List.getElem?_eq_some_iff.1 hn).1;have hw:=(yC hm [] V).1;simp only [List.length_nil] at hw;have h6:=fun q=>mU hm V q;refine ⟨⟨⟨fun i x hx=>?_,by dsimp only;rw [List.length_set];exact hk.len,fun x hx=>?_,by dsimp only;rw [List.length_append];omega⟩,hB.rest hn hm h9 V,fun i x hx q hq=>?_⟩,Om⟩
 ·dsimp only at hx;rw [Ea hn] at hx;split at hx
  ·rename_i e;cases hx;exact ⟨by rw [yA hm,h9,e],yG hm [] V⟩
  ·exact hk.nodes i x hx
 ·dsimp only at hx ⊢;rw [List.length_set];rcases List.mem_append.1 hx with hx | hx
  ·exact hk.mail x (hM x hx)
  ·obtain ⟨h1,h2,_⟩:=lO hm x hx;have h3:0≤x.To∧x.To<h.NS.length:=Classical.byContradiction fun hq=>by have:=((h6 x.To).still (hd x.To hq)).1;have h8:x.Msg∈BN x.To (Bu m [] V).2.1:=List.mem_map.2 ⟨x,List.mem_filter.2 ⟨hx,by simp⟩,rfl⟩;rw [this] at h8;simp at h8
   omega
 ·dsimp only at hx hq;rw [List.length_set] at hq;rw [Ea hn] at hx;split at hx
  ·cases hx;exact ((h6 q).still (hd q hq)).2
  ·exact hA i x hx q hq
theorem PI.act {N:List NO} {M:List ML} (h:PI N M) {k:Nat} {n:NO} {a:Do} (hn:N[k]?=some n) (hok:OkN n) (h9:n.DK.DI.ID=k) (h0:(AW n a).1=0):PI (N.set k (AW n a).2.1) M:=by
 have h6:=fun q=>Z3 hok h0 q;rw [h9] at h6;intro i j x y h8 hx hy;rw [Ea hn] at hx hy;by_cases e1:i=k
 ·subst e1;rw [if_pos rfl] at hx;cases hx;rw [if_neg Om] at hy;have hE:=h i j n y h8 hn hy;rcases h6 j with e | ⟨_,_,hs,z,hz,hd,hw,e⟩ | ⟨_,z,hs,hz,e⟩
  ·rw [e];exact hE
  ·rw [e];exact hE.add hs ⟨hz,hd,hw⟩
  ·rw [e];exact hE.shut hs hz
 ·rw [if_neg e1] at hx;by_cases e2:j=k
  ·subst e2;rw [if_pos rfl] at hy;cases hy;have hE:=h i j x n h8 hx hn;rcases h6 i with e | ⟨hlt,_⟩ | ⟨hlt,_⟩
   ·rw [e];exact hE
   ·omega
   ·omega
  ·rw [if_neg e2] at hy;exact h i j x y h8 hx hy
theorem HI.act {h:HL} (hh:HI h) {k:Nat} {n:NO} {a:Do} (hn:h.NS[k]?=some n) (E:a.KI=4→0≤a.PE∧a.PE<h.NS.length) (h0:(AW n a).1=0) (hl:h.ML.length+6000≤1000000):
  HI ⟨h.NS.set k (Bu (AW n a).2.1 [] (AW n a).2.2).1,h.ML++(Bu (AW n a).2.1 [] (AW n a).2.2).2.1⟩∧(Bu (AW n a).2.1 [] (AW n a).2.2).2.1.length≤6000:=by
 obtain ⟨h8,hok⟩:=hh.ok.nodes k n hn;obtain ⟨h1,h2,_,_,_,h6⟩:=Pv hok h0;have h9:=fun q=>Z3 hok h0 q;rw [h8] at h9;refine HI.rest hh.ok hh.no hn (hh.pi.act hn hok h8 h0) h1 (h2.trans h8) (fun q hq=>?_) (fun _ hx=>hx) hl (Nat.le_refl _)
 ·have h0':=hh.no k n hn q hq;rcases h9 q with e | ⟨_,⟨h4,hp⟩,_⟩ | ⟨_,z,hs,_⟩
  ·rw [e];exact h0'
  ·exact absurd (hp ▸ E h4) hq
  ·rw [h0'.1] at hs;simp at hs
theorem HI.get1 {h:HL} (hh:HI h) {a:Int} {k i:Nat} {n:NO} {m:ML} (hn:h.NS[k]?=some n) (hi:(h.ML.findIdx? fun m=>decide (m.From=a)&&decide (m.To=(k:Int)))=some i) (hm:h.ML[i]?=some m):
  ∃s:Nat,a=s∧s<h.NS.length∧s≠k∧∃v',GtE (decide ((k:Int)<s)) (Ap n s) m.Msg v'∧(B1 n a m.Msg).1=0∧Ap (B1 n a m.Msg).2.1 s=v'∧(∀q:Int,q≠s→Ap (B1 n a m.Msg).2.1 q=Ap n q)∧PI (h.NS.set k (B1 n a m.Msg).2.1) (h.ML.take i++h.ML.drop (i+1)):=by
 obtain ⟨hw,hok⟩:=hh.ok.nodes k n hn;obtain ⟨hf,ht,e1,e2⟩:=jS hi hm;obtain ⟨m1,m2,m3,m4,m5⟩:=hh.ok.mail m (List.mem_of_getElem? hm);obtain ⟨s,hs⟩:∃s:Nat,a=s:=⟨a.toNat,Om⟩
 subst hs;obtain ⟨b,hb⟩:∃b,h.NS[s]?=some b:=⟨_,List.getElem?_eq_getElem Om⟩
 obtain ⟨hC,h9⟩:=hh.ok.nodes s b hb;have hd:s≠k:=by omega
 have Af:∃v',GtE (decide ((k:Int)<s)) (Ap n s) m.Msg v'∧m.Msg.EP≤65535∧(∀n':NO,Ap n' s=v'→(∀q:Int,q≠s→Ap n' q=Ap n q)→PI (h.NS.set k n') (h.ML.take i++h.ML.drop (i+1))):=by
  have rest:∀(v':Vw) (n':NO),Ap n' s=v'→(∀q:Int,q≠s→Ap n' q=Ap n q)→
    (s<k→EI (Ap b k) v' (B2 (h.ML.take i++h.ML.drop (i+1)) s k) (B2 (h.ML.take i++h.ML.drop (i+1)) k s))→
    (k<s→EI v' (Ap b k) (B2 (h.ML.take i++h.ML.drop (i+1)) k s) (B2 (h.ML.take i++h.ML.drop (i+1)) s k))→PI (h.NS.set k n') (h.ML.take i++h.ML.drop (i+1)):=by
   intro v' n' hv hq c1 c2 x y u w h6 hx hy;rw [Ea hn] at hx hy;by_cases ex:x=k
   ·subst ex;rw [if_pos rfl] at hx;cases hx;rw [if_neg Om] at hy;by_cases ey:y=s
    ·subst ey;rw [hb] at hy;cases hy;rw [hv];exact c2 h6
    ·rw [hq y Om,←e2 x y Om,←e2 y x Om];exact hh.pi x y n w h6 hn hy
   ·rw [if_neg ex] at hx;by_cases ey:y=k
    ·subst ey;rw [if_pos rfl] at hy;cases hy;by_cases ex2:x=s
     ·subst ex2;rw [hb] at hx;cases hx;rw [hv];exact c1 h6
     ·rw [hq x Om,←e2 x y Om,←e2 y x Om];exact hh.pi x y u n h6 hx hn
    ·rw [if_neg ey] at hy;rw [←e2 x y Om,←e2 y x Om];exact hh.pi x y u w h6 hx hy
  rcases Nat.lt_or_gt_of_ne hd with hlt | hlt
  ·have hE:=hh.pi s k b n hlt hb hn;have h8:=hE.ep.1;rw [e1] at hE h8;rw [e2 k s Om] at hE;obtain ⟨v',hg,hE'⟩:=hE.getHi;refine ⟨v',by rw [DN Om];exact hg,?_,fun n' hv hq=>rest v' n' hv hq (fun _=>hE') (fun hc=>Om)⟩;have:=h8 m.Msg (by simp);have:=(PN h9.kup (fun x hx=>(h9.kr x hx).2.2) k).2;exact Int.le_trans ‹m.Msg.EP≤_› this
  ·have hE:=hh.pi k s n b hlt hn hb;have h8:=hE.ep.2;rw [e1] at hE h8;rw [e2 k s Om] at hE;obtain ⟨v',hg,hE'⟩:=hE.getLo;refine ⟨v',by rw [DT Om];exact hg,?_,fun n' hv hq=>rest v' n' hv hq (fun hc=>Om) (fun _=>hE')⟩;have:=h8 m.Msg (by simp);have:=(PN hok.kup (fun x hx=>(hok.kr x hx).2.2) s).2;exact Int.le_trans ‹m.Msg.EP≤_› this
 obtain ⟨v',hg,hA,hB⟩:=Af;have hg':=hg;rw [←hw] at hg;obtain ⟨g0,g1,g2⟩:=Z0B hok (p:=s) Om hA hg;exact ⟨s,rfl,Om,hd,v',hg',g0,g1,g2,hB _ g1 g2⟩
theorem HI.get {h:HL} (hh:HI h) {a:Int} {k i:Nat} {n:NO} {m:ML} (hn:h.NS[k]?=some n) (hi:(h.ML.findIdx? fun m=>decide (m.From=a)&&decide (m.To=(k:Int)))=some i) (hm:h.ML[i]?=some m) (hl:h.ML.length+6000≤1000000):
  (B1 n a m.Msg).1=0∧HI ⟨h.NS.set k (Bu (B1 n a m.Msg).2.1 [] (B1 n a m.Msg).2.2).1,(h.ML.take i++h.ML.drop (i+1))++(Bu (B1 n a m.Msg).2.1 [] (B1 n a m.Msg).2.2).2.1⟩∧
    (Bu (B1 n a m.Msg).2.1 [] (B1 n a m.Msg).2.2).2.1.length≤6000:=by
 obtain ⟨h8,hok⟩:=hh.ok.nodes k n hn;obtain ⟨s,rfl,hs,_,v',_,g0,g1,g2,h9⟩:=hh.get1 hn hi hm;obtain ⟨h1,h2,_,h6⟩:=PP hok g0;refine ⟨g0,?_⟩;refine HI.rest hh.ok hh.no hn h9 h1 (h2.trans h8) (fun q hq=>?_) (fun x hx=>?_) hl (by simp;omega)
 ·rw [g2 q Om];exact hh.no k n hn q hq
 ·rcases List.mem_append.1 hx with hx | hx
  ·exact List.mem_of_mem_take hx
  ·exact List.mem_of_mem_drop hx
theorem V3 {d:DK} (hg:Cl d) {D:DI} (E:∀x∈D.SD,x.PE∈d.NE→x.BO=true∨∃y∈d.DI.SD,y.PE=x.PE∧y.BO=x.BO):Cl ⟨D,d.TH,d.NE⟩:=fun h2 x hx hn=>by
 rcases E x hx hn with e | ⟨y,hy,e1,e2⟩
 ·exact e
 ·rw [←e2];exact hg h2 y hy (by rw [e1];exact hn)
theorem aI {n:NO} (h:OkN n) (hg:Cl n.DK) {j:Nat} {x y:SX} (hx:n.DK.DI.SD[j]?=some x) (hp:y.PE=x.PE) (hb:x.BO=true→y.BO=true) (D:DI) (E:D.SD=n.DK.DI.SD.set j y):Cl ⟨D,n.DK.TH,n.DK.NE⟩:=fun h2 z hz hn=>by
 dsimp only at hz hn;rw [E] at hz;rcases (Pd h.dr.din.up hx y).1 hz with rfl | ⟨hz,_⟩
 ·exact hb (hg h2 x (List.mem_of_getElem? hx) (by rw [←hp];exact hn))
 ·exact hg h2 z hz hn
theorem gV {n:NO} (h:OkN n) (hg:Cl n.DK) {j:Nat} {x:SX} (hx:n.DK.DI.SD[j]?=some x):Cl (Bg n j x).DK:=by
 unfold Bg;dsimp only;split
 ·intro h2;simp at h2
 ·exact aI h hg hx (y:= {x with SS:=2}) rfl (fun e=>e) _ rfl
theorem uj {n:NO} (h:OkN n) (hg:Cl n.DK) (a:Do):Cl (AW n a).2.1.DK:=by
 have hc:∀b,Cl (M3 n b).DK:=fun b h2=>by simp [M3] at h2
 unfold AW;split
 ·unfold CG
  (repeat' split)<;>first | exact hg | exact hc _
 ·split
  ·split
   ·cases h6:C6 n.DK.DI.SD a.PE with
    | some j=>exact hg
    | none=>
      dsimp only;split
      ·refine V3 hg fun x hx _=>?_;have hx:x∈D9 n.DK.DI.SD (addS n a.PE):=hx;rcases FA.1 hx with rfl | hx
       ·exact .inl rfl
       ·exact .inr ⟨x,hx,rfl,rfl⟩
      ·exact hg
   ·exact hg
  ·split
   ·split
    ·cases h6:C6 n.DK.DI.SD a.PE with
     | none=>exact hg
     | some j=>
       obtain ⟨x,hx,_⟩:=OY h6;dsimp only;rw [hx];dsimp only;split
       ·exact gV h hg hx
       ·exact hg
    ·exact hg
   ·exact hg
theorem ul {n:NO} (h:OkN n) (hg:Cl n.DK) (p:Int) (m:Msg):Cl (B1 n p m).2.1.DK:=by
 have h6:∀ {j:Nat} {x:SX},BI n p=some (j,x)→n.DK.DI.SD[j]?=some x:=fun hs=>(LE hs).2.1;unfold B1;split
 ·exact hg
 ·split
  ·split
   ·rename_i hf;split
    ·exact hg
    ·cases hs:BI n p with
     | none=>rw [hs] at hf;simp [HX] at hf
     | some q=>
       obtain ⟨j,x⟩:=q;refine aI h hg (h6 hs) (y:=CE m.KI x) (Hg _ _).1 (fun e=>?_) _ rfl;unfold CE
       (repeat' split)<;>first | exact e | rfl
   ·exact hg
  ·split
   ·split<;>exact hg
   ·split
    ·split
     ·rename_i hi;obtain ⟨j,x,hs,_⟩:=Jm hi.1;rw [hs];exact aI h hg (h6 hs) (y:= {x with SS:=0}) rfl (fun e=>e) _ rfl
     ·exact hg
    ·split
     ·split
      ·rename_i hi;obtain ⟨j,x,hs,_⟩:=Jm hi.1;rw [hs];exact gV h hg (h6 hs)
      ·exact hg
     ·split
      ·split
       ·exact V3 hg fun x hx _=>.inr ⟨x,(List.mem_filter.1 hx).1,rfl,rfl⟩
       ·exact hg
      ·exact hg
theorem uo {n:NO} (h:OkN n) (hg:Cl n.DK):Cl (onceN n).DK:=by
 have h1:Cl (AM n).DK:=by
  unfold AM;split
  ·exact hg
  ·refine V3 hg fun x hx hn=>?_;rcases UD.1 hx with hx | ⟨k,hk,rfl⟩
   ·exact .inr ⟨x,hx,rfl,rfl⟩
   ·obtain ⟨z,hz,e⟩:=h.dr.has _ hn;exact absurd e ((h.may k hk).1 z hz)
 have h2:Cl (Bx n).DK:=by
  have:Cl (BF (AM n)).DK:=by
   unfold BF CM;dsimp only;split
   ·split
    ·intro h2;simp at h2
    ·exact h1
   ·exact h1
  exact this
 have h3:Cl (AS n).DK:=uk h2;have h4:Cl (BT (AG (AS n))).DK:=h3;unfold onceN Dn;refine V3 h4 fun x hx _=>?_;obtain ⟨y,hy,hc⟩:=TR hx;rcases hc with ⟨rfl,_⟩ | ⟨_,_,rfl⟩
 ·exact .inr ⟨x,hy,rfl,rfl⟩
 ·exact .inr ⟨y,hy,rfl,rfl⟩
theorem gU {n:NO} (h:OkN n) (hg:Cl n.DK) (V:List EV):Cl (Bu n [] V).1.DK:=P2 (P:=fun m _ _=>Cl m.DK) (fun _ _ _ hm hP=>uo hm hP) h hg
def Fk (h:HL):Prop:=∀n∈h.NS,Cl n.DK
theorem Fk.set {h:HL} (hg:Fk h) {k:Nat} {m:NO} (hm:Cl m.DK) (M:List ML):Fk ⟨h.NS.set k m,M⟩:=fun n hn=>by
 rcases List.mem_or_eq_of_mem_set hn with hn | rfl
 ·exact hg n hn
 ·exact hm
def aN (n:NO) (q:Int):Prop:=∃s l,n.BK.SE=s::l∧s.SS=1∧q∈s.NE
theorem i7 {n:NO} (h:OkN n) (hg:Cl n.DK) {q:Int} (hq:aN n q):∃x,Ao n.DK.DI.SD q=some x∧x.BO=true:=by obtain ⟨s,l,hs,h1,hn⟩:=hq;have h2:n.DK.TH=2:=h.th.2 ((EF n).2 ⟨s,l,hs,h1⟩);obtain ⟨s',l',hs',_,he⟩:=h.drinks h2;rw [hs] at hs';obtain ⟨rfl,rfl⟩:=List.cons.inj hs';rw [he] at hn;obtain ⟨x,hx,e⟩:=h.dr.has q hn;refine ⟨x,?_,hg h2 x hx (by rw [e];exact hn)⟩;rw [←e];exact Pc h.dr.din.up hx
theorem HI.apart {h:HL} (hh:HI h) (hg:Fk h) {i k:Nat} {a b:NO} (h6:i<k) (ha:h.NS[i]?=some a) (hb:h.NS[k]?=some b) (h1:aN a k) (h2:aN b i):False:=by obtain ⟨x,hx,bx⟩:=i7 (hh.ok.nodes i a ha).2 (hg a (List.mem_of_getElem? ha)) h1;obtain ⟨y,hy,by'⟩:=i7 (hh.ok.nodes k b hb).2 (hg b (List.mem_of_getElem? hb)) h2;have:=(hh.pi i k a b h6 ha hb).one hx hy;have:=this.2 3 (.inr (.inr (.inl rfl)));simp [Bc,bx,by',bn] at this;omega
theorem aL {g:Graph} {k:Nat} {n:NO} (h:(DQ g).NS[k]?=some n):(k:Int)<g.N∧n=D1 ⟨Fp g (DO g) k,0,[]⟩:=by simp only [DQ,H7,K5,K9,List.getElem?_map,Option.map_eq_some_iff] at h;obtain ⟨d,⟨e,⟨a,ha,rfl⟩,rfl⟩,rfl⟩:=h;rw [List.getElem?_eq_some_iff] at ha;obtain ⟨hl,ha⟩:=ha;rw [List.getElem_range] at ha;simp only [List.length_range] at hl;subst ha;exact ⟨Om,rfl⟩
theorem mO (c:List Int) (k:Int):∀(l:List Int) (p:Int),Ao (l.map (Dv c k)) p=if p∈l then some (Dv c k p) else none
 | [],p=>rfl
 | b::l,p=>by
   rw [List.map_cons,K6,mO c k l p];by_cases e:b=p
   ·subst e;rw [if_pos (show (Dv c k b).PE=b from rfl),if_pos (by simp)]
   ·rw [if_neg (show ¬(Dv c k b).PE=p from e)];by_cases h:p∈l
    ·rw [if_pos h,if_pos (List.mem_cons_of_mem _ h)]
    ·rw [if_neg h,if_neg (by simp;exact ⟨fun q=>e q.symm,h⟩)]
theorem Us {g:Graph} (hg:B3 g=true) (E:g.N≤24) {k:Nat} {n:NO} (h:(DQ g).NS[k]?=some n) (p:Int):
  Ap n p=if p∈B9 g k then ⟨some (Dv (DO g) k p),1,false,none⟩ else ⟨none,0,false,none⟩:=by
 have hok:=((gZ hg E).nodes k n h).2;obtain ⟨hk,rfl⟩:=aL h;unfold Ap;have e1:Ao (D1 ⟨Fp g (DO g) k,0,[]⟩).DK.DI.SD p=if p∈B9 g k then some (Dv (DO g) k p) else none:=mO _ _ _ _
 have e2:BG (D1 ⟨Fp g (DO g) k,0,[]⟩).KN p=if p∈B9 g k then 1 else 0:=by
  by_cases hp:p∈B9 g k
  ·rw [if_pos hp];have hm:(⟨p,1⟩:KE)∈(D1 ⟨Fp g (DO g) k,0,[]⟩).KN:=List.mem_map.2 ⟨Dv (DO g) k p,List.mem_map.2 ⟨p,hp,rfl⟩,rfl⟩;exact M9 hok.kup hm
  ·rw [if_neg hp];refine UT fun q hq=>?_;obtain ⟨x,hx,rfl⟩:=List.mem_map.1 hq;obtain ⟨b,hb,rfl⟩:=List.mem_map.1 hx;intro e;have e:b=p:=e;exact hp (e ▸ hb)
 rw [e1,e2];by_cases hp:p∈B9 g k
 ·simp only [if_pos hp];rfl
 ·simp only [if_neg hp];rfl
theorem aM {g:Graph} (hg:B3 g=true) (E:g.N≤24):HI (DQ g)∧Fk (DQ g):=by
 have hk:=gZ hg E;have h8:((DQ g).NS.length:Int)=g.N:=by have:=UF hg;simp only [DQ,List.length_map];exact this
 refine ⟨⟨hk,fun i k a b h9 ha hb=>?_,fun i a ha q hq=>?_⟩,fun n hn=>?_⟩
 ·rw [Us hg E ha,Us hg E hb];have h6:(k:Int)∈B9 g i↔(i:Int)∈B9 g k:=⟨cH hg,cH hg⟩
  by_cases h:(k:Int)∈B9 g i
  ·rw [if_pos h,if_pos (h6.1 h)];have hne:=yI hg (fY hg).1 h;refine .lv (Dv (DO g) i k) (Dv (DO g) k i) rfl (.inl rfl) rfl rfl rfl rfl rfl rfl (Bl.nil _) (Bl.nil _) (fun q hq=>?_);show bn (Bc q (Dv (DO g) i k))+bn (Bc q (Dv (DO g) k i))+0+0=1;rcases Int.lt_or_lt_of_ne hne with hc | hc
   ·rcases hq with rfl | rfl | rfl | rfl<;>simp [Bc,Dv,bn,hc,Int.not_lt.2 (Int.le_of_lt hc)]
   ·rcases hq with rfl | rfl | rfl | rfl<;>simp [Bc,Dv,bn,hc,Int.not_lt.2 (Int.le_of_lt hc)]
  ·rw [if_neg h,if_neg (fun e=>h (h6.2 e))];exact .no rfl rfl rfl (Int.le_refl _) (Bl.nil _) (Bl.nil _)
 ·rw [Us hg E ha,if_neg (fun h=>by have:=GH hg h;omega)];exact ⟨rfl,rfl⟩
 ·obtain ⟨k,hk'⟩:=List.mem_iff_getElem?.1 hn;obtain ⟨_,rfl⟩:=aL hk';intro h2;simp [D1] at h2
def cP (e:Int):Prop:=(170≤e∧e≤186)∨e=188∨e=191∨e=192
theorem xF (b:BK) (id:Int) (need:List Int):(Ge b id need).2=0∨(170≤(Ge b id need).2∧(Ge b id need).2≤186):=by
 unfold Ge
 (repeat' split)<;>simp
theorem sQ (b:BK) (id E:Int):(DA b id E).2=0∨(170≤(DA b id E).2∧(DA b id E).2≤186):=by
 unfold DA
 (repeat' split)<;>simp
theorem pZ (n:NO) (a:Do):(AW n a).1=0∨cP (AW n a).1:=by
 have o1:=xF n.BK a.ID a.NE;have o2:=fun w=>sQ n.BK a.ID w;unfold AW;split
 ·unfold CG;split
  ·split
   ·split
    ·exact .inl rfl
    ·exact .inr (.inl Om)
   ·rcases o1 with o1 | o1
    ·rename_i h;exact absurd o1 h
    ·exact .inr (.inl o1)
  ·split
   ·split
    ·exact .inl rfl
    ·rename_i h;rcases o2 1 with o | o
     ·exact absurd o h
     ·exact .inr (.inl o)
   ·split
    ·split
     ·exact .inl rfl
     ·rename_i h;rcases o2 0 with o | o
      ·exact absurd o h
      ·exact .inr (.inl o)
    ·split
     ·split<;>exact .inl rfl
     ·exact .inl rfl
 ·split
  ·split
   ·cases C6 n.DK.DI.SD a.PE with
    | some j=>exact .inr (.inl (by dsimp only;omega))
    | none=>
      dsimp only;split
      ·exact .inl rfl
      ·exact .inr (.inl (by dsimp only;omega))
   ·exact .inr (.inl (by dsimp only;omega))
  ·split
   ·split
    ·cases C6 n.DK.DI.SD a.PE with
     | none=>exact .inr (.inl (by dsimp only;omega))
     | some j=>
       dsimp only;split
       ·exact .inr (.inl (by dsimp only;omega))
       ·split
        ·exact .inl rfl
        ·exact .inr (.inl (by dsimp only;omega))
    ·exact .inr (.inl (by dsimp only;omega))
   ·exact .inr (.inr (.inl rfl))
def oZ (h:HL) (T:HL→List EV→Prop) (x:HL) (V:List EV) (e:Int):Prop:=(e=0∧HI x∧T x V∧x.ML.length≤h.ML.length+6000∧x.NS.length=h.NS.length)∨(e≠0∧cP e)
def Pu (h:HL) (k:Nat) (n:NO) (a:Do):HL:=⟨h.NS.set k (Bu (AW n a).2.1 [] (AW n a).2.2).1,h.ML++(Bu (AW n a).2.1 [] (AW n a).2.2).2.1⟩
def PO (h:HL) (k i:Nat) (n:NO) (a:Int) (m:Msg):HL:=⟨h.NS.set k (Bu (B1 n a m).2.1 [] (B1 n a m).2.2).1,(h.ML.take i++h.ML.drop (i+1))++(Bu (B1 n a m).2.1 [] (B1 n a m).2.2).2.1⟩
theorem Z0t {h:HL} {s:narthexlaw19_Step} (hh:HI h) (T:HL→List EV→Prop) (hl:h.ML.length+6000≤1000000) (ha:s.Do.NE.length≤1000)
  (E:∀(k:Nat) (n:NO),h.NS[k]?=some n→(s.Do.KI=4→0≤s.Do.PE∧s.Do.PE<h.NS.length)→(AW n s.Do).1=0→T (Pu h k n s.Do) (Bu (AW n s.Do).2.1 [] (AW n s.Do).2.2).2.2)
  (J:∀(k i:Nat) (n:NO) (m:ML),h.NS[k]?=some n→(h.ML.findIdx? fun m=>decide (m.From=s.A)&&decide (m.To=(k:Int)))=some i→h.ML[i]?=some m→T (PO h k i n s.A m.Msg) (Bu (B1 n s.A m.Msg).2.1 [] (B1 n s.A m.Msg).2.2).2.2):
  ∃x V e,JA h s=some (x,V,e)∧oZ h T x V e:=by
 have hk:=hh.ok;have hc:=P9 hk;cases hs:s.ML with
 | false=>
   have e0:JA h s=(Ho h s.A s.Do).bind fun x5=>some (x5.1,x5.2.1,x5.2.2):=by unfold JA;rw [hs,A1,B0 _ _ Om (by simp;omega),OB,List.nil_append]
   rw [e0];by_cases hA:0≤s.A∧s.A<h.NS.length
   ·by_cases hP:s.Do.KI=4→0≤s.Do.PE∧s.Do.PE<h.NS.length
    ·obtain ⟨k,rfl'⟩:∃k:Nat,s.A=k:=⟨s.A.toNat,Om⟩
     obtain ⟨n,hn⟩:∃n,h.NS[k]?=some n:=⟨_,List.getElem?_eq_getElem Om⟩
     obtain ⟨h6,hok⟩:=hk.nodes k n hn;have hr:=lX n s.Do hok ha;obtain ⟨e,m,V,hq⟩:∃e m V,AW n s.Do=(e,m,V):=⟨_,_,_,rfl⟩
     have q1:(AW n s.Do).1=e:=by rw [hq]
     have q2:(AW n s.Do).2.1=m:=by rw [hq]
     have q3:(AW n s.Do).2.2=V:=by rw [hq]
     rw [hq] at hr;dsimp only at hr;by_cases he:e=0
     ·subst he;obtain ⟨i1,i2⟩:=hh.act hn hP q1 hl;have i3:=E k n hn hP q1;unfold Pu at i3;rw [q2,q3] at i1 i2 i3;rw [rfl',dB hk hn hP hr (by rw [YI];dsimp only;omega),OB];unfold Jj;rw [YI];refine ⟨_,_,_,rfl,.inl ⟨rfl,i1,i3,by simp;omega,by simp⟩⟩
     ·rw [rfl',dB hk hn hP hr (by rw [lm he];simp),OB];unfold Jj;rw [lm he,if_neg he];refine ⟨_,_,_,rfl,.inr ⟨he,?_⟩⟩;rcases pZ n s.Do with o | o
      ·rw [q1] at o;exact absurd o he
      ·rw [q1] at o;exact o
    ·refine ⟨I3,[],191,?_,.inr ⟨by decide,.inr (.inr (.inl rfl))⟩⟩;unfold Ho;have h8:s.Do.KI=4:=Classical.byContradiction fun h=>hP fun h'=>absurd h' h;rw [hc,OB,show (!decide ((0:Int)=0))=false by decide,A1,Fe,OB,DT hA.1,DT hA.2,Bool.and_true,Bool.not_true,A1,DT h8,A3,Fe,OB,
      show (!(decide (0≤s.Do.PE)&&decide (s.Do.PE<(h.NS.length:Int))))=true by rw [Bool.not_eq_true',←Bool.not_eq_true];intro hh;simp at hh;exact hP fun _=>hh]
     rfl
   ·refine ⟨I3,[],191,?_,.inr ⟨by decide,.inr (.inr (.inl rfl))⟩⟩;unfold Ho;rw [hc,OB,show (!decide ((0:Int)=0))=false by decide,A1,Fe,OB,show (!(decide (0≤s.A)&&decide (s.A<(h.NS.length:Int))))=true by rw [Bool.not_eq_true',←Bool.not_eq_true];intro hh;simp at hh;exact hA hh];rfl
 | true=>
   have e0:JA h s=(Er h s.A s.B).bind fun x5=>some (x5.1,x5.2.1,x5.2.2):=by unfold JA;rw [hs,A3]
   rw [e0];by_cases hA:0≤s.A∧s.A<h.NS.length
   ·by_cases hB:0≤s.B∧s.B<h.NS.length
    ·cases hi:(h.ML.findIdx? fun m=>decide (m.From=s.A)&&decide (m.To=s.B)) with
     | none=>exact ⟨I3,[],192,by rw [mr hk hA hB hi];rfl,.inr ⟨by decide,.inr (.inr (.inr rfl))⟩⟩
     | some i=>
       obtain ⟨k,rfl'⟩:∃k:Nat,s.B=k:=⟨s.B.toNat,Om⟩
       obtain ⟨n,hn⟩:∃n,h.NS[k]?=some n:=⟨_,List.getElem?_eq_getElem Om⟩
       have h9:i<h.ML.length:=by rw [List.findIdx?_eq_some_iff_getElem] at hi;exact hi.1
       obtain ⟨m,hm'⟩:∃m,h.ML[i]?=some m:=⟨_,List.getElem?_eq_getElem h9⟩
       obtain ⟨h6,hok⟩:=hk.nodes k n hn;have hr:=du n s.A m.Msg hok;rw [rfl'] at hi;obtain ⟨g0,i1,i2⟩:=hh.get hn hi hm' hl;have i3:=J k i n m hn hi hm';unfold PO at i3;rw [g0] at hr;rw [rfl',dD hk hA hn hi hm' hr (by rw [YI];dsimp only;omega),OB];unfold Jj;rw [YI];refine ⟨_,_,_,rfl,.inl ⟨rfl,i1,i3,by simp;omega,by simp⟩⟩
    ·refine ⟨I3,[],191,?_,.inr ⟨by decide,.inr (.inr (.inl rfl))⟩⟩;unfold Er;rw [hc,OB,show (!decide ((0:Int)=0))=false by decide,A1,Fe,OB,DT hA.1,DT hA.2,Bool.and_true,Bool.not_true,A1,Fe,OB,show (!(decide (0≤s.B)&&decide (s.B<(h.NS.length:Int))))=true by rw [Bool.not_eq_true',←Bool.not_eq_true];intro hh;simp at hh;exact hB hh];rfl
   ·refine ⟨I3,[],191,?_,.inr ⟨by decide,.inr (.inr (.inl rfl))⟩⟩;unfold Er;rw [hc,OB,show (!decide ((0:Int)=0))=false by decide,A1,Fe,OB,show (!(decide (0≤s.A)&&decide (s.A<(h.NS.length:Int))))=true by rw [Bool.not_eq_true',←Bool.not_eq_true];intro hh;simp at hh;exact hA hh];rfl
theorem Fk.acts {h:HL} (hg:Fk h) (hh:HI h) {k:Nat} {n:NO} {a:Do} (hn:h.NS[k]?=some n) (h0:(AW n a).1=0):Fk (Pu h k n a):=by have hok:=(hh.ok.nodes k n hn).2;exact hg.set (gU (Pv hok h0).1 (uj hok (hg n (List.mem_of_getElem? hn)) a) _) _
theorem Fk.gets {h:HL} (hg:Fk h) (hh:HI h) {k i:Nat} {n:NO} {m:ML} {a:Int} (hn:h.NS[k]?=some n) (hi:(h.ML.findIdx? fun m=>decide (m.From=a)&&decide (m.To=(k:Int)))=some i) (hm:h.ML[i]?=some m):Fk (PO h k i n a m.Msg):=by have hok:=(hh.ok.nodes k n hn).2;obtain ⟨s,rfl,_,_,_,_,g0,_⟩:=hh.get1 hn hi hm;exact hg.set (gU (PP hok g0).1 (ul hok (hg n (List.mem_of_getElem? hn)) _ m.Msg) _) _
def SB (x1:SX) (x2:Int):Option Bool:=some (decide (x1.PE=x2))
theorem vC {x1 x2 r} (h:SB x1 x2=some r):FPx 101 [.agg (SX.row x1),.elt (Ad x2) 0] (.bv r):=by have ok:=oJ 101 Tryz.f101 [.t 3] 2 6;refine FP ok fun w0 H0=>?_;rw [SB] at h;exact W
def G5 (x1:DI) (x2:Int):Option (SX×Bool):=
 (Hw x1.SD ((fun z=>SB z x2))).bind fun x3=>
 A0 (decide (x3<0)) (
 some ((SX.mk 0 0 0 false false false false false),false)) (
 (A4 x1.SD x3).bind fun x4=>
 some (x4,true))
theorem Mq {x1 x2 r} (h:G5 x1 x2=some r):FPx 53 [.agg (DI.row x1),.iv x2] (.tup [.agg (SX.row r.1),.bv r.2]):=by have ok:=oJ 53 Tryz.f53 [.c 4 (some 8),.t 5] 2 17;refine FP ok fun w0 H0=>?_;rw [G5] at h;refine Vg 12 ?_;refine VN (LR.block 1 rfl rfl) h (fun e=>Mt e ⟨by kernel_rfl,rfl,fun z r hz=>vC hz⟩) fun _ _ h=>?_;exact W
def bK (x2:List ML):List DI→Option SN
| x20=>some (SN.mk x20 x2)
def Jp (x1:Bar) (x2:List ML):(Int×List DI)→Option ((Int×List DI) ⊕ SN)
| (x8,x9)=>
 A0 (decide (x8<(ln DK.row x1.DS))) (
 (A4 x1.DS x8).bind fun x10=>
 (Eu x10.DI.SD).bind fun x11=>
 (AI 40 x9 ([DI.mk x10.DI.ID x10.DI.PH x11])).bind fun x12=>
 some (.inl (wr (x8+1),x12))) (
 Option.map Sum.inr ((bK x2) x9))
def Ib (x1:Bar):Option SN:=
 (Lk x1.ML).bind fun x2=>
 loop (Jp x1 x2) (0,([]:List DI))
theorem ip {x1 r} (h:Ib x1=some r):FPx 26 [.agg (Bar.row x1)] (.agg (SN.row r)):=by
 have ok:=oJ 26 Tryz.f26 [.c 2 (some 2)] 1 31;refine FP ok fun w0 H0=>?_;rw [Ib] at h;refine Vg 9 ?_;have ⟨x2,ex2,h⟩:=Bs h;refine Ec trivial (Yq ex2) (h:=?_);refine Vg 12 ?_;refine Vl [2,2] (fun x20=>([],[none,some ⟨82,[.nl,.nl]⟩,some ⟨82,[.osl 1,.osl 0]⟩],[Az x2,Ps x20])) (bK x2) r ?_ fun J1=>?_
 ·intro x20 h;rw [bK] at h;refine Vg 5 ?_;refine Ae 1 (Ds ?_);refine Ae 0 ?_;exact W
 ·refine Vg 1 ?_;refine AE 2 0 38 3 (Ds ?_);refine Mm h [2,2,8,2] (fun s=>([(14,.iv s.1)],[],[(0,none)],[(1,Ps s.2)])) ?_;rintro n1 ⟨x8,x9⟩ y1 h hin1 hout1;rw [Jp] at h;refine Vg 5 ?_;refine MI h (fun h=>?_) fun h=>W;refine Vg 5 ?_;have ⟨x10,ex10,h⟩:=Bs h;refine AZ DK.row ex10 trivial rfl rfl rfl (Vg 15 ?_);have ⟨x11,ex11,h⟩:=Bs h;refine Ec trivial (OJ ex11) (h:=?_);refine Vg 7 ?_;refine Ae 2 ?_;refine Vg 1 ?_;have ⟨x12,ex12,h⟩:=Bs h;refine BP DI.row ex12 trivial rfl rfl rfl (Vg 8 ?_);refine A7 4 1 ?_;exact W
theorem jq {σ τ β:Type} (n:Nat) (body:τ→Option (τ ⊕ β)) (st:Nat→σ→τ) (I:Nat→σ→Prop) (Q:β→Prop)
  (hb:∀k s,k<n→I k s→(∃s',body (st k s)=some (.inl (st (k+1) s'))∧I (k+1) s')∨∃r,body (st k s)=some (.inr r)∧Q r) (he:∀s,I n s→∃r,body (st n s)=some (.inr r)∧Q r):
  ∀s,I 0 s→∃r,loop body (st 0 s)=some r∧Q r:=by
 have Af:∀m k s,m+k=n→I k s→∃r,loop body (st k s)=some r∧Q r:=by
  intro m;induction m with
  | zero=>
    intro k s hk hs;have:k=n:=by omega
    subst this;obtain ⟨r,h1,h2⟩:=he s hs;exact ⟨r,by rw [B5,h1],h2⟩
  | succ m ih=>
    intro k s hk hs;rcases hb k s Om hs with ⟨s1,h1,h2⟩ | ⟨r,h1,h2⟩
    ·obtain ⟨r,h3,h4⟩:=ih (k+1) s1 Om h2;exact ⟨r,by rw [B5,h1];exact h3,h4⟩
    ·exact ⟨r,by rw [B5,h1],h2⟩
 exact fun s hs=>Af n 0 s rfl hs
theorem Z0c {e:Int} (h:cP e):Rq e=some true:=by
 unfold Rq;rcases h with ⟨h1,h2⟩ | rfl | rfl | rfl
 ·rw [DT h1,A3,DT h2];rfl
 ·rfl
 ·rfl
 ·rfl
theorem dM (g:Graph) (l:List narthexlaw19_Step):∃z,KV g l=some z∧(z=true→B3 g=true∧g.N≤6∧l.length≤80∧∀s∈l,s.Do.NE.length≤20):=by
 have fin:∀k:Nat,(∀(i:Nat) s,i<k→l[i]?=some s→s.Do.NE.length≤20)→(l.length≤k∨81≤k)→∃z,Rn g l ()=some z∧(z=true→B3 g=true∧g.N≤6∧l.length≤80∧∀s∈l,s.Do.NE.length≤20):=by
  intro k hk hl;have all:l.length≤80→∀s∈l,s.Do.NE.length≤20:=fun h8 s hs=>by obtain ⟨i,hi⟩:=List.mem_iff_getElem?.1 hs;have:=(List.getElem?_eq_some_iff.1 hi).1;exact hk i s Om hi
  dsimp only [Rn];rw [Z0j,OB,B7];cases hg:B3 g with
  | false=>exact ⟨false,rfl,fun e=>by simp at e⟩
  | true=>
    rw [A3];by_cases h6:g.N≤6
    ·rw [DT h6,A3];exact ⟨_,rfl,fun e=>by have e:=of_decide_eq_true e;exact ⟨rfl,h6,Om,all Om⟩⟩
    ·rw [DN h6];exact ⟨false,rfl,fun e=>by simp at e⟩
 unfold KV;refine jq (σ:=Unit) 81 (Rp g l) (fun k _=>(k:Int)) (fun k _=>∀(i:Nat) s,i<k→l[i]?=some s→s.Do.NE.length≤20) (fun z=>z=true→B3 g=true∧g.N≤6∧l.length≤80∧∀s∈l,s.Do.NE.length≤20) (fun k _ hk hI=>?_) (fun _ hI=>?_) () (fun i s hi=>Om)
 ·dsimp only [Rp];cases hx:l[k]? with
  | none=>right;have hle:=List.getElem?_eq_none_iff.1 hx;obtain ⟨z,hz,hq⟩:=fin k hI (.inl hle);refine ⟨z,?_,hq⟩;rw [B7,DN Om,A1];dsimp only [Gx];rw [A1,hz];rfl
  | some s=>
    rw [Ay hx,A3,DT Om];dsimp only [Gx];rw [A3,Aj hx,OB,B7];by_cases hn:(20:Int)<s.Do.NE.length
    ·right;exact ⟨false,by rw [DT hn];rfl,fun e=>by simp at e⟩
    ·left;refine ⟨(),by rw [DN hn,A1,Al Om],fun i q hi hq=>?_⟩;by_cases e:i=k
     ·subst e;rw [hx] at hq;cases hq;omega
     ·exact hI i q Om hq
 ·obtain ⟨z,hz,hq⟩:=fin 81 hI (.inr Om);refine ⟨z,?_,hq⟩;dsimp only [Rp];have:∀b,Gx g l ((81:Nat):Int) false=some (.inr z)∧A0 b (Gx g l ((81:Nat):Int) (decide (((81:Nat):Int)<81))) (Gx g l ((81:Nat):Int) false)=some (.inr z):=fun b=>by
   have h1:Gx g l ((81:Nat):Int) false=some (.inr z):=by dsimp only [Gx];rw [A1,hz];rfl
   refine ⟨h1,?_⟩;rw [DN Om];cases b
   ·rw [A1,h1]
   ·rw [A3,h1]
  exact (this _).2
theorem dK {g:Graph} (hg:B3 g=true) (Y:g.N≤6) {l:List narthexlaw19_Step} (hl:l.length≤80) (hn:∀s∈l,s.Do.NE.length≤20) (J:HL→Prop) (h0:J (DQ g))
  (E:∀(h:HL) (k:Nat) (n:NO) (a:Do),HI h→J h→h.NS[k]?=some n→(AW n a).1=0→J (Pu h k n a))
  (U:∀(h:HL) (k i:Nat) (n:NO) (m:ML) (a:Int),HI h→J h→h.NS[k]?=some n→(h.ML.findIdx? fun m=>decide (m.From=a)&&decide (m.To=(k:Int)))=some i→h.ML[i]?=some m→J (PO h k i n a m.Msg))
  (is:HL×List EV→Option Bool) (hi:∀h V,HI h→J h→h.ML.length≤600000→(h.NS.length:Int)=g.N→is (h,V)=some true):
  ∃r,KU g l is=some r∧r.2=true∧HI r.1∧J r.1∧r.1.ML.length≤480000∧(r.1.NS.length:Int)=g.N:=by
 have h8:=(aM hg Om).1;have h6:((DQ g).NS.length:Int)=g.N:=by have:=UF hg;simp only [DQ,List.length_map];exact this
 have ho:R8 g=some g:=by have:=(Df hg).2.2.1;unfold R8;rw [B0 _ _ Om (by simp;omega),OB,List.nil_append]
 have hw:(DQ g).ML.length=0:=rfl;unfold KU;rw [ho,OB,ms g Om,OB,if_pos hg,DT rfl,Bool.not_true,A1,hi _ [] h8 h0 Om h6,OB,Bool.not_true];dsimp only [Rl];rw [A1];refine jq l.length (Rm l is) (fun k h=>((k:Int),h)) (fun k h=>HI h∧J h∧h.ML.length≤6000*k∧(h.NS.length:Int)=g.N) (fun r=>r.2=true∧HI r.1∧J r.1∧r.1.ML.length≤480000∧(r.1.NS.length:Int)=g.N) (fun k h hk hI=>?_) (fun h hI=>?_) (DQ g) ⟨h8,h0,Om,h6⟩
 ·left;obtain ⟨i1,i2,i3,i4⟩:=hI;obtain ⟨s,hx⟩:∃s,l[k]?=some s:=⟨_,List.getElem?_eq_getElem hk⟩
  have hsm:=hn s (List.mem_of_getElem? hx);have hA:=i1.ok.len;obtain ⟨x,V,e,hr,h9⟩:=Z0t (s:=s) i1 (fun x _=>J x) Om Om (fun k n h1 _ h2=>E h k n s.Do i1 i2 h1 h2) (fun k i n m h1 h2 h3=>U h k i n m s.A i1 i2 h1 h2 h3);dsimp only [Rm];rw [Ay hx,A3,Aj hx,OB,Z09 h i1.ok.few Om Om,OB,hr,OB];dsimp only [WE];rcases h9 with ⟨rfl,x1,x2,x3,x4⟩ | ⟨he,hd⟩
  ·refine ⟨x,?_,x1,x2,Om,Om⟩;rw [DT rfl,Bool.not_true,A1];dsimp only [Nn];rw [A1,DT rfl,A3,hi x V x1 x2 Om Om,OB,Bool.not_true,A1];dsimp only [Np];rw [Al Om]
  ·refine ⟨h,?_,i1,i2,Om,i4⟩;rw [DN he,Bool.not_false,A3,Z0c hd,OB,Bool.not_true];dsimp only [Nn];rw [A1,DN he,A1];dsimp only [Np];rw [Al Om]
 ·obtain ⟨i1,i2,i3,i4⟩:=hI;dsimp only [Rm];rw [AB,A1];exact ⟨(h,true),rfl,rfl,i1,i2,by show h.ML.length≤480000;omega,i4⟩
end
end NX
end Go.Proofs.YtjemlejoladlcaaGreat
