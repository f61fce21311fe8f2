/-
  Plain laws, gathered by a program of ours. No statement of the seat is proved here.
-/
import Derived.Test.YtgnjledocpbchaaGreatRows
import Derived.Test.YtgnjledocpbchaaGreatMModelHall12
set_option maxRecDepth 100000
set_option maxHeartbeats 40000000
namespace Go.Proofs.YtgnjledocpbchaaGreat
namespace NX
open Go
theorem vb (l:List Edge) (p:Edge→Option Bool) (q:Edge→Bool) (hl:l.length≤4000000000000000000) (hp:∀x∈l,p x=some (q x)):Te l p=some (Br (l.findIdx? q)):=by
 unfold Te;refine eR l _ q hl (fun k x hx=>?_) ?_
 ·simp only [Xj,AQ hx,Ag,Ar hx,OB,hp x (List.mem_iff_getElem?.2 ⟨k,hx⟩),EA hx hl];cases q x<;>rfl
 ·simp only [Xj,AT,Aa,Xi,Option.map_some]
theorem u5 (l:List Edge) (p:Edge→Option Bool) (q:Edge→Bool) (hl:l.length≤4000000000000000000) (hp:∀x∈l,p x=some (q x)):Oe l p=some (l.any q):=by unfold Oe;rw [vb l p q hl hp,OB,Lv,Kl]
def LZ (a b:Int):Int:=if a<b then -1 else if b<a then 1 else 0
theorem uT (a b:Int):Mr a b=some (LZ a b):=by simp only [Mr,PS,OB,LZ];by_cases h1:a<b<;>by_cases h2:b<a<;>simp [h1,h2,A0]
theorem vh (a b:Int):PQ [a,b]=some (if a≠0 then a else b):=by
 unfold PQ;rw [Bn];simp only [PR,AY,List.length_cons,List.length_nil];by_cases ha:a=0
 ·subst ha;simp [Ac];rw [show wr 1=1 from D4 Om Om,Bn];simp only [PR,AY,List.length_cons,List.length_nil];by_cases hb:b=0
  ·subst hb;simp [Ac];rw [show wr 2=2 from D4 Om Om,Bn];simp [PR,AY,UV]
  ·simp [Ac,hb]
 ·simp [Ac,ha]
def Edge.lt (x y:Edge):Bool:=decide (x.A<y.A)||(decide (x.A=y.A)&&decide (x.B<y.B))
theorem w7 (x y:Edge):∃n,Qq x y=some n∧decide (0≤n)=!x.lt y:=by
 refine ⟨if LZ x.A y.A≠0 then LZ x.A y.A else LZ x.B y.B,by simp only [Qq,uT,OB,vh],?_⟩;unfold LZ Edge.lt;by_cases h1:x.A<y.A
 ·simp [h1]
 ·by_cases h2:y.A<x.A
  ·have:x.A≠y.A:=by omega
   simp [h1,h2,this]
  ·have:x.A=y.A:=by omega
   simp [this];by_cases h3:x.B<y.B
   ·simp [h3]
   ·by_cases h4:y.B<x.B<;>simp [h3,h4]<;>omega
def Edge.ok (n:Int) (e:Edge):Bool:=decide (0≤e.A)&&(decide (e.A<e.B)&&decide (e.B<n))
def ES:List Edge→Bool
 | x::y::l=>x.lt y&&ES (y::l)
 | _=>true
theorem jU (l:List Edge):ES l=true↔∀k x y,l[k]?=some x→l[k+1]?=some y→x.lt y=true:=by
 induction l with
 | nil=>simp [ES]
 | cons a l ih=>
   cases l with
   | nil=>simp [ES]
   | cons b l=>
     simp only [ES,Bool.and_eq_true,ih];constructor
     ·rintro ⟨h1,h2⟩ k x y hx hy;cases k with
      | zero=>simp at hx hy;subst hx;subst hy;exact h1
      | succ k=>exact h2 k x y (by simpa using hx) (by simpa using hy)
     ·intro h;exact ⟨h 0 a b (by simp) (by simp),fun k x y hx hy=>h (k+1) x y (by simpa using hx) (by simpa using hy)⟩
def Bd (g:Graph):Bool:=decide (0≤g.N)&&(decide (g.N≤64)&&(decide (g.Edges.length≤400)&&(g.Edges.all (Edge.ok g.N)&&ES g.Edges)))
theorem uQ (e:Edge) (g:Graph):MU e g=some (!e.ok g.N):=by
 simp only [MU,MV,Edge.ok];by_cases h1:e.A<0
 ·have:¬0≤e.A:=by omega
  simp [h1,this]
 ·have h1':0≤e.A:=by omega
  by_cases h2:e.B≤e.A
  ·have:¬e.A<e.B:=by omega
   simp [h1,h2,this]
  ·have h2':e.A<e.B:=by omega
   by_cases h3:g.N≤e.B
   ·have:¬e.B<g.N:=by omega
    simp [h1,h2,h3,this]
   ·have:e.B<g.N:=by omega
    simp [h1,h2,h3,this,h1',h2']
theorem gv {β:Type} (l:List Edge) (body:Int→Option (Int ⊕ β)) (E no:β) (q:Edge→Bool) (_:l.length≤4000000000000000000)
  (hb:∀(k:Nat) x,l[k]?=some x→body k=some (if q x||(match k with | 0=>false | k+1=>match l[k]? with | some y=>!y.lt x | none=>false) then .inr E else .inl ((k+1:Nat):Int))) (he:body l.length=some (.inr no)):
  loop body 0=some (if l.all (fun x=>!q x)&&ES l then no else E):=by
 have Ap:∀m k,m+k=l.length→(∀j x,j<k→l[j]?=some x→q x=false)→(∀j x y,j+1<k→l[j]?=some x→l[j+1]?=some y→x.lt y=true)→loop body (k:Int)=some (if l.all (fun x=>!q x)&&ES l then no else E):=by
  intro m;induction m with
  | zero=>
    intro k hk h1 h2;have:k=l.length:=by omega
    subst this;rw [Bn,he];have a1:l.all (fun x=>!q x)=true:=by rw [List.all_eq_true];intro x hx;obtain ⟨j,hj⟩:=List.mem_iff_getElem?.1 hx;simp [h1 j x (List.getElem?_eq_some_iff.1 hj).1 hj]
    have a2:ES l=true:=by rw [jU];intro j x y hx hy;exact h2 j x y (List.getElem?_eq_some_iff.1 hy).1 hx hy
    simp [a1,a2]
  | succ m ih=>
    intro k hk h1 h2;have hlt:k<l.length:=by omega
    have hx:l[k]?=some l[k]:=List.getElem?_eq_getElem hlt;rw [Bn,hb k _ hx];by_cases hq:q l[k]=true
    ·have:l.all (fun x=>!q x)=false:=by rw [List.all_eq_false];exact ⟨l[k],List.getElem_mem hlt,by simp [hq]⟩
     simp [hq,this]
    ·have hq:q l[k]=false:=by simpa using hq
     cases k with
     | zero=>
       simp only [hq,Bool.or_false,Bool.false_eq_true,if_false];refine ih 1 Om (fun j x hj h6=>?_) (fun j x y hj=>Om);have:j=0:=by omega
       subst this;rw [hx] at h6;simp at h6;rw [←h6];exact hq
     | succ k=>
       have hy:l[k]?=some l[k]:=List.getElem?_eq_getElem Om;simp only [hq,hy,Bool.false_or];by_cases hr:l[k].lt l[k+1]=true
       ·simp only [hr,Bool.not_true,Bool.false_eq_true,if_false];refine ih (k+1+1) Om (fun j x hj h6=>?_) (fun j x y hj h6 h8=>?_)
        ·rcases Nat.lt_succ_iff_lt_or_eq.1 hj with h | rfl
         ·exact h1 j x h h6
         ·rw [hx] at h6;simp at h6;rw [←h6];exact hq
        ·rcases Nat.lt_succ_iff_lt_or_eq.1 (Nat.succ_lt_succ_iff.1 hj) with h | rfl
         ·exact h2 j x y Om h6 h8
         ·rw [hy] at h6;rw [hx] at h8;simp at h6 h8;rw [←h6,←h8];exact hr
       ·have hr:l[k].lt l[k+1]=false:=by simpa using hr
        have:ES l=false:=by
         cases h:ES l with
         | false=>rfl
         | true=>rw [jU] at h;have:=h k _ _ hy hx;rw [hr] at this;exact absurd this (by simp)
        simp [hr,this]
 exact Ap l.length 0 Om (fun j x hj=>Om) (fun j x y hj=>Om)
theorem Ly (g:Graph):Hq g=some (if Bd g then 0 else 30):=by
 simp only [Hq,Kz];by_cases h1:g.N<0
 ·have:¬0≤g.N:=by omega
  simp [h1,Bd,this]
 by_cases h2:64<g.N
 ·have:¬g.N≤64:=by omega
  simp [h1,h2,Bd,this]
 by_cases h3:400<g.Edges.length
 ·have:¬g.Edges.length≤400:=by omega
  have h3':(400:Int)<ln Edge.row g.Edges:=by rw [AY];omega
  simp [h1,h2,h3',Bd,this]
 have h3':¬(400:Int)<ln Edge.row g.Edges:=by rw [AY];omega
 rw [u5 g.Edges _ (fun e=>!e.ok g.N) Om (fun x _=>uQ x g)];have e1:0≤g.N:=by omega
 have e2:g.N≤64:=by omega
 have e3:g.Edges.length≤400:=by omega
 simp only [h1,h2,h3',decide_false,Aa,OB,Bd,e1,e2,e3,decide_true,Bool.true_and];by_cases h4:g.Edges.any (fun e=>!e.ok g.N)=true
 ·have h5:g.Edges.all (Edge.ok g.N)=false:=by rw [List.any_eq_true] at h4;obtain ⟨x,hx,hq⟩:=h4;rw [List.all_eq_false];exact ⟨x,hx,by simpa using hq⟩
  simp [h4,h5]
 ·have h4:g.Edges.any (fun e=>!e.ok g.N)=false:=by simpa using h4
  have h5:g.Edges.all (Edge.ok g.N)=true:=by rw [List.any_eq_false] at h4;rw [List.all_eq_true];intro x hx;simpa using h4 x hx
  simp only [h4,h5,Aa,Bool.true_and];have Ap:=gv g.Edges (MX g) 30 0 (fun _=>false) Om (fun k x hx=>by
   cases k with
   | zero=>have:=AQ (f:=Edge.row) hx;simp only [MX,this,Ag,MW];simp;exact EA hx Om
   | succ k=>
     have hk:=(List.getElem?_eq_some_iff.1 hx).1;have hy:g.Edges[k]?=some g.Edges[k]:=List.getElem?_eq_getElem Om;obtain ⟨n,h6,h8⟩:=w7 g.Edges[k] x;have h0:decide ((0:Int)<((k+1:Nat):Int))=true:=DT Om;simp only [MX,AQ hx,Ag,h0,d5 (show k≤4000000000000000000 by omega),Ar hy,Ar hx,OB,h6,h8,MW,hy,Bool.false_or];cases g.Edges[k].lt x
     ·simp
     ·simp only [Bool.not_true,Bool.false_eq_true,if_false,Aa];rw [EA hx (show g.Edges.length≤4000000000000000000 by omega)])
   (by simp only [MX,AT,Aa,V6,Option.map_some])
  rw [Ap];simp
theorem Dc {g:Graph} (h:Bd g=true):0≤g.N∧g.N≤64∧g.Edges.length≤400∧(∀e∈g.Edges,0≤e.A∧e.A<e.B∧e.B<g.N)∧ES g.Edges=true:=by simp only [Bd,Bool.and_eq_true,decide_eq_true_eq,List.all_eq_true,Edge.ok] at h;exact ⟨h.1,h.2.1,h.2.2.1,fun e he=>h.2.2.2.1 e he,h.2.2.2.2⟩
def cg (c:List Int) (i:Int):Int:=(c[i.toNat]?).getD 0
theorem fE {c:List Int} {i:Int} (h0:0≤i) (h:i<c.length):Ac c i=some (cg c i):=by obtain ⟨x,h1,h2⟩:=Z7 h0 h;rw [h1,cg,h2];rfl
def FI (g:Graph) (c:List Int):Bool:=decide ((c.length:Int)=g.N)&&(c.all (fun x=>decide (1≤x))&&g.Edges.all (fun e=>!decide (cg c e.A=cg c e.B)))
theorem vl (g:Graph) (c:List Int) (_:c.length≤1000000):PT g c=some (Bd g&&FI g c):=by
 simp only [PT,Ly,OB,Je];cases hg:Bd g with
 | false=>simp [Ii]
 | true=>
   obtain ⟨g1,g2,g3,g4,g5⟩:=Dc hg;simp only [if_true,decide_true,Ag,Bool.true_and,AY];by_cases hl:(c.length:Int)=g.N
   ·rw [K1 c (fun z=>PU z) (fun x=>decide (x<1)) Om (fun x _=>rfl)];simp only [hl,decide_true,Ag,OB,FI,Bool.true_and];have e1:c.any (fun x=>decide (x<1))=!c.all (fun x=>decide (1≤x)):=Kf _ _ _ (fun x=>by
     by_cases h:x<1
     ·have:¬1≤x:=by omega
      simp [h,this]
     ·have:1≤x:=by omega
      simp [h,this])
    rw [e1];cases hp:c.all (fun x=>decide (1≤x)) with
    | false=>simp [Ii]
    | true=>simp only [Bool.not_true,Ii,Aa];rw [u5 g.Edges _ (fun e=>decide (cg c e.A=cg c e.B)) Om (fun e he=>by obtain ⟨k1,k2,k3⟩:=g4 e he;simp only [PV,fE (c:=c) k1 Om,fE (c:=c) (show 0≤e.B by omega) Om,OB])];simp [nP]
   ·simp [hl,FI,Ii]
theorem vt (x y:Edge):Ro x y=some (x.lt y):=by
 simp only [Ro,Ns,Edge.lt];by_cases h1:x.A<y.A
 ·simp [h1]
 ·by_cases h2:x.A=y.A<;>simp [h1,h2]
theorem w6 (g:Graph):Rm g=some (Bd g):=by
 simp only [Rm,Nr];by_cases h1:g.N<0
 ·have:¬0≤g.N:=by omega
  simp [h1,Bd,this]
 by_cases h2:64<g.N
 ·have:¬g.N≤64:=by omega
  simp [h1,h2,Bd,this]
 by_cases h3:400<g.Edges.length
 ·have:¬g.Edges.length≤400:=by omega
  have h3':(400:Int)<ln Edge.row g.Edges:=by rw [AY];omega
  simp [h1,h2,h3',Bd,this]
 have h3':¬(400:Int)<ln Edge.row g.Edges:=by rw [AY];omega
 have e1:0≤g.N:=by omega
 have e2:g.N≤64:=by omega
 have e3:g.Edges.length≤400:=by omega
 simp only [h1,h2,h3',decide_false,Aa,Bd,e1,e2,e3,decide_true,Bool.true_and];have Ap:=gv g.Edges (Rn g) false true (fun e=>!e.ok g.N) Om (fun k x hx=>by
  have hw:wr ((k:Int)+1)=((k+1:Nat):Int):=EA hx Om;simp only [Rn,AQ hx,Ag,Ar hx,OB,Jy,hw,Edge.ok];by_cases k1:x.A<0
  ·have:¬0≤x.A:=by omega
   simp [k1,this]
  ·have k1':0≤x.A:=by omega
   by_cases k2:x.B≤x.A
   ·have:¬x.A<x.B:=by omega
    simp [k1,k2,this]
   ·have k2':x.A<x.B:=by omega
    by_cases k3:g.N≤x.B
    ·have:¬x.B<g.N:=by omega
     simp [k1,k2,k3,this]
    ·have k3':x.B<g.N:=by omega
     simp only [k1,k2,k3,k1',k2',k3',decide_false,decide_true,Aa,Bool.and_self,Bool.not_true,Bool.false_or];cases k with
     | zero=>simp
     | succ k=>have hk:=(List.getElem?_eq_some_iff.1 hx).1;have hy:g.Edges[k]?=some g.Edges[k]:=List.getElem?_eq_getElem Om;have h0:decide ((0:Int)<((k+1:Nat):Int))=true:=DT Om;simp only [h0,Ag,d5 (show k≤4000000000000000000 by omega),Ar hy,hy,OB,vt];cases g.Edges[k].lt x<;>simp)
  (by simp only [Rn,AT,Aa,Wf,Option.map_some])
 rw [Ap];have:g.Edges.all (fun x=>!!Edge.ok g.N x)=g.Edges.all (Edge.ok g.N):=by simp
 rw [this];cases g.Edges.all (Edge.ok g.N)&&ES g.Edges<;>rfl
def wT (l:List DI) (i:Nat) (x:SX):Bool:=decide (0≤x.PE)&&(decide (x.PE<l.length)&&(!decide (x.PE=i)&&(match l[x.PE.toNat]? with | some e=>(wW e i).isSome | none=>false)))
def uG (p:Option Int) (x:SX):Bool:=match p with | none=>true | some q=>decide (q<x.PE)
def nM (l:List DI) (i:Nat):Option Int→List SX→Bool
 | _,[]=>true
 | p,x::r=>uG p x&&(wT l i x&&nM l i (some x.PE) r)
def qj (i:Nat) (xs:List SX):List Edge:=(xs.filter fun x=>decide ((i:Int)<x.PE)).map fun x=>⟨i,x.PE⟩
def Ty (l:List DI):Nat→List DI→Bool
 | _,[]=>true
 | i,d::r=>decide (d.ID=i)&&(nM l i none d.SD&&Ty l (i+1) r)
def Zm:Nat→List DI→List Edge
 | _,[]=>[]
 | i,d::r=>qj i d.SD++Zm (i+1) r
def rH:Graph:=⟨0,[]⟩
def fD (l:List DI):Graph×Bool:=if Ty l 0 l&&Bd ⟨l.length,Zm 0 l⟩ then (⟨l.length,Zm 0 l⟩,true) else (rH,false)
theorem wx (l:List DI):∀(r:List DI) (i:Nat),Ty l i r=true↔∀k d,r[k]?=some d→d.ID=((i+k:Nat):Int)∧nM l (i+k) none d.SD=true
 | [],i=>by simp [Ty]
 | d::r,i=>by
   simp only [Ty,Bool.and_eq_true,decide_eq_true_eq,wx l r (i+1)];constructor
   ·rintro ⟨h1,h2,h3⟩ k e he;cases k with
    | zero=>simp at he;subst he;exact ⟨by simpa using h1,by simpa using h2⟩
    | succ k=>have:=h3 k e (by simpa using he);rw [show i+(k+1)=i+1+k by omega];exact this
   ·intro h;refine ⟨by simpa using (h 0 d (by simp)).1,by simpa using (h 0 d (by simp)).2,fun k e he=>?_⟩;have:=h (k+1) e (by simpa using he);rw [show i+1+k=i+(k+1) by omega];exact this
theorem Edge.lt_trans {x y z:Edge} (h:x.lt y=true) (k:y.lt z=true):x.lt z=true:=by simp only [Edge.lt,Bool.or_eq_true,Bool.and_eq_true,decide_eq_true_eq] at *;omega
theorem jV:∀ {l:List Edge},ES l=true→l.Pairwise fun x y=>x.lt y=true
 | [],_=>List.Pairwise.nil
 | [x],_=>by simp
 | x::y::l,h=>by
   simp only [ES,Bool.and_eq_true] at h;have ih:=jV h.2;refine List.pairwise_cons.2 ⟨?_,ih⟩;intro z hz;rcases List.mem_cons.1 hz with rfl | hz
   ·exact h.1
   ·exact Edge.lt_trans h.1 ((List.pairwise_cons.1 ih).1 z hz)
theorem yw {g:Graph} (h:Bd g=true):g.Edges.Pairwise fun x y=>x.lt y=true:=jV (Dc h).2.2.2.2
def GW (a:Int) (e:Edge):Option Int:=if a=e.A then some e.B else if a=e.B then some e.A else none
def Be (g:Graph) (a:Int):List Int:=g.Edges.filterMap (GW a)
theorem gW {g:Graph} (h:Bd g=true) (a:Int):(Be g a).Pairwise (· < ·):=by
 unfold Be;rw [List.pairwise_filterMap];obtain ⟨_,_,_,h4,_⟩:=Dc h;refine List.Pairwise.imp_of_mem ?_ (yw h);intro x y hx hy h6 b hb b' hb';have k1:=h4 x hx;have k2:=h4 y hy;simp only [Edge.lt,Bool.or_eq_true,Bool.and_eq_true,decide_eq_true_eq] at h6;unfold GW at hb hb';split at hb<;>split at hb'
 ·simp at hb hb';omega
 ·split at hb'
  ·simp at hb hb';omega
  ·simp at hb'
 ·split at hb
  ·simp at hb hb';omega
  ·simp at hb
 ·split at hb<;>split at hb'
  ·simp at hb hb';omega
  ·simp at hb'
  ·simp at hb
  ·simp at hb
theorem XI (g:Graph) (a:Int):(Be g a).length≤g.Edges.length:=List.length_filterMap_le _ _
theorem bY (g:Graph) (a:Int):Il g a=some (if Bd g then Be g a else []):=by
 simp only [Il,Ly,OB];cases hg:Bd g with
 | false=>rfl
 | true=>
   have h6:=(Dc hg).2.2.1;simp only [if_true,decide_true,Bool.not_true,Aa];refine D0 g.Edges _ (fun pre=>((pre.length:Int),pre.filterMap (GW a))) (Be g a) (fun pre e post h=>?_) ?_
   ·have hx:=BL h;have hm:=BG h;have hl:(pre.filterMap (GW a)).length≤pre.length:=List.length_filterMap_le _ _;dsimp only [V8];rw [AQ hx,Ag,Ar hx,OB,bb,List.filterMap_append];by_cases h1:a=e.A
    ·rw [DT h1,Ag,B5 _ _ Om (by simp only [List.length_singleton];omega),OB,Jr,AC Om];simp [GW,h1]
    ·by_cases h2:a=e.B
     ·rw [DN h1,Aa,DT h2,Ag,B5 _ _ Om (by simp only [List.length_singleton];omega),OB,Jr,AC Om];have:¬e.B=e.A:=fun e'=>h1 (h2.trans e');simp [GW,h2,this]
     ·rw [DN h1,Aa,DN h2,Aa,Jr,AC Om];simp [GW,h1,h2]
   ·dsimp only [V8];rw [AT,Aa,V7];have:(g.Edges.filterMap (GW a))=Be g a:=rfl;rw [this,wg _ (by have:=XI g a;omega) (gW hg a)];rfl
theorem XE {g:Graph} (h:Bd g=true) {a b:Int}:b∈Be g a↔(⟨a,b⟩:Edge)∈g.Edges∨(⟨b,a⟩:Edge)∈g.Edges:=by
 obtain ⟨_,_,_,h4,_⟩:=Dc h;unfold Be;rw [List.mem_filterMap];constructor
 ·rintro ⟨e,he,hb⟩;unfold GW at hb;split at hb
  ·rename_i h1;simp at hb;subst hb;subst h1;exact .inl he
  ·split at hb
   ·rename_i h2;simp at hb;subst hb;subst h2;exact .inr he
   ·simp at hb
 ·rintro (he | he)
  ·exact ⟨_,he,by simp [GW]⟩
  ·have:=h4 _ he;dsimp only at this;exact ⟨_,he,by unfold GW;rw [if_neg (by dsimp only;omega),if_pos rfl]⟩
theorem GX {g:Graph} (h:Bd g=true) {a b:Int} (hb:b∈Be g a):0≤b∧b<g.N∧b≠a∧0≤a∧a<g.N:=by
 obtain ⟨_,_,_,h4,_⟩:=Dc h;rcases (XE h).1 hb with he | he
 ·have:=h4 _ he;dsimp only at this;omega
 ·have:=h4 _ he;dsimp only at this;omega
def Dq (c:List Int) (a b:Int):SX:=⟨b,1,0,decide (cg c b<cg c a),decide (cg c b<cg c a),!decide (cg c b<cg c a),decide (cg c b<cg c a),!decide (cg c b<cg c a)⟩
def FY (g:Graph) (c:List Int) (a:Nat):DI:=⟨a,0,(Be g a).map (Dq c a)⟩
def K8 (g:Graph) (c:List Int):List DI:=(List.range g.N.toNat).map (FY g c)
theorem wy {α:Type} (f:Nat→α) (k:Nat):(List.range (k+1)).map f=(List.range k).map f++[f k]:=by simp [List.range_succ]
theorem vq (g:Graph) (hg:Bd g=true) (c:List Int) (hc:(c.length:Int)=g.N) (a:Nat) (ha:(a:Int)<g.N) (L:List DI) (E:L.length≤1000):
  loop (Ss c a L (Be g a)) (0,[])=some (.inl (((a+1:Nat):Int),L++[FY g c a])):=by
 obtain ⟨g1,g2,g3,_,_⟩:=Dc hg;have h6:=XI g a;refine D0 (Be g a) _ (fun pre=>((pre.length:Int),pre.map (Dq c a))) _ (fun pre b post h=>?_) ?_
 ·have hx:=BL h;have hm:=BG h;obtain ⟨b1,b2,_,_,_⟩:=GX hg (Di h);dsimp only [Ss];rw [AQ hx,Ag,Ar hx,OB,fE (c:=c) (Int.natCast_nonneg a) Om,OB,fE (c:=c) b1 Om,OB,B5 _ _ Om (by simp;omega),OB,bb,AC Om,List.map_append];rfl
 ·dsimp only [Ss];rw [AT,Aa,WS,B5 _ _ Om (by simp;omega),OB,AC Om];rfl
theorem uE {g:Graph} {c:List Int} (h:FI g c=true):(c.length:Int)=g.N:=by simp only [FI,Bool.and_eq_true,decide_eq_true_eq] at h;exact h.1
theorem vp (g:Graph) (c:List Int) (hc:c.length≤1000000):Sq g c=some (if Bd g then (if FI g c then (K8 g c,0) else ([],120)) else ([],30)):=by
 simp only [Sq,Ly,OB];cases hg:Bd g with
 | false=>rfl
 | true=>
   obtain ⟨g1,g2,_,_,_⟩:=Dc hg;simp only [if_true,decide_true,Bool.not_true,Aa,vl g c hc,hg,Bool.true_and,OB];cases hr:FI g c with
   | false=>rfl
   | true=>
     simp only [Bool.not_true,Aa,if_true];refine Kq g.N.toNat (Sr g c) (fun k=>((k:Int),(List.range k).map (FY g c))) _ (fun k hk=>?_) ?_
     ·dsimp only [Sr];rw [DT Om,Ag,bY,hg,if_pos rfl,OB,vq g hg c (uE hr) k Om _ (by simp;omega),wy]
     ·dsimp only [Sr];rw [DN Om,Aa];rfl
theorem uF {g:Graph} (hg:Bd g=true) {c:List Int} (h:FI g c=true) {a b:Int} (hb:b∈Be g a):cg c a≠cg c b:=by
 simp only [FI,Bool.and_eq_true,List.all_eq_true,Bool.not_eq_true',decide_eq_false_iff_not] at h;rcases (XE hg).1 hb with he | he
 ·exact h.2.2 _ he
 ·exact fun e=>h.2.2 _ he e.symm
theorem yx {g:Graph} (hg:Bd g=true) (c:List Int):((K8 g c).length:Int)=g.N:=by have:=(Dc hg).1;simp [K8];omega
theorem Pu {l:List DI} (h:(fD l).2=true) {k:Nat} {d:DI} (hd:l[k]?=some d):d.ID=k:=by
 unfold fD at h;split at h
 ·rename_i h1;simp only [Bool.and_eq_true] at h1;have:=((wx l l 0).1 h1.1 k d hd).1;simpa using this
 ·simp at h
def GH (p:Nat→Bool):Nat→Nat→Nat
 | 0,k=>k
 | f+1,k=>if p k then k else GH p f (k+1)
theorem wY (p:Nat→Bool):∀(f k:Nat),p (k+f)=true→p (GH p f k)=true∧k≤GH p f k∧GH p f k≤k+f
 | 0,k,h=>⟨h,Nat.le_refl _,Nat.le_refl _⟩
 | f+1,k,h=>by
   simp only [GH];split
   ·rename_i h1;exact ⟨h1,Nat.le_refl _,Om⟩
   ·obtain ⟨h1,h2,h3⟩:=wY p f (k+1) (by rw [show k+1+f=k+(f+1) by omega];exact h);exact ⟨h1,Om,Om⟩
def H7 (c:List Int) (E:List Int) (k:Nat):Bool:=E.any fun b=>decide (cg c b=(k:Int))
def dY (c E:List Int):Nat:=GH (fun k=>!H7 c E k) 200 1
def HV (c E:List Int) (a:Int):Bool:=decide (cg c a=0)&&!E.any fun b=>decide (cg c b=0)&&decide (a<b)
def Ee (g:Graph) (c:List Int) (a:Nat):Int:=if HV c (Be g a) a then (dY c (Be g a):Int) else cg c a
def H4 (g:Graph) (c:List Int):List Int:=(List.range g.N.toNat).map (Ee g c)
structure ColI (g:Graph) (c:List Int):Prop where
 len:(c.length:Int)=g.N
 lo:∀x∈c,0≤x
 hi:∀x∈c,x≤100
theorem Pi {c:List Int} {a:Int} (h0:0≤a) (h:a<c.length):cg c a∈c:=by obtain ⟨x,h1,h2⟩:=Z7 h0 h;unfold cg;rw [h2];exact List.mem_iff_getElem?.2 ⟨_,h2⟩
theorem UE {g:Graph} (hg:Bd g=true) {c:List Int} (hc:ColI g c) (a:Int):H7 c (Be g a) (dY c (Be g a))=false∧1≤dY c (Be g a)∧dY c (Be g a)≤201:=by have h:=wY (fun k=>!H7 c (Be g a) k) 200 1 (by simp only [Bool.not_eq_true'];unfold H7;rw [List.any_eq_false];intro b hb;obtain ⟨b1,b2,_⟩:=GX hg hb;have:=hc.hi _ (Pi (c:=c) b1 (by rw [hc.len];exact b2));simp;omega);have h1:=h.1;simp only [Bool.not_eq_true'] at h1;exact ⟨h1,h.2.1,h.2.2⟩
theorem vn (g:Graph) (hg:Bd g=true) (c:List Int) (hc:ColI g c) (a:Nat) (ha:(a:Int)<g.N) (A B:List Int) (E:A.length=a):
  loop (Mu c a (Be g a)) (A++1::B)=some (.inl (((a+1:Nat):Int),A++(dY c (Be g a):Int)::B)):=by
 obtain ⟨g1,g2,g3,_,_⟩:=Dc hg;have h8:=XI g a;have at1:∀y:Int,Ac (A++y::B) (a:Int)=some y:=fun y=>by rw [←E];exact IU rfl
 have st1:∀y z:Int,(A++y::B).set ((a:Int)).toNat z=A++z::B:=fun y z=>by rw [←E];exact eT _ _ _ _
 have step:∀k:Nat,Fh (Be g a) (fun z=>Mt z c (A++(k:Int)::B) a)=some (H7 c (Be g a) k):=fun k=>by refine K1 (Be g a) _ (fun b=>decide (cg c b=(k:Int))) Om (fun b hb=>?_);obtain ⟨b1,b2,_⟩:=GX hg hb;simp only [Mt];rw [fE (c:=c) b1 (by rw [hc.len];exact b2),OB,at1,OB]
 have Ap:∀f k:Nat,k+f=201→1≤k→H7 c (Be g a) 201=false→loop (Mu c a (Be g a)) (A++(k:Int)::B)=some (.inl (((a+1:Nat):Int),A++(GH (fun k=>!H7 c (Be g a) k) f k:Int)::B)):=by
  intro f;induction f with
  | zero=>
    intro k hk _ h6;have:k=201:=by omega
    subst this;rw [Bn];dsimp only [Mu];rw [step,OB,h6,Aa];dsimp only [Ks];rw [AC Om];rfl
  | succ f ih=>
    intro k hk h1 h6;rw [Bn];dsimp only [Mu];rw [step,OB];cases hu:H7 c (Be g a) k with
    | true=>rw [Ag,at1,OB,st1,AC Om];dsimp only;rw [ih (k+1) Om Om h6];simp [GH,hu]
    | false=>rw [Aa];dsimp only [Ks];rw [AC Om];simp [GH,hu]
 refine Ap 200 1 rfl (Nat.le_refl _) ?_;unfold H7;rw [List.any_eq_false];intro b hb;obtain ⟨b1,b2,_⟩:=GX hg hb;have:=hc.hi _ (Pi (c:=c) b1 (by rw [hc.len];exact b2));simp;omega
theorem oM {c:List Int} {k:Nat} (h:k<c.length):c.drop k=cg c k::c.drop (k+1):=by rw [List.drop_eq_getElem_cons h];congr 1;unfold cg;simp [h]
theorem vm (g:Graph) (hg:Bd g=true) (c:List Int) (hc:ColI g c):PW g c=some (H4 g c,0):=by
 obtain ⟨g1,g2,g3,_,_⟩:=Dc hg;have h6:=hc.len;simp only [PW,Ly,hg,if_true,decide_true,Bool.not_true,Aa,OB,AY,h6];rw [K1 c (fun z=>PX z) (fun x=>decide (x<0)) Om (fun x _=>rfl),OB];have e0:c.any (fun x=>decide (x<0))=false:=by rw [List.any_eq_false];intro x hx;have:=hc.lo x hx;simp;omega
 rw [e0];simp only [PZ,Aa,Cp];rw [B5 _ _ Om (by simp;omega),OB,List.nil_append];refine (Kq g.N.toNat (Q0 g c) (fun k=>((k:Int),(List.range k).map (Ee g c)++c.drop k)) (H4 g c,0) (fun k hk=>?_) ?_)
 ·have h8:k<c.length:=by omega
  obtain ⟨g1',_⟩:=Dc hg;dsimp only [Q0];rw [DT Om,Ag,bY,hg,if_pos rfl,OB,fE (c:=c) (Int.natCast_nonneg k) Om,OB,oM h8,wy];have hA:((List.range k).map (Ee g c)).length=k:=by simp
  have keep:Ee g c k=cg c k→Kt c k ((List.range k).map (Ee g c)++cg c k::c.drop (k+1)) (Be g k) true=some (.inl (((k+1:Nat):Int),((List.range k).map (Ee g c)++[Ee g c k])++c.drop (k+1))):=fun e=>by dsimp only [Kt,Ks];rw [Ag,AC Om,e];simp
  by_cases h0:cg c k=0
  ·rw [DT h0,Bool.not_true,Aa];have h9:Fh (Be g k) (fun z=>Ms z c k)=some ((Be g k).any fun b=>decide (cg c b=0)&&decide ((k:Int)<b)):=by refine K1 (Be g k) _ (fun b=>decide (cg c b=0)&&decide ((k:Int)<b)) (by have:=XI g k;omega) (fun b hb=>?_);obtain ⟨b1,b2,_⟩:=GX hg hb;simp only [Ms,PY];rw [fE (c:=c) b1 Om,OB];cases decide (cg c b=0)<;>rfl
   rw [h9,OB];cases ht:(Be g k).any fun b=>decide (cg c b=0)&&decide ((k:Int)<b) with
   | true=>refine keep ?_;unfold Ee HV;rw [ht];simp
   | false=>
     have e:Ee g c k=(dY c (Be g k):Int):=by unfold Ee HV;rw [ht,DT h0];simp
     dsimp only [Kt];have at1:=IU (l:=(List.range k).map (Ee g c)++cg c k::c.drop (k+1)) rfl;rw [hA] at at1;have st1:=eT ((List.range k).map (Ee g c)) (c.drop (k+1)) (cg c k) 1;rw [hA] at st1;rw [Aa,at1,OB,st1,vn g hg c hc k Om _ _ hA,e];simp
  ·rw [DN h0,Bool.not_false,Ag];refine keep ?_;unfold Ee HV;rw [DN h0];simp
 ·dsimp only [Q0];rw [DN Om,Aa,List.drop_eq_nil_of_le Om,List.append_nil];rfl
theorem wZ (p:Nat→Bool):∀(f k j:Nat),p j=true→k≤j→j≤k+f→GH p f k≤j
 | 0,k,j,_,h1,_=>h1
 | f+1,k,j,h,h1,h2=>by
   simp only [GH];split
   ·exact h1
   ·rename_i hp;have:k≠j:=by rintro rfl;exact hp h
    exact wZ p f (k+1) j h Om Om
theorem eC {α:Type} (p q:α→Bool):∀(l:List α),(∀x∈l,p x=true→q x=true)→(∃x∈l,q x=true∧p x=false)→l.countP p<l.countP q
 | [],_,⟨x,hx,_⟩=>absurd hx (by simp)
 | y::l,h,⟨x,hx,h1,h2⟩=>by
   have hle:l.countP p≤l.countP q:=List.countP_mono_left fun z hz=>h z (List.mem_cons_of_mem _ hz);rw [List.countP_cons,List.countP_cons];rcases List.mem_cons.1 hx with rfl | hx
   ·rw [h1,h2];simp;omega
   ·have:=eC p q l (fun z hz=>h z (List.mem_cons_of_mem _ hz)) ⟨x,hx,h1,h2⟩;have hy:=h y (by simp);cases hp:p y with
    | false=>simp;omega
    | true=>rw [hy hp];simp;omega
def d6 (g:Graph) (c:List Int):Nat:=(List.range g.N.toNat).countP fun a:Nat=>decide (cg c (a:Int)=0)
theorem xz (g:Graph) (c:List Int):d6 g c≤g.N.toNat:=by have:=List.countP_le_length (p:=fun a:Nat=>decide (cg c (a:Int)=0)) (l:=List.range g.N.toNat);simpa [d6] using this
structure ColN (g:Graph) (c:List Int) (n:Nat):Prop where
 len:(c.length:Int)=g.N
 lo:∀x∈c,0≤x
 hi:∀x∈c,x≤n
 ne:∀a b,b∈Be g a→cg c a≠0→cg c b≠0→cg c a≠cg c b
theorem ColN.I {g:Graph} {c:List Int} {n:Nat} (h:ColN g c n) (hn:n≤100):ColI g c:=⟨h.len,h.lo,fun x hx=>by have:=h.hi x hx;omega⟩
theorem jw {g:Graph} {c:List Int} {a:Int} (h0:0≤a) (h:a<g.N):cg (H4 g c) a=Ee g c a.toNat:=by unfold cg H4;rw [List.getElem?_map,List.getElem?_range Om];rfl
theorem b8 {g:Graph} (hg:Bd g=true) {a b:Int} (h:b∈Be g a):a∈Be g b:=by rw [XE hg] at *;exact h.symm
theorem cV {c E:List Int} {a:Int}:HV c E a=true↔cg c a=0∧∀b∈E,cg c b=0→b≤a:=by
 unfold HV;simp only [Bool.and_eq_true,decide_eq_true_eq,Bool.not_eq_true',List.any_eq_false,Bool.and_eq_true,decide_eq_true_eq,not_and];constructor
 ·rintro ⟨h1,h2⟩;exact ⟨h1,fun b hb h0=>by have:=h2 b hb h0;omega⟩
 ·rintro ⟨h1,h2⟩;exact ⟨h1,fun b hb h0=>by have:=h2 b hb h0;omega⟩
theorem yy {g:Graph} {c:List Int} {n:Nat} (hc:ColN g c n) (hn:n≤100) (a:Int):dY c (Be g a)≤n+1:=by
 refine wZ _ _ _ _ ?_ Om Om;simp only [Bool.not_eq_true'];unfold H7;rw [List.any_eq_false];intro b hb;simp only [decide_eq_true_eq];intro he;by_cases h:0≤b∧b<c.length
 ·have:=hc.hi _ (Pi (c:=c) h.1 h.2);omega
 ·unfold cg at he;have h6:0≤b.toNat:=Nat.zero_le _;cases hq:c[b.toNat]? with
  | none=>rw [hq] at he;simp at he;omega
  | some y=>rw [hq] at he;have:=hc.hi y (List.mem_iff_getElem?.2 ⟨_,hq⟩);simp at he;omega
theorem XJ (g:Graph) (c:List Int) (a:Nat):(HV c (Be g a) a=true∧Ee g c a=(dY c (Be g a):Int))∨(HV c (Be g a) a=false∧Ee g c a=cg c a):=by unfold Ee;cases HV c (Be g a) a<;>simp
theorem ColN.round {g:Graph} (hg:Bd g=true) {c:List Int} {n:Nat} (hc:ColN g c n) (hn:n≤100):ColN g (H4 g c) (n+1):=by
 obtain ⟨g1,g2,_,_,_⟩:=Dc hg;have hI:=hc.I hn;have h6:∀x∈H4 g c,0≤x∧x≤n+1:=fun x hx=>by
  obtain ⟨a,ha,rfl⟩:=List.mem_map.1 hx;have ha':=List.mem_range.1 ha;have:=yy hc hn a;rcases XJ g c a with ⟨_,h2⟩ | ⟨_,h2⟩
  ·rw [h2];omega
  ·rw [h2];have hm:=Pi (c:=c) (a:=(a:Int)) Om (by have:=hc.len;omega);have:=hc.lo _ hm;have:=hc.hi _ hm;omega
 refine ⟨by simp [H4];omega,fun x hx=>(h6 x hx).1,fun x hx=>by have:=(h6 x hx).2;omega,fun a b hb h8 h9=>?_⟩;obtain ⟨b1,b2,b3,a1,a2⟩:=GX hg hb;have hab:=b8 hg hb;rw [jw a1 a2] at h8 ⊢;rw [jw b1 b2] at h9 ⊢;have ea:((a.toNat:Nat):Int)=a:=Int.toNat_of_nonneg a1;have eb:((b.toNat:Nat):Int)=b:=Int.toNat_of_nonneg b1;have ua:=(UE hg hI a).1;have ub:=(UE hg hI b).1;unfold H7 at ua ub;rw [List.any_eq_false] at ua ub;have ua':=ua b hb;have ub':=ub a hab;simp only [decide_eq_true_eq] at ua' ub';rcases XJ g c a.toNat with ⟨h1,h2⟩ | ⟨h1,h2⟩<;>rcases XJ g c b.toNat with ⟨k1,k2⟩ | ⟨k1,k2⟩<;>rw [ea] at h1 h2<;>rw [eb] at k1 k2
 ·rw [cV] at h1 k1;have:=h1.2 b hb k1.1;have:=k1.2 a hab h1.1;exact absurd Om b3
 ·rw [h2,k2];exact fun e=>ua' e.symm
 ·rw [h2,k2];exact ub'
 ·rw [h2,k2];rw [h2] at h8;rw [k2] at h9;exact hc.ne a b hb h8 h9
theorem xl (p:Nat→Bool):∀n:Nat,(∃a,a<n∧p a=true)→∃a,a<n∧p a=true∧∀b,b<n→p b=true→b≤a
 | 0,⟨a,h,_⟩=>absurd h Om
 | n+1,⟨a,h,hp⟩=>by
   cases hn:p n with
   | true=>exact ⟨n,Om,hn,fun b hb _=>Om⟩
   | false=>
     have:a≠n:=by rintro rfl;rw [hn] at hp;simp at hp
     obtain ⟨a',h1,h2,h3⟩:=xl p n ⟨a,Om,hp⟩;refine ⟨a',Om,h2,fun b hb hpb=>?_⟩;have:b≠n:=by rintro rfl;rw [hn] at hpb;simp at hpb
     exact h3 b Om hpb
theorem mc {g:Graph} (hg:Bd g=true) {c:List Int} {n:Nat} (hc:ColN g c n) (hn:n≤100) (h0:(0:Int)∈c):d6 g (H4 g c)<d6 g c:=by
 have hI:=hc.I hn;have ex:∃a,a<g.N.toNat∧(fun a:Nat=>decide (cg c (a:Int)=0)) a=true:=by obtain ⟨k,hk⟩:=List.mem_iff_getElem?.1 h0;have hlt:=(List.getElem?_eq_some_iff.1 hk).1;have:=hc.len;refine ⟨k,Om,?_⟩;simp [cg,hk]
 obtain ⟨a,h1,h2,h3⟩:=xl _ _ ex;simp only [decide_eq_true_eq] at h2 h3;refine eC _ _ _ (fun b hb hz=>?_) ⟨a,List.mem_range.2 h1,by simpa using h2,?_⟩
 ·have hb':=List.mem_range.1 hb;have hf:=(UE hg hI b).2.1;simp only [decide_eq_true_eq] at hz ⊢;rw [jw Om Om,Int.toNat_natCast] at hz;rcases XJ g c b with ⟨k1,k2⟩ | ⟨k1,k2⟩
  ·rw [cV] at k1;exact k1.1
  ·rw [←k2];exact hz
 ·have ht:HV c (Be g a) a=true:=by rw [cV];refine ⟨h2,fun b hb h6=>?_⟩;obtain ⟨b1,b2,_⟩:=GX hg hb;have:=h3 b.toNat Om (by rw [Int.toNat_of_nonneg b1];exact h6);omega
  have hf:=(UE hg hI a).2.1;simp only [decide_eq_false_iff_not];rw [jw Om Om,Int.toNat_natCast];unfold Ee;rw [ht];simp;omega
def IJ (g:Graph):Nat→List Int→Int→List Int×Int
 | 0,c,n=>(c,n)
 | f+1,c,n=>if (0:Int)∈c then IJ g f (H4 g c) (n+1) else (c,n)
theorem xv {g:Graph} {c:List Int} {n:Nat} (hc:ColN g c n) (h0:(0:Int)∈c):0<d6 g c:=by obtain ⟨k,hk⟩:=List.mem_iff_getElem?.1 h0;have hlt:=(List.getElem?_eq_some_iff.1 hk).1;have:=hc.len;refine List.countP_pos_iff.2 ⟨k,List.mem_range.2 Om,?_⟩;simp [cg,hk]
theorem yz {g:Graph} (hg:Bd g=true):∀(f:Nat) (c:List Int) (n:Nat),ColN g c n→d6 g c≤f→n+f≤100→FI g (IJ g f c n).1=true∧(IJ g f c n).1.length≤64:=by
 obtain ⟨g1,g2,g3,g4,g5⟩:=Dc hg;have done:∀(c:List Int) (n:Nat),ColN g c n→(0:Int)∉c→FI g c=true∧c.length≤64:=fun c n hc h0=>by
  have hl:=hc.len;refine ⟨?_,Om⟩;unfold FI;rw [DT hl,Bool.true_and,Bool.and_eq_true,List.all_eq_true,List.all_eq_true];have nz:∀a:Int,0≤a→a<g.N→cg c a≠0:=fun a h1 h2 h=>h0 (h ▸ Pi (c:=c) h1 Om);refine ⟨fun x hx=>?_,fun e he=>?_⟩
  ·have:=hc.lo x hx;have:x≠0:=by rintro rfl;exact h0 hx
   simp;omega
  ·obtain ⟨e1,e2,e3⟩:=g4 e he;have:=hc.ne e.A e.B ((XE hg).2 (.inl he)) (nz _ e1 Om) (nz _ Om e3);simpa using this
 intro f;induction f with
 | zero=>
   intro c n hc hz _;have h0:(0:Int)∉c:=fun h=>by have:=xv hc h;omega
   exact done c n hc h0
 | succ f ih=>
   intro c n hc hz hn;simp only [IJ];split
   ·rename_i h0;have:=mc hg hc Om h0;have k:=ih (H4 g c) (n+1) (hc.round hg Om) Om Om;rwa [show ((n+1:Nat):Int)=(n:Int)+1 from rfl] at k
   ·rename_i h0;exact done c n hc h0
theorem yA {g:Graph} (hg:Bd g=true):∀(f:Nat) (c:List Int) (n:Nat),ColN g c n→d6 g c≤f→n+f≤100→loop (Mv g) (c,(n:Int))=some ((IJ g f c n).1,(IJ g f c n).2,0):=by
 obtain ⟨g1,g2,g3,g4,g5⟩:=Dc hg;have stop:∀(c:List Int) (n:Nat),ColN g c n→(0:Int)∉c→loop (Mv g) (c,(n:Int))=some (c,(n:Int),0):=fun c n hc h0=>by have hl:=hc.len;rw [Bn];dsimp only [Mv];rw [Yi c 0 Om,OB,DN h0,Aa];rfl
 intro f;induction f with
 | zero=>
   intro c n hc hz _;have h0:(0:Int)∉c:=fun h=>by have:=xv hc h;omega
   exact stop c n hc h0
 | succ f ih=>
   intro c n hc hz hn;have hl:=hc.len;simp only [IJ];by_cases h0:(0:Int)∈c
   ·rw [if_pos h0,Bn];dsimp only [Mv];rw [Yi c 0 Om,OB,DT h0,Ag,vm g hg c (hc.I Om),OB,AC Om];have:=mc hg hc Om h0;exact ih (H4 g c) (n+1) (hc.round hg Om) Om Om
   ·rw [if_neg h0];exact stop c n hc h0
def c0 (g:Graph):List Int:=List.replicate g.N.toNat 0
def DX (g:Graph):List Int:=(IJ g 64 (c0 g) 0).1
theorem yC (g:Graph) (a:Int):cg (c0 g) a=0:=by unfold cg c0;rw [List.getElem?_replicate];split<;>rfl
theorem dV {g:Graph} (hg:Bd g=true):ColN g (c0 g) 0:=by
 obtain ⟨g1,_⟩:=Dc hg;refine ⟨by simp [c0];omega,fun x hx=>?_,fun x hx=>?_,fun a b _ h _=>absurd (yC g a) h⟩
 ·have:=List.eq_of_mem_replicate hx;omega
 ·have:=List.eq_of_mem_replicate hx;omega
theorem xw {g:Graph} (hg:Bd g=true) (c:List Int):d6 g c≤64:=by have:=xz g c;have:=(Dc hg).2.1;omega
theorem xB {g:Graph} (hg:Bd g=true):FI g (DX g)=true∧(DX g).length≤64:=by have:=yz hg 64 (c0 g) 0 (dV hg) (xw hg _) Om;exact this
theorem vo (g:Graph) (hg:Bd g=true):Ku g=some (DX g,(IJ g 64 (c0 g) 0).2,0):=by
 obtain ⟨g1,g2,_⟩:=Dc hg;simp only [Ku,Ly,hg,if_true,OB,decide_true,Bool.not_true,Aa];have e:Ow 8 g.N 0=some (c0 g):=by unfold Ow;rw [if_pos ⟨Om,Om⟩];rfl
 rw [e,OB];exact yA hg 64 (c0 g) 0 (dV hg) (xw hg _) Om
def K2 (g:Graph):SN:=⟨K8 g (DX g),[]⟩
theorem vg (g:Graph):Ou g=some (if Bd g then (K2 g,0) else (⟨[],[]⟩,30)):=by
 cases hg:Bd g with
 | false=>
   have:Ku g=some ([],0,30):=by simp only [Ku,Ly,hg,OB];rfl
   simp only [Ou,this,OB];rfl
 | true=>obtain ⟨h1,h2⟩:=xB hg;simp only [Ou,vo g hg,OB,decide_true,Bool.not_true,Aa,vp g _ (show (DX g).length≤1000000 by omega),hg,h1,if_true];rfl
def Ap (d:DI):Int×List Int:=(d.ID,d.SD.map (·.PE))
def yD:Bar:=⟨[],[]⟩
def Hc (g:Graph):Bar:=⟨(K2 g).DZ.map fun d=>⟨d,0,[]⟩,[]⟩
theorem vv (g:Graph):PO g=some (if Bd g then (Hc g,0) else (yD,30)):=by
 simp only [PO,vg,OB];cases hg:Bd g with
 | false=>rfl
 | true=>
   have hl:(K2 g).DZ.length≤64:=by have:=yx hg (DX g);have:=(Dc hg).2.1;show (K8 g (DX g)).length≤64;omega
   rw [if_pos rfl,show decide ((0:Int)=0)=true from rfl,Bool.not_true,Aa,if_pos rfl];refine D0 (K2 g).DZ (PP (K2 g,0)) (fun pre=>((pre.length:Int),pre.map fun d=>(⟨d,0,[]⟩:DK))) (Hc g,0) (fun pre x post h=>?_) ?_
   ·have hx:=BL h;have hm:=BG h;dsimp only [PP];rw [AQ hx,Ag,Ar hx,OB,B5 _ _ Om (by simp;omega),OB,AC Om,bb];simp
   ·dsimp only [PP];rw [AT,Aa];rfl
theorem vj (n:NO) (h:FewN n):QX n=some n:=by
 have h1:=h.sides;have h2:=h.need;have h3:=h.told;have h4:=h.known;have h5:=h.asked;have h6:=h.book;have hb:Jw n.BK=some n.BK:=by
  unfold Jw;refine D0 n.BK.SE _ (fun pre=>((pre.length:Int),pre)) _ (fun pre x post h0=>?_) ?_
  ·have hx:=BL h0;have hm:=BG h0;have hN:=h.needs x (Di h0);dsimp only [Ng];rw [AQ hx,Ag,Ar hx,OB,B5 _ _ Om (by simp;omega),OB,List.nil_append,B5 _ _ Om (by simp;omega),OB,AC Om,bb]
  ·dsimp only [Ng,VU];rw [AT,Aa];rfl
 simp only [QX,VT,VS,hb];rw [B5 _ _ Om (by simp;omega),OB,B5 _ _ Om (by simp;omega),OB,OB,OB,B5 _ _ Om (by simp;omega),OB,B5 _ _ Om (by simp;omega),OB,B5 _ _ Om (by simp;omega),OB];rfl
def d7 (d:DK):List KE:=d.DI.SD.map fun x=>⟨x.PE,x.EP⟩
def Dn (d:DK):NO:=⟨d,⟨0,[]⟩,d7 d,[],[]⟩
structure NewD (d:DK):Prop where
 din:DinOK d.DI
 id:d.DI.ID<64
 th:d.TH=0
 nd:d.NE=[]
 sd:∀x∈d.DI.SD,x.PE<64∧x.EP=1∧x.SS=0
theorem gX {d:DK} (h:NewD d):(d7 d).Pairwise fun x y=>x.PE<y.PE:=List.pairwise_map.2 h.din.up
theorem NewD.ok {d:DK} (h:NewD d):OkN (Dn d):=by
 refine ⟨⟨h.din,by rw [show (Dn d).DK.TH=0 from h.th];omega,by rw [show (Dn d).DK.TH=0 from h.th];omega,by rw [show (Dn d).DK.NE=[] from h.nd];exact .nil,fun _=>h.nd,by rw [show (Dn d).DK.NE=[] from h.nd];simp⟩,(by decide:Cw ⟨0,[]⟩=true),by simp [Dn],by simp [Dn],h.id,gX h,?_,?_,.nil,by simp [Dn],?_,.inl h.th,?_,by simp [Dn]⟩
 ·intro k hk;obtain ⟨x,hx,rfl⟩:=List.mem_map.1 hk;have h1:=h.sd x hx;have h2:=(h.din.side x hx).lo;dsimp only;omega
 ·intro x hx;have h1:=h.sd x hx;have h2:BR (d7 d) x.PE=x.EP:=M7 (gX h) (k:=⟨x.PE,x.EP⟩) (List.mem_map.2 ⟨x,hx,rfl⟩);exact ⟨h1.1,Om,h2,fun e=>Om⟩
 ·rw [show (Dn d).DK.TH=0 from h.th];simp [I8,Dn]
 ·intro x hx hn;rw [show (Dn d).DK.NE=[] from h.nd] at hn;simp at hn
theorem vV {d:DK} (h:NewD d):Rs d=some (Dn d,0):=by
 have hl:=h.din.len;unfold Rs;refine D0 d.DI.SD _ (fun pre=>((pre.length:Int),pre.map fun x=>(⟨x.PE,x.EP⟩:KE))) _ (fun pre x post h0=>?_) ?_
 ·have hx:=BL h0;have hm:=BG h0;dsimp only [Wk];rw [AQ hx,Ag,Ar hx,OB,B5 _ _ Om (by simp;omega),OB,AC Om,bb,List.map_append];rfl
 ·dsimp only [Wk,Wi];rw [AT,Aa];have hc:Ip (Dn d)=some 0:=by rw [Ym _ h.ok.few,(Y3 _).2 h.ok];rfl
  rw [show (⟨d,⟨0,[]⟩,d.DI.SD.map fun x=>(⟨x.PE,x.EP⟩:KE),[],[]⟩:NO)=Dn d from rfl,hc,OB];have hk:(d7 d).length≤1000000:=by simp [d7];omega
  have ho:NM d.DI.ID d.DI.PH d.DI.SD d.TH d.NE 0 (d7 d)=some (d.DI.SD,d.NE,d7 d,[],[],[]):=by dsimp only [NM,WE,WF];rw [Lz _ Om,OB,Ex _ (by rw [h.nd];simp),OB,HP _ hk,OB,Ex _ (by simp),OB,HP _ (by simp),OB,OU _ (by simp),OB,Bn];rfl
  show Option.map Sum.inr (A0 (!decide ((0:Int)=0)) _ ((NM d.DI.ID d.DI.PH d.DI.SD d.TH d.NE 0 (d7 d)).bind _))=_;rw [ho];rfl
theorem km (l:List ML) (p:ML→Option Bool) (q:ML→Bool) (hl:l.length≤4000000000000000000) (hp:∀x∈l,p x=some (q x)):Li l p=some (Br (l.findIdx? q)):=by
 unfold Li;refine eR l _ q hl (fun k x hx=>?_) ?_
 ·simp only [Xq,AQ hx,Ag,Ar hx,OB,hp x (List.mem_iff_getElem?.2 ⟨k,hx⟩),EA hx hl];cases q x<;>rfl
 ·simp only [Xq,AT,Aa,Xp,Option.map_some]
theorem uV (l:List ML) (p:ML→Option Bool) (q:ML→Bool) (hl:l.length≤4000000000000000000) (hp:∀x∈l,p x=some (q x)):SW l p=some (l.any q):=by unfold SW;rw [km l p q hl hp,OB,Lv,Kl]
theorem uS (l:List ML) (h:l.length≤1000000):Lc l=some l:=by simp only [Lc];rw [B5 _ _ Om (by simp;omega),List.nil_append]
theorem bV (l:List NO) (h:l.length≤1000000):Iw l=some l:=by simp only [Iw];rw [B5 _ _ Om (by simp;omega),List.nil_append]
theorem va (n:Nat) (hn:n≤3000000):T9 n=some []:=by
 have e0:wr (0-0)=0:=D4 Om Om;have e1:wr ((n:Int)-0)=n:=by rw [D4 Om Om];omega
 simp only [T9,Xf,Ta,e0,e1];rw [DN Om,Aa];by_cases h:0<n
 ·rw [DT Om,Ag];unfold LQ;rw [if_pos ⟨Om,Om,Om⟩,OB];unfold D3;rw [if_pos ⟨Om,Om,Om⟩];simp
 ·rw [DN Om,Aa]
theorem nQ (a b:List ML) (ha:a.length≤1000000) (hb:b.length≤1000000):Ix [a,b]=some (a++b):=by
 have g0:Ac [a,b] 0=some a:=rfl;have g1:Ac [a,b] (wr (0+1))=some b:=by rw [D4 Om Om];rfl
 have l0:ln (Ci 5 ML.row) [a,b]=2:=by rw [AY];rfl
 have w1:wr (0+1)=1:=D4 Om Om;have w2:wr (1+1)=2:=D4 Om Om;have s1:wr (0+ln ML.row a)=(a.length:Int):=by rw [AY,D4 Om Om];omega
 have s2:wr ((a.length:Int)+ln ML.row b)=((a.length+b.length:Nat):Int):=by rw [AY,D4 Om Om];omega
 unfold Ix;rw [Bn];dsimp only [SQ];rw [l0,show decide ((0:Int)<2)=true from rfl,Ag,g0,OB,s1,DN Om,Aa];dsimp only [SP];rw [s1,w1,Bn];dsimp only [SQ];rw [l0,show decide ((1:Int)<2)=true from rfl,Ag,←w1,g1,OB,s2,DN Om,Aa];dsimp only [SP];rw [s2,w1,w2,Bn];dsimp only [SQ];rw [l0,show decide ((2:Int)<2)=false from rfl,Aa];dsimp only [WX];rw [va _ Om,OB];have k:loop (Oc [a,b]) (0,[])=some (a++b):=by rw [Bn];dsimp only [Oc];rw [l0,show decide ((0:Int)<2)=true from rfl,Ag,g0,OB,B5 _ _ Om (by simp;omega),OB,List.nil_append,w1];dsimp only;rw [Bn];dsimp only [Oc];rw [l0,show decide ((1:Int)<2)=true from rfl,Ag,←w1,g1,OB,B5 _ _ Om Om,OB,w1,w2];dsimp only;rw [Bn];dsimp only [Oc];rw [l0,show decide ((2:Int)<2)=false from rfl,Aa];rfl
 rw [k];rfl
def d8:HL:=⟨[],[]⟩
structure HallOK (h:HL):Prop where
 nodes:∀(k:Nat) n,h.NS[k]?=some n→n.DK.DI.ID=k∧OkN n
 len:h.NS.length≤64
 mail:∀m∈h.ML,0≤m.From∧m.From<h.NS.length∧0≤m.To∧m.To<h.NS.length∧m.From≠m.To
 ml:h.ML.length≤1000000
theorem Fr (h:HL) (a:Int):Hs h a=some (decide (0≤a)&&decide (a<h.NS.length)):=by simp only [Hs,Qy,AY];cases decide (0≤a)<;>rfl
theorem Yl {h:HL} (hk:HallOK h):MY h=some 0:=by
 have hl:=hk.len;unfold MY;refine D0 h.NS _ (fun pre=>(pre.length:Int)) _ (fun pre x post h0=>?_) ?_
 ·have hx:=BL h0;have hm:=BG h0;obtain ⟨q1,q2⟩:=hk.nodes _ _ hx;dsimp only [Vc,Qs];rw [AQ hx,Ag,Ar hx,OB,DT q1,Bool.not_true,Aa,Ym x q2.few,(Y3 x).2 q2,if_pos rfl,OB,show (!decide ((0:Int)=0))=false by decide,Aa,AC Om,bb]
 ·dsimp only [Vc,Va];rw [AT,Aa,AY,DN Om,Aa];rw [uV h.ML _ (fun _=>false) (by have:=hk.ml;omega) (fun m hm=>by obtain ⟨a1,a2,a3,a4,a5⟩:=hk.mail m hm;dsimp only [Qr,MZ];rw [Fr,OB,DT a1,DT a2,Bool.and_true,Bool.not_true,Aa,Fr,OB,DT a3,DT a4,Bool.and_true,Bool.not_true,Aa,DN a5])];simp only [List.any_eq_false.2 (fun _ _=>Bool.false_ne_true),OB];rfl
theorem vO (h:HL) (hf:∀n∈h.NS,FewN n) (hl:h.NS.length≤1000000) (hm:h.ML.length≤1000000):QY h=some h:=by
 unfold QY;rw [B5 _ _ Om (by simp;omega),OB,List.nil_append];refine D0 h.NS _ (fun pre=>((pre.length:Int),pre)) _ (fun pre x post h0=>?_) ?_
 ·have hx:=BL h0;have hm':=BG h0;dsimp only [VW];rw [AQ hx,Ag,Ar hx,OB,vj x (hf x (Di h0)),OB,B5 _ _ Om (by simp;omega),OB,AC Om,bb]
 ·dsimp only [VW,VV];rw [AT,Aa];rfl
theorem xC {g:Graph} (hg:Bd g=true) (E:g.N≤24):∀d∈(Hc g).DS,NewD d:=by
 intro d hd;obtain ⟨e,he,rfl⟩:=List.mem_map.1 hd;obtain ⟨a,ha,rfl⟩:=List.mem_map.1 he;have ha':=List.mem_range.1 ha;have h0:=(Dc hg).1;have h6:=gW hg (a:Int);have h8:((Be g a).length:Int)≤g.N:=P6 h6 h0 fun x hx=>by have:=GX hg hx;omega
 refine ⟨⟨by dsimp only [FY];omega,by dsimp only [FY];omega,by dsimp only [FY];omega,by dsimp only [FY];rw [List.length_map];omega,List.pairwise_map.2 h6,?_⟩,by dsimp only [FY];omega,rfl,rfl,?_⟩
 ·intro x hx;obtain ⟨b,hb,rfl⟩:=List.mem_map.1 hx;have:=GX hg hb;refine ⟨this.1,this.2.2.1,by dsimp only [Dq];omega,by dsimp only [Dq];omega,by dsimp only [Dq];omega,by dsimp only [Dq];omega,fun h=>h⟩
 ·intro x hx;obtain ⟨b,hb,rfl⟩:=List.mem_map.1 hx;have:=GX hg hb;exact ⟨by dsimp only [Dq];omega,rfl,rfl⟩
theorem jx {g:Graph} (hg:Bd g=true):((Hc g).DS.length:Int)=g.N:=by have h0:=(Dc hg).1;simp only [Hc,K2,K8,List.length_map,List.length_range];omega
theorem yE {g:Graph} {k:Nat} {d:DK} (h:(Hc g).DS[k]?=some d):d.DI.ID=k:=by simp only [Hc,K2,K8,List.getElem?_map,Option.map_eq_some_iff] at h;obtain ⟨e,⟨a,ha,rfl⟩,rfl⟩:=h;rw [List.getElem?_eq_some_iff] at ha;obtain ⟨_,ha⟩:=ha;rw [List.getElem_range] at ha;subst ha;rfl
def DH (g:Graph):HL:=⟨(Hc g).DS.map Dn,[]⟩
theorem fG {g:Graph} (hg:Bd g=true) (E:g.N≤24):HallOK (DH g):=by have hl:=jx hg;refine ⟨fun k n hn=>?_,by simp only [DH,List.length_map];omega,by simp [DH],by simp [DH]⟩;simp only [DH,List.getElem?_map,Option.map_eq_some_iff] at hn;obtain ⟨d,hd,rfl⟩:=hn;exact ⟨yE hd,(xC hg E d (List.mem_iff_getElem?.2 ⟨k,hd⟩)).ok⟩
theorem vN (g:Graph) (E:g.N≤24):Qu g=some (if Bd g then (DH g,0) else (d8,30)):=by
 unfold Qu;rw [vv];cases hg:Bd g with
 | false=>rw [if_neg (by simp),if_neg (by simp)];rfl
 | true=>
   rw [if_pos rfl,if_pos rfl,OB,show (!decide ((0:Int)=0))=false by decide,Aa];have hl:=jx hg;refine D0 (Hc g).DS _ (fun pre=>((pre.length:Int),pre.map Dn)) _ (fun pre x post h0=>?_) ?_
   ·have hx:=BL h0;have hm:=BG h0;dsimp only [Vf];rw [AQ hx,Ag,Ar hx,OB,vV (xC hg E x (Di h0)),OB,show (!decide ((0:Int)=0))=false by decide,Aa,B5 _ _ Om (by simp;omega),OB,AC Om,bb,List.map_append];rfl
   ·dsimp only [Vf,Ve];rw [AT,Aa];rfl
theorem HallOK.at {h:HL} (hk:HallOK h) {n:NO} (hn:n∈h.NS):OkN n:=by obtain ⟨k,hk'⟩:=List.mem_iff_getElem?.1 hn;exact (hk.nodes k n hk').2
theorem yF (E:Int) (A:List NO) (n:NO) (hn:n.BK.SE.length≤1000000) (hs:∀s∈n.BK.SE,s.NE.length≤1000000) (r:Int×List NO ⊕ HL) (hr:Qw E A n n.BK.SE=some r):loop (Qx E A n n.BK.SE) (0,n.BK.SE)=some r:=by
 refine D0 n.BK.SE _ (fun pre=>((pre.length:Int),n.BK.SE)) _ (fun pre x post h0=>?_) ?_
 ·have hx:=BL h0;have hm:=BG h0;dsimp only [Qx,Vy];rw [AQ hx,Ag,Ar hx,OB,Ex _ (hs x (Di h0)),OB,show (⟨x.ID,x.NE,x.SS,x.Age⟩:SE)=x from rfl,Int.toNat_natCast,HS hx,AC Om,bb]
 ·dsimp only [Qx];rw [AT,Aa,hr];rfl
theorem kG {h:HL} (hk:HallOK h):N2 h=some h:=by
 have hl:=hk.len;unfold N2;rw [uS _ (by have:=hk.ml;omega),OB,bV _ Om,OB];dsimp only [Vt];refine D0 h.NS _ (fun pre=>((pre.length:Int),h.NS)) _ (fun pre x post h0=>?_) ?_
 ·have hx:=BL h0;have hm:=BG h0;have hf:=(hk.at (Di h0)).few;have hb:=hf.bk;dsimp only [Vz];rw [AQ hx,Ag,Ar hx,OB,Lz _ (by have:=hf.sides;omega),OB,Ex _ (by have:=hf.need;omega),OB];rw [show (⟨⟨⟨x.DK.DI.ID,x.DK.DI.PH,x.DK.DI.SD⟩,x.DK.TH,x.DK.NE⟩,x.BK,x.KN,x.TL,x.AK⟩:NO)=x from rfl,Int.toNat_natCast,HS hx];dsimp only [Vv];rw [Ar hx,OB,HP _ (by have:=hf.known;omega),OB,Ex _ (by have:=hf.told;omega),OB,HP _ (by have:=hf.asked;omega),OB];rw [show (⟨x.DK,x.BK,x.KN,x.TL,x.AK⟩:NO)=x from rfl,Int.toNat_natCast,HS hx];dsimp only [Vx];rw [Ar hx,OB,OU _ hb.1,OB];refine yF _ _ x hb.1 hb.2 _ ?_;dsimp only [Qw];rw [show (⟨x.DK,⟨x.BK.LA,x.BK.SE⟩,x.KN,x.TL,x.AK⟩:NO)=x from rfl,Int.toNat_natCast,HS hx,AC Om,bb]
 ·dsimp only [Vz,Vu];rw [AT,Aa];rfl
def Jc (h:HL) (k:Nat) (M:List ML) (r:NO×List ML×List EV×Int):HL×List EV×Int:=if r.2.2.2=0 then (⟨h.NS.set k r.1,M++r.2.1⟩,r.2.2.1,0) else (d8,[],r.2.2.2)
theorem kF {h:HL} (hk:HallOK h) {k:Nat} {n:NO} (hn:h.NS[k]?=some n) {a:Do} (hp:a.KI=4→0≤a.PE∧a.PE<h.NS.length) {r:NO×List ML×List EV×Int} (hr:KJ n a=some r) (hl:r.2.1.length≤1000000):
  Js h k a=some (Jc h k h.ML r):=by
 have hlt:=(List.getElem?_eq_some_iff.1 hn).1;have h6:=hk.len;have h8:=hk.ml;have hj:KA h k a false=some (Jc h k h.ML r):=by
  dsimp only [KA];rw [Aa,kG hk,OB];dsimp only [Vp,V9];rw [Ar hn,OB,hr,OB,OB];dsimp only [Vq];unfold Jc;by_cases e:r.2.2.2=0
  ·rw [DT e,Bool.not_true,Aa,bV _ Om,OB,nQ _ _ Om hl,OB,if_pos e];dsimp only [Vr];rw [Ar hn];rfl
  ·rw [DN e,Bool.not_false,Ag,if_neg e];rfl
 unfold Js;rw [Yl hk,OB,show (!decide ((0:Int)=0))=false by decide,Aa,Fr,OB,DT Om,DT Om,Bool.and_true,Bool.not_true,Aa];by_cases e:a.KI=4
 ·have:=hp e;rw [DT e,Ag,Fr,OB,DT this.1,DT this.2,Bool.and_true,Bool.not_true,hj]
 ·rw [DN e,Aa,hj]
theorem kB (l:List ML) (a b:Int) (hl:l.length≤1000000):Li l (fun z=>N0 z a b)=some (Br (l.findIdx? fun m=>decide (m.From=a)&&decide (m.To=b))):=by refine km l _ _ Om fun m _=>?_;dsimp only [N0,Qt];cases decide (m.From=a)<;>rfl
theorem vL {h:HL} (hk:HallOK h) {a:Int} (ha:0≤a∧a<h.NS.length) {k:Nat} {n:NO} (hn:h.NS[k]?=some n) {i:Nat} (hi:(h.ML.findIdx? fun m=>decide (m.From=a)&&decide (m.To=(k:Int)))=some i) {m:ML} (hm:h.ML[i]?=some m)
  {r:NO×List ML×List EV×Int} (hr:KO n a m.Msg=some r) (hl:r.2.1.length≤1000000):Hr h a k=some (Jc h k (h.ML.take i++h.ML.drop (i+1)) r):=by
 have hlt:=(List.getElem?_eq_some_iff.1 hn).1;have h9:=(List.getElem?_eq_some_iff.1 hm).1;have h8:=hk.len;have h6:=hk.ml;unfold Hr;rw [Yl hk,OB,show (!decide ((0:Int)=0))=false by decide,Aa,Fr,OB,DT ha.1,DT ha.2,Bool.and_true,Bool.not_true,Aa,Fr,OB,DT Om,DT Om,Bool.and_true,Bool.not_true];dsimp only [N1];rw [Aa,kB _ _ _ h6,hi,OB];rw [show Br (some i)=(i:Int) from rfl];rw [DN Om,Aa,Ar hm,OB];have e1:D3 h.ML 0 (i:Int)=some (h.ML.take i):=by unfold D3;rw [if_pos ⟨Om,Om,Om⟩];simp
 have e2:D3 h.ML (wr ((i:Int)+1)) (ln ML.row h.ML)=some (h.ML.drop (i+1)):=by rw [AC Om,AY];unfold D3;rw [if_pos ⟨Om,Om,Om⟩];simp
 rw [e1,OB,e2,OB,kG hk,OB,nQ _ _ (by simp;omega) (by simp;omega),OB];dsimp only [Vh,Vd];rw [Ar hn,OB,hr,OB,OB];dsimp only [Vn];unfold Jc;by_cases e:r.2.2.2=0
 ·rw [DT e,Bool.not_true,Aa,bV _ Om,OB,nQ _ _ (by simp;omega) hl,OB,if_pos e];dsimp only [Vo];rw [Ar hn];rfl
 ·rw [DN e,Bool.not_false,Ag,if_neg e];rfl
theorem vM {h:HL} (hk:HallOK h) {a b:Int} (ha:0≤a∧a<h.NS.length) (hb:0≤b∧b<h.NS.length) (hi:(h.ML.findIdx? fun m=>decide (m.From=a)&&decide (m.To=b))=none):Hr h a b=some (d8,[],192):=by have h6:=hk.ml;unfold Hr;rw [Yl hk,OB,show (!decide ((0:Int)=0))=false by decide,Aa,Fr,OB,DT ha.1,DT ha.2,Bool.and_true,Bool.not_true,Aa,Fr,OB,DT hb.1,DT hb.2,Bool.and_true,Bool.not_true];dsimp only [N1];rw [Aa,kB _ _ _ h6,hi,OB];rfl
def aA:NO:=⟨⟨⟨0,0,[]⟩,0,[]⟩,⟨0,[]⟩,[],[],[]⟩
def aB:NO:=⟨⟨⟨1,0,[]⟩,0,[]⟩,⟨0,[]⟩,[],[],[]⟩
def xA:SX:=⟨1,1,1,true,true,false,true,false⟩
def gU:NO:=⟨⟨⟨0,2,[xA]⟩,0,[]⟩,⟨0,[]⟩,[⟨1,1⟩],[1],[]⟩
def yB:SX:=⟨0,1,0,false,false,true,false,true⟩
def tg:NO:=⟨⟨⟨1,0,[yB]⟩,0,[]⟩,⟨0,[]⟩,[⟨0,1⟩],[],[]⟩
def w0:HL:=⟨[aA,aB],[]⟩
def w1:HL:=⟨[gU,aB],[⟨0,1,⟨5,1,0⟩⟩]⟩
def w2:HL:=⟨[gU,tg],[⟨1,0,⟨6,1,0⟩⟩]⟩
theorem HallOK.few {h:HL} (hk:HallOK h):∀n∈h.NS,FewN n:=fun _ hn=>(hk.at hn).few
theorem gz (n:NO):(AN n).DK.DI.ID=n.DK.DI.ID:=(fp (Bj n).DK).id.trans (mt n)
theorem lw:∀(k:Nat) (n:NO) (E:List ML) (V:List EV),OkN n→(Gl k n E V).2.1.length≤E.length+500*k∧(Gl k n E V).2.2.length≤V.length+500*k
 | 0,_,_,_,_=>by unfold Gl;exact ⟨by dsimp only;omega,by dsimp only;omega⟩
 | k+1,n,E,V,h=>by
   unfold Gl;split
   ·exact ⟨by dsimp only;omega,by dsimp only;omega⟩
   ·have:=lw k (AN n) (E++E6 n) (V++bA n) h.once;have l1:=jp h;have l2:=jq h;rw [List.length_append,List.length_append] at this;omega
theorem nR {n:NO} (h:OkN n) (E:List ML) (V:List EV):(BE n E V).2.1.length≤E.length+4500∧(BE n E V).2.2.length≤V.length+4500:=lw 9 n E V h
theorem b7 (n:NO):(Aw n).DK.DI.ID=n.DK.DI.ID:=gz n
def jE (id:Int) (m:ML):Prop:=m.From=id∧m.To≠id∧m.Msg.Num=0
theorem nW {n:NO} (h:OkN n) {m:ML} (hm:Ll n.DK.DI.ID n.DK.DI.SD m):jE n.DK.DI.ID m:=by obtain ⟨h1,⟨x,hx,e⟩,h3⟩:=hm;have:=h.peer0 hx;exact ⟨h1,Om,h3⟩
theorem nX {n:NO} (h:OkN n) {m:ML} (hm:m∈E6 n):jE n.DK.DI.ID m:=by
 have hg:=h.pre.firgra;have h6:(AL (Aw n)).DK.DI.ID=n.DK.DI.ID:=b7 n;unfold E6 at hm;rcases List.mem_append.1 hm with hm | hm
 ·unfold Gq at hm;split at hm
  ·simp at hm
  ·unfold bL at hm;obtain ⟨k,hk,rfl⟩:=List.mem_map.1 hm;have:=h.may k hk;exact ⟨rfl,by show k.PE≠_;omega,rfl⟩
 ·rcases List.mem_append.1 hm with hm | hm
  ·have:=nW h.pre (qE m hm);rw [mt] at this;exact this
  ·rcases List.mem_append.1 hm with hm | hm
   ·rw [←h6];refine nW hg ?_;unfold Dr at hm;split at hm
    ·exact cN _ _ _ _ _ (fun x hx=>hx) (by simp) m hm
    ·simp at hm
   ·rw [←h6];refine nW hg ?_;unfold EK BJ at hm;obtain ⟨x,hx,hm⟩:=List.mem_flatMap.1 hm;unfold G7 at hm;split at hm
    ·simp at hm;subst hm;exact ⟨rfl,⟨x,hx,rfl⟩,rfl⟩
    ·simp at hm
theorem xD {n:NO} (h:OkN n) {V:List EV}:∀m∈(BE n [] V).2.1,jE n.DK.DI.ID m:=
 (fu (P:=fun m E _=>m.DK.DI.ID=n.DK.DI.ID∧∀x∈E,jE n.DK.DI.ID x) (fun m E V hm hP=>⟨(gz m).trans hP.1,fun v hv=>by
   rcases List.mem_append.1 hv with hv | hv
   ·exact hP.2 v hv
   ·have:=nX hm hv;rw [hP.1] at this;exact this⟩) h ⟨rfl,by simp⟩).2
theorem Ya (m:NO) (V:List EV):be 0 m V=((BE m [] V).1,(BE m [] V).2.1,(BE m [] V).2.2,0):=rfl
theorem xE {e:Int} (h:e≠0) (m:NO) (V:List EV):be e m V=(XM,[],[],e):=by unfold be;rw [if_neg h]
def CY (k e:Int) (l:List Msg):Nat:=l.countP fun m=>decide (m.KI=k)&&decide (m.EP=e)
theorem M3 (k e:Int) (a b:List Msg):CY k e (a++b)=CY k e a+CY k e b:=List.countP_append
theorem jF (k e:Int) (m:Msg) (l:List Msg):CY k e (m::l)=(if m.KI=k∧m.EP=e then 1 else 0)+CY k e l:=by unfold CY;rw [List.countP_cons];simp only [Bool.and_eq_true,decide_eq_true_eq];omega
theorem yG (k e:Int):CY k e []=0:=rfl
def Hk (k:Int):Prop:=k=1∨k=2∨k=3∨k=4
def P4 (m:Msg):Prop:=Hk m.KI∧m.Num=0
def Bq (e:Int) (l:List Msg):Prop:=∀m∈l,P4 m∧m.EP≤e
theorem Bq.mono {e f:Int} {l:List Msg} (h:Bq e l) (hf:e≤f):Bq f l:=fun m hm=>⟨(h m hm).1,Int.le_trans (h m hm).2 hf⟩
theorem Bq.app {e:Int} {a b:List Msg} (h:Bq e a) (k:Bq e b):Bq e (a++b):=fun m hm=>(List.mem_append.1 hm).elim (h m) (k m)
theorem Bq.nil (e:Int):Bq e []:=fun _ h=>by simp at h
theorem Bq.tail {e:Int} {m:Msg} {l:List Msg} (h:Bq e (m::l)):Bq e l:=fun x hx=>h x (List.mem_cons_of_mem _ hx)
theorem Bq.cnt {e f k:Int} {l:List Msg} (h:Bq e l) (hf:e<f):CY k f l=0:=by unfold CY;rw [List.countP_eq_zero];intro m hm;have:=(h m hm).2;simp only [Bool.and_eq_true,decide_eq_true_eq];omega
structure Vw where
 sd:Option SX
 kn:Int
 tl:Bool
 ak:Option Int
def cu (x:SX):Prop:=x.FK=true∧x.TO=false∧x.BO=true∧x.Ask=false
def Fm (x y:SX) (e:Int) (ab ba:List Msg):Prop:=∀k,Hk k→bn (BF k x)+bn (BF k y)+CY k e ab+CY k e ba=1
def sY (x:SX) (e:Int) (ba:List Msg):Prop:=∀k,Hk k→bn (BF k x)+CY k e ba≤1
inductive EI (a b:Vw) (ab ba:List Msg):Prop
 | no (ha:a.sd=none) (hb:b.sd=none) (hk:b.ak=none) (hle:b.kn≤a.kn) (h1:Bq a.kn ab) (h2:Bq a.kn ba)
 | op (x:SX) (ha:a.sd=some x) (hx:x.SS=1) (hn:cu x) (he:x.EP=a.kn) (ht:a.tl=false) (hb:b.sd=none) (hk:b.ak=none) (hlt:b.kn<a.kn) (h1:Bq (a.kn-1) ab) (h2:Bq (a.kn-1) ba)
 | nw (x:SX) (u:List Msg) (ha:a.sd=some x) (hx:x.SS=1) (hn:cu x) (he:x.EP=a.kn) (ht:a.tl=true) (hb:b.sd=none) (hk:b.ak=none) (hlt:b.kn<a.kn) (hab:ab=u++[⟨5,a.kn,0⟩]) (h1:Bq (a.kn-1) u) (h2:Bq (a.kn-1) ba)
 | sk (x:SX) (ha:a.sd=some x) (hx:x.SS=1) (hn:cu x) (he:x.EP=a.kn) (ht:a.tl=true) (hb:b.sd=none) (hk:b.ak=some a.kn) (hlt:b.kn<a.kn) (h1:Bq (a.kn-1) ab) (h2:Bq (a.kn-1) ba)
 | kw (x y:SX) (u w:List Msg) (ha:a.sd=some x) (hx:x.SS=1) (hn:cu x) (he:x.EP=a.kn) (ht:a.tl=true) (hb:b.sd=some y) (hy:y.SS=0) (hf:y.EP=a.kn) (hk:b.ak=none) (hkn:b.kn=a.kn)
    (hba:ba=u++⟨6,a.kn,0⟩::w) (h1:Bq (a.kn-1) u) (h2:Bq a.kn w) (h3:Bq (a.kn-1) ab) (ho:Fm x y a.kn ab w)
 | lv (x y:SX) (ha:a.sd=some x) (hx:x.SS=0∨x.SS=2) (he:x.EP=a.kn) (hb:b.sd=some y) (hy:y.SS=0) (hf:y.EP=a.kn) (hk:b.ak=none) (hkn:b.kn=a.kn) (h1:Bq a.kn ab) (h2:Bq a.kn ba) (ho:Fm x y a.kn ab ba)
 | cl (x y:SX) (u w:List Msg) (ha:a.sd=some x) (hx:x.SS=3) (he:x.EP=a.kn) (hb:b.sd=some y) (hy:y.SS=0) (hf:y.EP=a.kn) (hk:b.ak=none) (hkn:b.kn=a.kn) (hab:ab=u++⟨7,a.kn,0⟩::w) (h1:Bq a.kn u) (h3:Bq a.kn w) (h2:Bq a.kn ba) (ho:Fm x y a.kn (u++w) ba)
 | lg (x y:SX) (ha:a.sd=some x) (hx:x.SS=3) (he:x.EP=a.kn) (hb:b.sd=some y) (hy:y.SS=2) (hf:y.EP=a.kn) (hk:b.ak=none) (hkn:b.kn=a.kn) (h1:Bq a.kn ab) (h2:Bq a.kn ba) (ho:Fm x y a.kn ab ba)
 | cd (x:SX) (u:List Msg) (ha:a.sd=some x) (hx:x.SS=3) (he:x.EP=a.kn) (hb:b.sd=none) (hk:b.ak=none) (hkn:b.kn=a.kn) (hba:ba=u++[⟨8,a.kn,0⟩]) (h1:Bq a.kn ab) (h2:Bq a.kn u) (ho:sY x a.kn u)
structure FireP (x x':SX) (o:List Msg):Prop where
 pr:x'.PE=x.PE
 ep:x'.EP=x.EP
 st:x'.SS=x.SS
 al:∀m∈o,P4 m∧m.EP=x.EP
 fl:∀k,Hk k→bn (BF k x')+CY k x.EP o=bn (BF k x)
 nw:cu x→cu x'∧o=[]
theorem FireP.refl (x:SX):FireP x x []:=⟨rfl,rfl,rfl,by simp,fun _ _=>rfl,fun h=>⟨h,rfl⟩⟩
theorem FireP.trans {x y z:SX} {o p:List Msg} (h:FireP x y o) (k:FireP y z p):FireP x z (o++p):=by
 refine ⟨k.pr.trans h.pr,k.ep.trans h.ep,k.st.trans h.st,fun m hm=>?_,fun q hq=>?_,fun hn=>?_⟩
 ·rcases List.mem_append.1 hm with hm | hm
  ·exact h.al m hm
  ·have:=k.al m hm;rw [h.ep] at this;exact this
 ·have h1:=h.fl q hq;have h2:=k.fl q hq;rw [h.ep] at h2;rw [M3];omega
 ·obtain ⟨h1,h2⟩:=h.nw hn;obtain ⟨h3,h4⟩:=k.nw h1;exact ⟨h3,by rw [h2,h4];rfl⟩
theorem FireP.tle {x x':SX} {o:List Msg} (h:FireP x x' o):Bq x.EP o:=fun m hm=>⟨(h.al m hm).1,by rw [(h.al m hm).2];exact Int.le_refl _⟩
inductive LsE (lo:Bool):Vw→List Msg→Vw→Prop
 | nil (v:Vw):LsE lo v [] v
 | fire (v:Vw) (x x':SX) (o:List Msg) (h:v.sd=some x) (hf:FireP x x' o):LsE lo v o ⟨some x',v.kn,v.tl,v.ak⟩
 | tell (v:Vw) (x:SX) (hl:lo=true) (h:v.sd=some x) (hs:x.SS=1) (ht:v.tl=false):LsE lo v [⟨5,x.EP,0⟩] ⟨v.sd,v.kn,true,v.ak⟩
 | leave (v:Vw) (x:SX) (hl:lo=true) (h:v.sd=some x) (hs:x.SS=2):LsE lo v [⟨7,x.EP,0⟩] ⟨some {x with SS:=3},v.kn,v.tl,v.ak⟩
 | drop (v:Vw) (x:SX) (hl:lo=false) (h:v.sd=some x) (hs:x.SS=2):LsE lo v [⟨8,x.EP,0⟩] ⟨none,v.kn,v.tl,v.ak⟩
 | answer (v:Vw) (x:SX) (e:Int) (hl:lo=false) (h:v.sd=none) (hk:v.ak=some e) (hx:x.EP=e∧x.SS=0∧x.FK=false∧x.TO=true∧x.BO=false∧x.Ask=true):LsE lo v [⟨6,e,0⟩] ⟨some x,e,v.tl,none⟩
 | trans (v v' v'':Vw) (o p:List Msg) (h:LsE lo v o v') (k:LsE lo v' p v''):LsE lo v (o++p) v''
theorem Y6 {x x' y:SX} {e:Int} {o ab ba:List Msg} (h:Fm x y e ab ba) (hf:FireP x x' o) (he:x.EP=e):Fm x' y e (ab++o) ba:=fun k hk=>by have h1:=h k hk;have h2:=hf.fl k hk;rw [he] at h2;rw [M3];omega
theorem Y7 {x y y':SX} {e:Int} {o ab ba:List Msg} (h:Fm x y e ab ba) (hf:FireP y y' o) (he:y.EP=e):Fm x y' e ab (ba++o):=fun k hk=>by have h1:=h k hk;have h2:=hf.fl k hk;rw [he] at h2;rw [M3];omega
theorem EI.lo {a b:Vw} {ab ba:List Msg} (h:EI a b ab ba) {o:List Msg} {E:Vw} (s:LsE true a o E):EI E b (ab++o) ba:=by
 induction s generalizing ab with
 | nil v=>rw [List.append_nil];exact h
 | trans v v' v'' o p _ _ ih1 ih2=>rw [←List.append_assoc];exact ih2 (ih1 h)
 | fire v x x' o h6 hf=>
   cases h with
   | no ha=>rw [ha] at h6;simp at h6
   | op z ha hx hn he ht hb hk hlt h1 h2=>rw [ha] at h6;cases h6;obtain ⟨n1,rfl⟩:=hf.nw hn;rw [List.append_nil];exact .op x' rfl (hf.st.trans hx) n1 (hf.ep.trans he) ht hb hk hlt h1 h2
   | nw z u ha hx hn he ht hb hk hlt hab h1 h2=>rw [ha] at h6;cases h6;obtain ⟨n1,rfl⟩:=hf.nw hn;rw [List.append_nil];exact .nw x' u rfl (hf.st.trans hx) n1 (hf.ep.trans he) ht hb hk hlt hab h1 h2
   | sk z ha hx hn he ht hb hk hlt h1 h2=>rw [ha] at h6;cases h6;obtain ⟨n1,rfl⟩:=hf.nw hn;rw [List.append_nil];exact .sk x' rfl (hf.st.trans hx) n1 (hf.ep.trans he) ht hb hk hlt h1 h2
   | kw z y u w ha hx hn he ht hb hy h8 hk hkn hba h1 h2 h3 ho=>rw [ha] at h6;cases h6;have ho':=Y6 ho hf he;obtain ⟨n1,rfl⟩:=hf.nw hn;rw [List.append_nil] at ho' ⊢;exact .kw x' y u w rfl (hf.st.trans hx) n1 (hf.ep.trans he) ht hb hy h8 hk hkn hba h1 h2 h3 ho'
   | lv z y ha hx he hb hy h8 hk hkn h1 h2 ho=>rw [ha] at h6;cases h6;have ht:=hf.tle;rw [he] at ht;exact .lv x' y rfl (by rw [hf.st];exact hx) (hf.ep.trans he) hb hy h8 hk hkn (h1.app ht) h2 (Y6 ho hf he)
   | cl z y u w ha hx he hb hy h8 hk hkn hab h1 h3 h2 ho=>rw [ha] at h6;cases h6;have ht:=hf.tle;rw [he] at ht;exact .cl x' y u (w++o) rfl (hf.st.trans hx) (hf.ep.trans he) hb hy h8 hk hkn (by rw [hab];simp) h1 (h3.app ht) h2 (by rw [←List.append_assoc];exact Y6 ho hf he)
   | lg z y ha hx he hb hy h8 hk hkn h1 h2 ho=>rw [ha] at h6;cases h6;have ht:=hf.tle;rw [he] at ht;exact .lg x' y rfl (hf.st.trans hx) (hf.ep.trans he) hb hy h8 hk hkn (h1.app ht) h2 (Y6 ho hf he)
   | cd z u ha hx he hb hk hkn hba h1 h2 ho=>rw [ha] at h6;cases h6;have ht:=hf.tle;rw [he] at ht;exact .cd x' u rfl (hf.st.trans hx) (hf.ep.trans he) hb hk hkn hba (h1.app ht) h2 (fun k hk'=>by have:=ho k hk';have:=hf.fl k hk';show bn (BF k x')+CY k v.kn u≤1;omega)
 | tell v x _ h6 hs h9=>
   cases h with
   | no ha=>rw [ha] at h6;simp at h6
   | op z ha hx hn he ht hb hk hlt h1 h2=>rw [ha] at h6;cases h6;exact .nw x ab ha hx hn he rfl hb hk hlt (by rw [he]) h1 h2
   | nw z u ha hx hn he ht=>rw [ht] at h9;simp at h9
   | sk z ha hx hn he ht=>rw [ht] at h9;simp at h9
   | kw z y u w ha hx hn he ht=>rw [ht] at h9;simp at h9
   | lv z y ha hx=>rw [ha] at h6;cases h6;omega
   | cl z y u w ha hx=>rw [ha] at h6;cases h6;omega
   | lg z y ha hx=>rw [ha] at h6;cases h6;omega
   | cd z u ha hx=>rw [ha] at h6;cases h6;omega
 | leave v x _ h6 hs=>
   cases h with
   | no ha=>rw [ha] at h6;simp at h6
   | op z ha hx=>rw [ha] at h6;cases h6;omega
   | nw z u ha hx=>rw [ha] at h6;cases h6;omega
   | sk z ha hx=>rw [ha] at h6;cases h6;omega
   | kw z y u w ha hx=>rw [ha] at h6;cases h6;omega
   | lv z y ha hx he hb hy h8 hk hkn h1 h2 ho=>rw [ha] at h6;cases h6;exact .cl {x with SS:=3} y ab [] rfl rfl he hb hy h8 hk hkn (by rw [he]) h1 (Bq.nil _) h2 (by rw [List.append_nil];exact ho)
   | cl z y u w ha hx=>rw [ha] at h6;cases h6;omega
   | lg z y ha hx=>rw [ha] at h6;cases h6;omega
   | cd z u ha hx=>rw [ha] at h6;cases h6;omega
 | drop v x hl=>simp at hl
 | answer v x e hl=>simp at hl
theorem EI.hi {a b:Vw} {ab ba:List Msg} (h:EI a b ab ba) {o:List Msg} {E:Vw} (s:LsE false b o E):EI a E ab (ba++o):=by
 induction s generalizing ba with
 | nil v=>rw [List.append_nil];exact h
 | trans v v' v'' o p _ _ ih1 ih2=>rw [←List.append_assoc];exact ih2 (ih1 h)
 | fire v x x' o h6 hf=>
   cases h with
   | no ha hb=>rw [hb] at h6;simp at h6
   | op z ha hx hn he ht hb=>rw [hb] at h6;simp at h6
   | nw z u ha hx hn he ht hb=>rw [hb] at h6;simp at h6
   | sk z ha hx hn he ht hb=>rw [hb] at h6;simp at h6
   | kw z y u w ha hx hn he ht hb hy h8 hk hkn hba h1 h2 h3 ho=>rw [hb] at h6;cases h6;have ht':=hf.tle;rw [h8] at ht';exact .kw z x' u (w++o) ha hx hn he ht rfl (hf.st.trans hy) (hf.ep.trans h8) hk hkn (by rw [hba];simp) h1 (h2.app ht') h3 (Y7 ho hf h8)
   | lv z y ha hx he hb hy h8 hk hkn h1 h2 ho=>rw [hb] at h6;cases h6;have ht':=hf.tle;rw [h8] at ht';exact .lv z x' ha hx he rfl (hf.st.trans hy) (hf.ep.trans h8) hk hkn h1 (h2.app ht') (Y7 ho hf h8)
   | cl z y u w ha hx he hb hy h8 hk hkn hab h1 h3 h2 ho=>rw [hb] at h6;cases h6;have ht':=hf.tle;rw [h8] at ht';exact .cl z x' u w ha hx he rfl (hf.st.trans hy) (hf.ep.trans h8) hk hkn hab h1 h3 (h2.app ht') (Y7 ho hf h8)
   | lg z y ha hx he hb hy h8 hk hkn h1 h2 ho=>rw [hb] at h6;cases h6;have ht':=hf.tle;rw [h8] at ht';exact .lg z x' ha hx he rfl (hf.st.trans hy) (hf.ep.trans h8) hk hkn h1 (h2.app ht') (Y7 ho hf h8)
   | cd z u ha hx he hb=>rw [hb] at h6;simp at h6
 | tell v x hl=>simp at hl
 | leave v x hl=>simp at hl
 | drop v x _ h6 hs=>
   cases h with
   | no ha hb=>rw [hb] at h6;simp at h6
   | op z ha hx hn he ht hb=>rw [hb] at h6;simp at h6
   | nw z u ha hx hn he ht hb=>rw [hb] at h6;simp at h6
   | sk z ha hx hn he ht hb=>rw [hb] at h6;simp at h6
   | kw z y u w ha hx hn he ht hb hy=>rw [hb] at h6;cases h6;omega
   | lv z y ha hx he hb hy=>rw [hb] at h6;cases h6;omega
   | cl z y u w ha hx he hb hy=>rw [hb] at h6;cases h6;omega
   | lg z y ha hx he hb hy h8 hk hkn h1 h2 ho=>rw [hb] at h6;cases h6;exact .cd z ba ha hx he rfl hk hkn (by rw [h8]) h1 h2 (fun k hk'=>by have:=ho k hk';omega)
   | cd z u ha hx he hb=>rw [hb] at h6;simp at h6
 | answer v x e _ h6 h9 hx'=>
   cases h with
   | no ha hb hk=>rw [hk] at h9;simp at h9
   | op z ha hx hn he ht hb hk=>rw [hk] at h9;simp at h9
   | nw z u ha hx hn he ht hb hk=>rw [hk] at h9;simp at h9
   | sk z ha hx hn he ht hb hk hlt h1 h2=>rw [hk] at h9;cases h9;obtain ⟨q1,q2,q3,q4,q5,q6⟩:=hx';obtain ⟨n1,n2,n3,n4⟩:=hn;refine .kw z x ba [] ha hx ⟨n1,n2,n3,n4⟩ he ht rfl q2 q1 rfl rfl rfl h2 (Bq.nil _) h1 (fun k hk'=>?_);rw [h1.cnt Om,yG];rcases hk' with rfl | rfl | rfl | rfl<;>simp [BF,bn,n1,n2,n3,n4,q3,q4,q5,q6]
   | kw z y u w ha hx hn he ht hb hy h8 hk=>rw [hk] at h9;simp at h9
   | lv z y ha hx he hb hy h8 hk=>rw [hk] at h9;simp at h9
   | cl z y u w ha hx he hb hy h8 hk=>rw [hk] at h9;simp at h9
   | lg z y ha hx he hb hy h8 hk=>rw [hk] at h9;simp at h9
   | cd z u ha hx he hb hk=>rw [hk] at h9;simp at h9
inductive GtE (lo:Bool) (v:Vw) (m:Msg):Vw→Prop
 | fit (x:SX) (ht:P4 m) (h:v.sd=some x) (he:x.EP=m.EP) (hl:BF m.KI x=false):GtE lo v m ⟨some (CP m.KI x),v.kn,v.tl,v.ak⟩
 | old (ht:P4 m) (h:∀x,v.sd=some x→x.EP≠m.EP):GtE lo v m v
 | new (hl:lo=false) (hm:m.KI=5∧m.Num=0) (h:v.sd=none) (hk:v.kn<m.EP) (ha:v.ak=none):GtE lo v m ⟨none,v.kn,v.tl,some m.EP⟩
 | known (x:SX) (hl:lo=true) (hm:m.KI=6∧m.Num=0) (h:v.sd=some x) (he:x.EP=m.EP) (hs:x.SS=1) (ht:v.tl=true):GtE lo v m ⟨some {x with SS:=0},v.kn,false,v.ak⟩
 | close (x:SX) (hl:lo=false) (hm:m.KI=7∧m.Num=0) (h:v.sd=some x) (he:x.EP=m.EP) (hs:x.SS=0):GtE lo v m ⟨some {x with SS:=2},v.kn,v.tl,v.ak⟩
 | closed (x:SX) (hl:lo=true) (hm:m.KI=8∧m.Num=0) (h:v.sd=some x) (he:x.EP=m.EP) (hs:x.SS=3):GtE lo v m ⟨none,v.kn,v.tl,v.ak⟩
theorem ZI {k j:Int} (hk:Hk k) (hj:Hk j) (x:SX) (h:BF k x=false):bn (BF j (CP k x))=bn (BF j x)+(if k=j then 1 else 0):=by rcases hk with rfl | rfl | rfl | rfl<;>rcases hj with rfl | rfl | rfl | rfl<;>simp_all [BF,CP,bn]
theorem I9 (k:Int) (x:SX):(CP k x).PE=x.PE∧(CP k x).EP=x.EP∧(CP k x).SS=x.SS:=by
 unfold CP;split
 ·exact ⟨rfl,rfl,rfl⟩
 ·split
  ·exact ⟨rfl,rfl,rfl⟩
  ·split<;>exact ⟨rfl,rfl,rfl⟩
theorem gp {m:Msg} {l:List Msg} {k e:Int} (he:m.EP=e):CY k e (m::l)=(if m.KI=k then 1 else 0)+CY k e l:=by rw [jF];simp [he]
theorem Zi {m:Msg} {l:List Msg} {k e:Int} (he:m.EP≠e):CY k e (m::l)=CY k e l:=by rw [jF,if_neg (fun h=>he h.2)];omega
theorem Zc {b:Bool} (h:bn b=0):b=false:=by cases b<;>simp_all [bn]
theorem Lt {x y:SX} {e:Int} {m:Msg} {ab ba:List Msg} (h:Fm x y e (m::ab) ba) (ht:P4 m):(m.EP=e→BF m.KI y=false∧Fm x (CP m.KI y) e ab ba)∧(m.EP≠e→Fm x y e ab ba):=by
 refine ⟨fun he=>?_,fun he k hk=>by have:=h k hk;rw [Zi he] at this;exact this⟩;have h0:BF m.KI y=false:=by have:=h m.KI ht.1;rw [gp he,if_pos rfl] at this;exact Zc Om
 refine ⟨h0,fun k hk=>?_⟩;have:=h k hk;rw [gp he] at this;rw [ZI ht.1 hk y h0];omega
theorem OL {x y:SX} {e:Int} {m:Msg} {ab ba:List Msg} (h:Fm x y e ab (m::ba)) (ht:P4 m):(m.EP=e→BF m.KI x=false∧Fm (CP m.KI x) y e ab ba)∧(m.EP≠e→Fm x y e ab ba):=by
 refine ⟨fun he=>?_,fun he k hk=>by have:=h k hk;rw [Zi he] at this;exact this⟩;have h0:BF m.KI x=false:=by have:=h m.KI ht.1;rw [gp he,if_pos rfl] at this;exact Zc Om
 refine ⟨h0,fun k hk=>?_⟩;have:=h k hk;rw [gp he] at this;rw [ZI ht.1 hk x h0];omega
theorem EI.getHi {a b:Vw} {m:Msg} {ab ba:List Msg} (h:EI a b (m::ab) ba):∃b',GtE false b m b'∧EI a b' ab ba:=by
 cases h with
 | no ha hb hk hle h1 h2=>exact ⟨b,.old (h1 m (by simp)).1 (by rw [hb];simp),.no ha hb hk hle h1.tail h2⟩
 | op z ha hx hn he ht hb hk hlt h1 h2=>exact ⟨b,.old (h1 m (by simp)).1 (by rw [hb];simp),.op z ha hx hn he ht hb hk hlt h1.tail h2⟩
 | nw z u ha hx hn he ht hb hk hlt hab h1 h2=>
   cases u with
   | nil=>simp only [List.nil_append,List.cons.injEq] at hab;obtain ⟨rfl,rfl⟩:=hab;exact ⟨_,.new rfl ⟨rfl,rfl⟩ hb hlt hk,.sk z ha hx hn he ht rfl rfl hlt (Bq.nil _) h2⟩
   | cons q u=>simp only [List.cons_append,List.cons.injEq] at hab;obtain ⟨rfl,rfl⟩:=hab;exact ⟨b,.old (h1 m (by simp)).1 (by rw [hb];simp),.nw z u ha hx hn he ht hb hk hlt rfl h1.tail h2⟩
 | sk z ha hx hn he ht hb hk hlt h1 h2=>exact ⟨b,.old (h1 m (by simp)).1 (by rw [hb];simp),.sk z ha hx hn he ht hb hk hlt h1.tail h2⟩
 | kw z y u w ha hx hn he ht hb hy h6 hk hkn hba h1 h2 h3 ho=>have hm:=h3 m (by simp);refine ⟨b,.old hm.1 (fun x hx'=>?_),.kw z y u w ha hx hn he ht hb hy h6 hk hkn hba h1 h2 h3.tail ((Lt ho hm.1).2 Om)⟩;rw [hb] at hx';cases hx';omega
 | lv z y ha hx he hb hy h6 hk hkn h1 h2 ho=>
   have hm:=h1 m (by simp);by_cases hq:m.EP=a.kn
   ·obtain ⟨o1,o2⟩:=(Lt ho hm.1).1 hq;obtain ⟨c1,c2,c3⟩:=I9 m.KI y;exact ⟨_,.fit y hm.1 hb Om o1,.lv z _ ha hx he rfl (c3.trans hy) (c2.trans h6) hk hkn h1.tail h2 o2⟩
   ·refine ⟨b,.old hm.1 (fun x hx'=>?_),.lv z y ha hx he hb hy h6 hk hkn h1.tail h2 ((Lt ho hm.1).2 hq)⟩;rw [hb] at hx';cases hx';omega
 | cl z y u w ha hx he hb hy h6 hk hkn hab h1 h3 h2 ho=>
   cases u with
   | nil=>simp only [List.nil_append,List.cons.injEq] at hab;obtain ⟨rfl,rfl⟩:=hab;exact ⟨_,.close y rfl ⟨rfl,rfl⟩ hb h6 hy,.lg z {y with SS:=2} ha hx he rfl rfl h6 hk hkn h3 h2 ho⟩
   | cons q u=>
     simp only [List.cons_append,List.cons.injEq] at hab;obtain ⟨rfl,rfl⟩:=hab;have hm:=h1 m (by simp);by_cases hq:m.EP=a.kn
     ·obtain ⟨o1,o2⟩:=(Lt ho hm.1).1 hq;obtain ⟨c1,c2,c3⟩:=I9 m.KI y;exact ⟨_,.fit y hm.1 hb Om o1,.cl z _ u w ha hx he rfl (c3.trans hy) (c2.trans h6) hk hkn rfl h1.tail h3 h2 o2⟩
     ·refine ⟨b,.old hm.1 (fun x hx'=>?_),.cl z y u w ha hx he hb hy h6 hk hkn rfl h1.tail h3 h2 ((Lt ho hm.1).2 hq)⟩;rw [hb] at hx';cases hx';omega
 | lg z y ha hx he hb hy h6 hk hkn h1 h2 ho=>
   have hm:=h1 m (by simp);by_cases hq:m.EP=a.kn
   ·obtain ⟨o1,o2⟩:=(Lt ho hm.1).1 hq;obtain ⟨c1,c2,c3⟩:=I9 m.KI y;exact ⟨_,.fit y hm.1 hb Om o1,.lg z _ ha hx he rfl (c3.trans hy) (c2.trans h6) hk hkn h1.tail h2 o2⟩
   ·refine ⟨b,.old hm.1 (fun x hx'=>?_),.lg z y ha hx he hb hy h6 hk hkn h1.tail h2 ((Lt ho hm.1).2 hq)⟩;rw [hb] at hx';cases hx';omega
 | cd z u ha hx he hb hk hkn hba h1 h2 ho=>exact ⟨b,.old (h1 m (by simp)).1 (by rw [hb];simp),.cd z u ha hx he hb hk hkn hba h1.tail h2 ho⟩
theorem EI.getLo {a b:Vw} {m:Msg} {ab ba:List Msg} (h:EI a b ab (m::ba)):∃a',GtE true a m a'∧EI a' b ab ba:=by
 cases h with
 | no ha hb hk hle h1 h2=>exact ⟨a,.old (h2 m (by simp)).1 (by rw [ha];simp),.no ha hb hk hle h1 h2.tail⟩
 | op z ha hx hn he ht hb hk hlt h1 h2=>have hm:=h2 m (by simp);exact ⟨a,.old hm.1 (fun x hx'=>by rw [ha] at hx';cases hx';omega),.op z ha hx hn he ht hb hk hlt h1 h2.tail⟩
 | nw z u ha hx hn he ht hb hk hlt hab h1 h2=>have hm:=h2 m (by simp);exact ⟨a,.old hm.1 (fun x hx'=>by rw [ha] at hx';cases hx';omega),.nw z u ha hx hn he ht hb hk hlt hab h1 h2.tail⟩
 | sk z ha hx hn he ht hb hk hlt h1 h2=>have hm:=h2 m (by simp);exact ⟨a,.old hm.1 (fun x hx'=>by rw [ha] at hx';cases hx';omega),.sk z ha hx hn he ht hb hk hlt h1 h2.tail⟩
 | kw z y u w ha hx hn he ht hb hy h6 hk hkn hba h1 h2 h3 ho=>
   cases u with
   | nil=>simp only [List.nil_append,List.cons.injEq] at hba;obtain ⟨rfl,rfl⟩:=hba;exact ⟨_,.known z rfl ⟨rfl,rfl⟩ ha he hx ht,.lv {z with SS:=0} y rfl (.inl rfl) he hb hy h6 hk hkn (h3.mono (by show a.kn-1≤a.kn;omega)) h2 ho⟩
   | cons q u=>simp only [List.cons_append,List.cons.injEq] at hba;obtain ⟨rfl,rfl⟩:=hba;have hm:=h1 m (by simp);exact ⟨a,.old hm.1 (fun x hx'=>by rw [ha] at hx';cases hx';omega),.kw z y u w ha hx hn he ht hb hy h6 hk hkn rfl h1.tail h2 h3 ho⟩
 | lv z y ha hx he hb hy h6 hk hkn h1 h2 ho=>
   have hm:=h2 m (by simp);by_cases hq:m.EP=a.kn
   ·obtain ⟨o1,o2⟩:=(OL ho hm.1).1 hq;obtain ⟨c1,c2,c3⟩:=I9 m.KI z;exact ⟨_,.fit z hm.1 ha Om o1,.lv _ y rfl (by rw [c3];exact hx) (c2.trans he) hb hy h6 hk hkn h1 h2.tail o2⟩
   ·refine ⟨a,.old hm.1 (fun x hx'=>?_),.lv z y ha hx he hb hy h6 hk hkn h1 h2.tail ((OL ho hm.1).2 hq)⟩;rw [ha] at hx';cases hx';omega
 | cl z y u w ha hx he hb hy h6 hk hkn hab h1 h3 h2 ho=>
   have hm:=h2 m (by simp);by_cases hq:m.EP=a.kn
   ·obtain ⟨o1,o2⟩:=(OL ho hm.1).1 hq;obtain ⟨c1,c2,c3⟩:=I9 m.KI z;exact ⟨_,.fit z hm.1 ha Om o1,.cl _ y u w rfl (c3.trans hx) (c2.trans he) hb hy h6 hk hkn hab h1 h3 h2.tail o2⟩
   ·refine ⟨a,.old hm.1 (fun x hx'=>?_),.cl z y u w ha hx he hb hy h6 hk hkn hab h1 h3 h2.tail ((OL ho hm.1).2 hq)⟩;rw [ha] at hx';cases hx';omega
 | lg z y ha hx he hb hy h6 hk hkn h1 h2 ho=>
   have hm:=h2 m (by simp);by_cases hq:m.EP=a.kn
   ·obtain ⟨o1,o2⟩:=(OL ho hm.1).1 hq;obtain ⟨c1,c2,c3⟩:=I9 m.KI z;exact ⟨_,.fit z hm.1 ha Om o1,.lg _ y rfl (c3.trans hx) (c2.trans he) hb hy h6 hk hkn h1 h2.tail o2⟩
   ·refine ⟨a,.old hm.1 (fun x hx'=>?_),.lg z y ha hx he hb hy h6 hk hkn h1 h2.tail ((OL ho hm.1).2 hq)⟩;rw [ha] at hx';cases hx';omega
 | cd z u ha hx he hb hk hkn hba h1 h2 ho=>
   cases u with
   | nil=>simp only [List.nil_append,List.cons.injEq] at hba;obtain ⟨rfl,rfl⟩:=hba;exact ⟨_,.closed z rfl ⟨rfl,rfl⟩ ha he hx,.no rfl hb hk (by show b.kn≤a.kn;omega) h1 (Bq.nil _)⟩
   | cons q u=>
     simp only [List.cons_append,List.cons.injEq] at hba;obtain ⟨rfl,rfl⟩:=hba;have hm:=h2 m (by simp);by_cases hq:m.EP=a.kn
     ·have h0:BF m.KI z=false:=by have:=ho m.KI hm.1.1;rw [gp hq,if_pos rfl] at this;exact Zc Om
      obtain ⟨c1,c2,c3⟩:=I9 m.KI z;refine ⟨_,.fit z hm.1 ha Om h0,.cd _ u rfl (c3.trans hx) (c2.trans he) hb hk hkn rfl h1 h2.tail (fun k hk'=>?_)⟩;have:=ho k hk';rw [gp hq] at this;show bn (BF k (CP m.KI z))+CY k a.kn u≤1;rw [ZI hm.1.1 hk' z h0];omega
     ·refine ⟨a,.old hm.1 (fun x hx'=>?_),.cd z u ha hx he hb hk hkn rfl h1 h2.tail (fun k hk'=>?_)⟩
      ·rw [ha] at hx';cases hx';omega
      ·have:=ho k hk';rw [Zi hq] at this;exact this
theorem EI.add {a b:Vw} {ab ba:List Msg} (h:EI a b ab ba) (hs:a.sd=none) {x:SX} (hx:x.SS=1∧cu x∧x.EP=a.kn+1):EI ⟨some x,a.kn+1,false,a.ak⟩ b ab ba:=by
 cases h with
 | no ha hb hk hle h1 h2=>exact .op x rfl hx.1 hx.2.1 hx.2.2 rfl hb hk (by show b.kn<a.kn+1;omega) (h1.mono (by show _≤a.kn+1-1;omega)) (h2.mono (by show _≤a.kn+1-1;omega))
 | op z ha=>rw [ha] at hs;simp at hs
 | nw z u ha=>rw [ha] at hs;simp at hs
 | sk z ha=>rw [ha] at hs;simp at hs
 | kw z y u w ha=>rw [ha] at hs;simp at hs
 | lv z y ha=>rw [ha] at hs;simp at hs
 | cl z y u w ha=>rw [ha] at hs;simp at hs
 | lg z y ha=>rw [ha] at hs;simp at hs
 | cd z u ha=>rw [ha] at hs;simp at hs
theorem EI.shut {a b:Vw} {ab ba:List Msg} (h:EI a b ab ba) {x:SX} (hs:a.sd=some x) (hx:x.SS=0):EI ⟨some {x with SS:=2},a.kn,a.tl,a.ak⟩ b ab ba:=by
 cases h with
 | no ha=>rw [ha] at hs;simp at hs
 | op z ha hx'=>rw [ha] at hs;cases hs;omega
 | nw z u ha hx'=>rw [ha] at hs;cases hs;omega
 | sk z ha hx'=>rw [ha] at hs;cases hs;omega
 | kw z y u w ha hx'=>rw [ha] at hs;cases hs;omega
 | lv z y ha hx' he hb hy h6 hk hkn h1 h2 ho=>rw [ha] at hs;cases hs;exact .lv _ y rfl (.inr rfl) he hb hy h6 hk hkn h1 h2 ho
 | cl z y u w ha hx'=>rw [ha] at hs;cases hs;omega
 | lg z y ha hx'=>rw [ha] at hs;cases hs;omega
 | cd z u ha hx'=>rw [ha] at hs;cases hs;omega
theorem EI.one {a b:Vw} {ab ba:List Msg} (h:EI a b ab ba) {x y:SX} (hx:a.sd=some x) (hy:b.sd=some y):x.EP=y.EP∧∀k,Hk k→bn (BF k x)+bn (BF k y)+CY k x.EP ab+CY k x.EP ba=1:=by
 cases h with
 | no ha=>rw [ha] at hx;simp at hx
 | op z ha _ _ _ _ hb=>rw [hb] at hy;simp at hy
 | nw z u ha _ _ _ _ hb=>rw [hb] at hy;simp at hy
 | sk z ha _ _ _ _ hb=>rw [hb] at hy;simp at hy
 | kw z z' u w ha hx' hn he ht hb hy' h6 hk hkn hba h1 h2 h3 ho=>rw [ha] at hx;cases hx;rw [hb] at hy;cases hy;refine ⟨Om,fun k hk'=>?_⟩;have:=ho k hk';rw [he,hba,M3,jF,h1.cnt Om,if_neg (by rintro ⟨q,_⟩;rcases hk' with rfl | rfl | rfl | rfl<;>simp at q)];omega
 | lv z z' ha hx' he hb hy' h6 hk hkn h1 h2 ho=>rw [ha] at hx;cases hx;rw [hb] at hy;cases hy;exact ⟨Om,by rw [he];exact ho⟩
 | cl z z' u w ha hx' he hb hy' h6 hk hkn hab h1 h3 h2 ho=>rw [ha] at hx;cases hx;rw [hb] at hy;cases hy;refine ⟨Om,fun k hk'=>?_⟩;have:=ho k hk';rw [M3] at this;rw [he,hab,M3,jF,if_neg (by rintro ⟨q,_⟩;rcases hk' with rfl | rfl | rfl | rfl<;>simp at q)];omega
 | lg z z' ha hx' he hb hy' h6 hk hkn h1 h2 ho=>rw [ha] at hx;cases hx;rw [hb] at hy;cases hy;exact ⟨Om,by rw [he];exact ho⟩
 | cd z u ha _ _ hb=>rw [hb] at hy;simp at hy
def B7 (S:List SX) (p:Int):Option SX:=S.find? fun x=>decide (x.PE=p)
def DC (A:List KE) (p:Int):Option Int:=(A.find? fun k=>decide (k.PE=p)).map (·.EP)
def Az (n:NO) (p:Int):Vw:=⟨B7 n.DK.DI.SD p,BR n.KN p,decide (p∈n.TL),DC n.AK p⟩
def Ce (p:Int) (E:List ML):List Msg:=(E.filter fun m=>decide (m.To=p)).map (·.Msg)
theorem cD (p:Int) (a b:List ML):Ce p (a++b)=Ce p a++Ce p b:=by simp [Ce]
theorem K3 (x:SX) (S:List SX) (p:Int):B7 (x::S) p=if x.PE=p then some x else B7 S p:=by unfold B7;rw [List.find?_cons];by_cases h:x.PE=p<;>simp [h]
theorem IK {S:List SX} {p:Int} {x:SX} (h:B7 S p=some x):x∈S∧x.PE=p:=by unfold B7 at h;exact ⟨List.mem_of_find?_eq_some h,by simpa using List.find?_some h⟩
theorem Ey {S:List SX} {p:Int}:B7 S p=none↔∀x∈S,x.PE≠p:=by unfold B7;rw [List.find?_eq_none];simp
theorem Gk {S:List SX} (hu:S.Pairwise fun x y=>x.PE<y.PE) {x:SX} (hx:x∈S):B7 S x.PE=some x:=by
 cases h:B7 S x.PE with
 | none=>exact absurd rfl (Ey.1 h x hx)
 | some y=>obtain ⟨h1,h2⟩:=IK h;rw [fg hu h1 hx h2]
theorem kY {g:SX→SX} (hg:∀x,(g x).PE=x.PE) (S:List SX) (p:Int):B7 (S.map g) p=(B7 S p).map g:=by
 induction S with
 | nil=>rfl
 | cons x S ih=>rw [List.map_cons,K3,K3,hg,ih];split<;>rfl
theorem wo {g:SX→Option SX} (hg:∀x y,g x=some y→y.PE=x.PE) {S:List SX} (hu:S.Pairwise fun x y=>x.PE<y.PE) (p:Int):B7 (S.filterMap g) p=(B7 S p).bind g:=by
 induction S with
 | nil=>rfl
 | cons x S ih=>
   obtain ⟨h1,h2⟩:=List.pairwise_cons.1 hu;have ih:=ih h2;rw [K3,List.filterMap_cons];cases hx:g x with
   | none=>
     dsimp only;rw [ih];split
     ·rename_i e;rw [OB,hx,Ey.2 (fun y hy e2=>by have:=h1 y hy;omega)];rfl
     ·rfl
   | some y=>
     dsimp only;rw [K3,hg x y hx,ih];split
     ·rw [OB,hx]
     ·rfl
theorem kZ {S:List SX} {x:SX} (hn:∀y∈S,y.PE≠x.PE) (p:Int):B7 (Cy S x) p=if p=x.PE then some x else B7 S p:=by
 unfold Cy;have e:∀l,B7 (S.take (AH S (·.PE) x.PE)++l) p=(B7 (S.take (AH S (·.PE) x.PE)) p).or (B7 l p):=fun l=>List.find?_append ..;rw [e,K3];by_cases h:p=x.PE
 ·rw [if_pos h,if_pos h.symm,Ey.2 (fun y hy=>by rw [h];exact hn y (List.mem_of_mem_take hy))];rfl
 ·rw [if_neg h,if_neg (fun q=>h q.symm),←e,List.take_append_drop]
theorem cT {f:SX→List ML} (hf:∀x,∀m∈f x,m.To=x.PE) {S:List SX} (hu:S.Pairwise fun x y=>x.PE<y.PE) (p:Int):Ce p (S.flatMap f)=match B7 S p with | some x=>(f x).map (·.Msg) | none=>[]:=by
 induction S with
 | nil=>rfl
 | cons x S ih=>
   obtain ⟨h1,h2⟩:=List.pairwise_cons.1 hu;rw [List.flatMap_cons,cD,ih h2,K3];by_cases e:x.PE=p
   ·rw [if_pos e,Ey.2 (fun y hy e2=>by have:=h1 y hy;omega)];dsimp only;rw [List.append_nil];unfold Ce;rw [List.filter_eq_self.2 (fun m hm=>by simpa using (hf x m hm).trans e)]
   ·rw [if_neg e];have:Ce p (f x)=[]:=by unfold Ce;rw [List.filter_eq_nil_iff.2 (fun m hm=>by rw [hf x m hm];simpa using e)];rfl
    rw [this,List.nil_append]
theorem xF (k:KE) (A:List KE) (p:Int):DC (k::A) p=if k.PE=p then some k.EP else DC A p:=by unfold DC;rw [List.find?_cons];by_cases h:k.PE=p<;>simp [h]
theorem xG {A:List KE} {p:Int}:DC A p=none↔∀k∈A,k.PE≠p:=by unfold DC;rw [Option.map_eq_none_iff,List.find?_eq_none];simp
theorem yH {A:List KE} {p e:Int} (h:DC A p=some e):∃k∈A,k.PE=p∧k.EP=e:=by unfold DC at h;obtain ⟨k,h1,h2⟩:=Option.map_eq_some_iff.1 h;exact ⟨k,List.mem_of_find?_eq_some h1,by simpa using List.find?_some h1,h2⟩
theorem dH (p:Int):∀(A:List KE) (S:List SX) (K:List KE) (id:Int),(∀k∈A,∀x∈S,x.PE≠k.PE)→(A.map (·.PE)).Nodup→(K.Pairwise fun x y=>x.PE<y.PE)→
  (B7 (D6 S A) p=match DC A p with | some e=>some (Cg ⟨p,e⟩) | none=>B7 S p)∧(BR (DU K A) p=match DC A p with | some e=>e | none=>BR K p)∧(Ce p (bL id A)=match DC A p with | some e=>[⟨6,e,0⟩] | none=>[])
 | [],S,K,id,_,_,_=>⟨rfl,rfl,rfl⟩
 | k::A,S,K,id,h1,h2,h3=>by
   rw [List.map_cons,List.nodup_cons] at h2;have h6:∀y∈S,y.PE≠(Cg k).PE:=fun y hy=>h1 k (by simp) y hy;obtain ⟨a1,a2,a3⟩:=dH p A (Cy S (Cg k)) (D9 K k.PE k.EP) id (fun q hq x hx=>by
    rcases Fk.1 hx with rfl | hx
    ·intro e;exact h2.1 (List.mem_map.2 ⟨q,hq,e.symm⟩)
    ·exact h1 q (List.mem_cons_of_mem _ hq) x hx) h2.2 (UP h3 _ _)
   rw [xF];have e1:D6 S (k::A)=D6 (Cy S (Cg k)) A:=rfl;have e2:DU K (k::A)=DU (D9 K k.PE k.EP) A:=rfl;have e3:Ce p (bL id (k::A))=(if k.PE=p then [⟨6,k.EP,0⟩] else [])++Ce p (bL id A):=by unfold bL Ce;rw [List.map_cons,List.filter_cons];by_cases e:k.PE=p<;>simp [e]
   rw [e1,e2,e3,a1,a2,a3,kZ h6,g9 h3];by_cases e:k.PE=p
   ·have hA:DC A p=none:=xG.2 fun q hq e'=>h2.1 (List.mem_map.2 ⟨q,hq,e'.trans e.symm⟩);rw [hA,if_pos e];dsimp only;refine ⟨?_,?_,?_⟩
    ·rw [if_pos (show p=(Cg k).PE from e.symm)];unfold Cg;rw [e]
    ·rw [if_pos e.symm]
    ·rw [if_pos e];rfl
   ·rw [if_neg e];cases hA:DC A p with
    | some q=>exact ⟨rfl,rfl,by rw [if_neg e];rfl⟩
    | none=>exact ⟨by dsimp only;rw [if_neg (show ¬p=(Cg k).PE from fun q=>e q.symm)],by dsimp only;rw [if_neg (fun q=>e q.symm)],by rw [if_neg e];rfl⟩
theorem cn {n:NO} (h:OkN n) (p:Int):LsE (decide (n.DK.DI.ID<p)) (Az n p) (Ce p (Gq n)) (Az (AZ n) p):=by
 unfold AZ Gq;split
 ·exact .nil _
 ·obtain ⟨a1,a2,a3⟩:=dH p n.AK n.DK.DI.SD n.KN n.DK.DI.ID (fun k hk=>(h.may k hk).1) h.dis h.kup;unfold Az;dsimp only;rw [a1,a2,a3];cases hA:DC n.AK p with
  | none=>exact .nil _
  | some e=>obtain ⟨k,hk,rfl,rfl⟩:=yH hA;have hm:=h.may k hk;exact .answer _ (Cg ⟨k.PE,k.EP⟩) _ (by simp;omega) (Ey.2 hm.1) rfl ⟨rfl,rfl,rfl,rfl,rfl,rfl⟩
theorem xH (ph:Int) (x:SX) (id:Int):FireP x (BV ph x) ((Cn id ph x).map (·.Msg)):=by
 obtain ⟨h1,h2,h3⟩:=qO ph x;refine ⟨h1,h2,h3,fun m hm=>?_,fun k hk=>?_,fun hn=>?_⟩
 ·unfold Cn at hm;rw [List.map_append,List.mem_append] at hm;rcases hm with hm | hm
  ·split at hm<;>simp at hm;subst hm;exact ⟨⟨.inl rfl,rfl⟩,rfl⟩
  ·split at hm<;>simp at hm;subst hm;exact ⟨⟨.inr (.inl rfl),rfl⟩,rfl⟩
 ·obtain ⟨a,b,c,f,d,t,bo,ak⟩:=x;unfold Cn BV DG;by_cases e1:ph=1<;>by_cases e2:ph=2<;>rcases hk with rfl | rfl | rfl | rfl<;>cases f<;>cases d<;>cases t<;>simp [BF,bn,CY,e1,e2]
 ·obtain ⟨n1,n2,n3,n4⟩:=hn;have e1:DG ph x=x:=by unfold DG;rw [if_neg (by simp [n2])]
  unfold Cn BV;rw [e1];simp [n2,cu,n1,n3,n4]
theorem qL (nd:Bool) (th:Int) (x:SX) (id:Int):FireP x (Ca nd th x) ((CG id nd th x).map (·.Msg)):=by
 obtain ⟨h1,h2,h3,_⟩:=Pf nd th x;refine ⟨h1,h2,h3,fun m hm=>?_,fun k hk=>?_,fun hn=>?_⟩
 ·unfold CG at hm;rw [List.map_append,List.mem_append] at hm;rcases hm with hm | hm
  ·split at hm<;>simp at hm;subst hm;exact ⟨⟨.inr (.inr (.inl rfl)),rfl⟩,rfl⟩
  ·split at hm<;>simp at hm;subst hm;exact ⟨⟨.inr (.inr (.inr rfl)),rfl⟩,rfl⟩
 ·obtain ⟨a,b,c,f,d,t,bo,ak⟩:=x;unfold CG Ca DW;generalize Fb nd th ⟨a,b,c,f,d,t,bo,ak⟩=kp;by_cases e1:th=1<;>rcases hk with rfl | rfl | rfl | rfl<;>cases nd<;>cases kp<;>cases bo<;>cases ak<;>simp [BF,bn,CY,e1]
 ·obtain ⟨n1,n2,n3,n4⟩:=hn;have e1:DW nd th x=x:=by unfold DW;rw [if_neg (by simp [n4])]
  unfold CG Ca;rw [e1];simp [cu,n1,n2,n3,n4]
theorem qN (x:SX):FireP x (IX x) []:=⟨rfl,rfl,rfl,by simp,fun k _=>rfl,fun h=>⟨h,rfl⟩⟩
theorem qM (d:DI) (x:SX) (id:Int):FireP x (Cl d x) ((Cn id d.PH x).map (·.Msg)):=by
 unfold Cl;split
 ·have:=(xH d.PH x id).trans (qN _);rwa [List.append_nil] at this
 ·exact xH _ _ _
theorem wv {d:DK} (hu:d.DI.SD.Pairwise fun x y=>x.PE<y.PE) (p:Int):
  (∀x,B7 d.DI.SD p=some x→∃x',B7 (bc d).DI.SD p=some x'∧FireP x x' (Ce p (Dp d)))∧(B7 d.DI.SD p=none→B7 (bc d).DI.SD p=none∧Ce p (Dp d)=[]):=by
 have h6:(Bo d).SD=d.DI.SD:=rfl;have g1:∀x,(fh d x).PE=x.PE:=fun x=>congrArg (·.1) (gy d x);have g2:∀x,(Cl (Bo d) x).PE=x.PE:=fun x=>(M8 _ x).1;have eS:B7 (bc d).DI.SD p=(B7 d.DI.SD p).map (fh d):=by rw [TA,kY g1]
 have m1:Ce p (I4 (Bo d))=match B7 d.DI.SD p with | some x=>(Cn (Bo d).ID (Bo d).PH x).map (·.Msg) | none=>[]:=by unfold I4;rw [h6,cT (fun x m hm=>(?_:m.To=x.PE)) hu];unfold Cn at hm;rcases List.mem_append.1 hm with hm | hm<;>split at hm<;>simp at hm<;>rw [hm]
 have h8:(Cb (Bo d)).SD.Pairwise fun x y=>x.PE<y.PE:=by rw [Hf,h6];exact OQ (by rw [List.map_map];exact List.map_congr_left fun x _=>g2 x) hu
 have m2:Ce p ((Cb (Bo d)).SD.flatMap fun x=>CG d.DI.ID (Cu d x) d.TH x)=match B7 d.DI.SD p with | some x=>(CG d.DI.ID (Cu d (Cl (Bo d) x)) d.TH (Cl (Bo d) x)).map (·.Msg) | none=>[]:=by rw [cT (fun x m hm=>(uy hm).2.1) h8,Hf,kY g2,h6];cases B7 d.DI.SD p<;>rfl
 unfold Dp;rw [eS,cD,m1,m2];constructor
 ·intro x hx;rw [hx];refine ⟨fh d x,rfl,?_⟩;dsimp only;have nd:Cu d (Cl (Bo d) x)=Cu d x:=by unfold Cu;rw [g2]
  rw [nd];exact (qM (Bo d) x _).trans (qL _ _ _ _)
 ·intro hx;rw [hx];exact ⟨rfl,rfl⟩
theorem l5 (p:Int):∀(k:Nat) (d:DK) (out:List ML),(d.DI.SD.Pairwise fun x y=>x.PE<y.PE)→∃E,(Cm k d out).2=out++E∧
  (∀x,B7 d.DI.SD p=some x→∃x',B7 (Cm k d out).1.DI.SD p=some x'∧FireP x x' (Ce p E))∧(B7 d.DI.SD p=none→B7 (Cm k d out).1.DI.SD p=none∧Ce p E=[])
 | 0,d,out,_=>⟨[],by simp [Cm],fun x hx=>⟨x,hx,FireP.refl x⟩,fun h=>⟨h,rfl⟩⟩
 | k+1,d,out,hu=>by
   unfold Cm;split
   ·exact ⟨[],by simp,fun x hx=>⟨x,hx,FireP.refl x⟩,fun h=>⟨h,rfl⟩⟩
   ·have hu':(bc d).DI.SD.Pairwise fun x y=>x.PE<y.PE:=by rw [TA];exact OQ (by rw [List.map_map];exact List.map_congr_left fun x _=>congrArg (·.1) (gy d x)) hu
    obtain ⟨E,h1,h2,h3⟩:=l5 p k (bc d) (out++Dp d) hu';obtain ⟨a1,a2⟩:=wv hu p;refine ⟨Dp d++E,by rw [h1,List.append_assoc],fun x hx=>?_,fun hx=>?_⟩
    ·obtain ⟨y,hy,f1⟩:=a1 x hx;obtain ⟨z,hz,f2⟩:=h2 y hy;exact ⟨z,hz,by rw [cD];exact f1.trans f2⟩
    ·obtain ⟨b1,b2⟩:=a2 hx;obtain ⟨c1,c2⟩:=h3 b1;exact ⟨c1,by rw [cD,b2,c2];rfl⟩
theorem co {n:NO} (hu:n.DK.DI.SD.Pairwise fun x y=>x.PE<y.PE) (lo:Bool) (p:Int):LsE lo (Az n p) (Ce p (Bv n.DK).2) (Az (BI n) p):=by
 obtain ⟨E,h1,h2,h3⟩:=l5 p 300 n.DK [] hu;rw [List.nil_append] at h1;have e:Bv n.DK=Cm 300 n.DK []:=rfl;unfold BI Az;dsimp only;rw [e,h1];cases hs:B7 n.DK.DI.SD p with
 | none=>obtain ⟨c1,c2⟩:=h3 hs;rw [c1,c2];exact .nil _
 | some x=>obtain ⟨x',c1,c2⟩:=h2 x hs;rw [c1];exact .fire _ x x' _ rfl c2
theorem cq (id p:Int):∀(S:List SX) (T:List Int),(S.Pairwise fun x y=>x.PE<y.PE)→Ce p (bd id S T []).2=match B7 S p with | some x=>if x.SS=1∧p∉T then [⟨5,x.EP,0⟩] else [] | none=>[]
 | [],T,_=>rfl
 | x::S,T,hu=>by
   obtain ⟨h1,h2⟩:=List.pairwise_cons.1 hu;have ub:CK T x=true↔x.SS=1∧x.PE∉T:=by unfold CK ER;rw [Bool.and_eq_true,decide_eq_true_eq,Bool.not_eq_true',decide_eq_false_iff_not]
   rw [K3];unfold bd;cases hu':CK T x with
   | true=>
     rw [if_pos rfl,U0,cD,cq id p S _ h2];have hx:=ub.1 hu';by_cases e:x.PE=p
     ·rw [if_pos e,Ey.2 (fun y hy e2=>by have:=h1 y hy;omega)];dsimp only;rw [if_pos ⟨hx.1,e ▸ hx.2⟩];simp [Ce,e]
     ·rw [if_neg e];have:Ce p ([]++[(⟨id,x.PE,⟨5,x.EP,0⟩⟩:ML)])=[]:=by simp [Ce,e]
      rw [this,List.nil_append];have hs:=(DO (T++[x.PE])).2 p;have hq:p∈Bm (T++[x.PE])↔p∈T:=by rw [hs,List.mem_append,List.mem_singleton];exact ⟨fun h=>h.elim id' (fun q=>absurd q.symm e),.inl⟩
      cases B7 S p with
      | none=>rfl
      | some y=>simp only [hq]
   | false=>
     rw [if_neg (by simp),cq id p S T h2];by_cases e:x.PE=p
     ·rw [if_pos e,Ey.2 (fun y hy e2=>by have:=h1 y hy;omega)];dsimp only;rw [if_neg (fun h=>by have:=ub.2 ⟨h.1,e ▸ h.2⟩;rw [hu'] at this;simp at this)]
     ·rw [if_neg e]
where id' {a:Prop} (h:a):a:=h
theorem ww {n:NO} (h:OkN n) (p:Int):LsE (decide (n.DK.DI.ID<p)) (Az n p) (Ce p (Dr n).2) (Az (CI n) p):=by
 have hm:=YD n p;unfold CI Az;dsimp only;unfold Dr at hm ⊢;by_cases hP:n.DK.DI.PH=2
 ·rw [if_pos hP] at hm ⊢;rw [cq _ p _ _ h.dr.din.up];cases hs:B7 n.DK.DI.SD p with
  | none=>
    have:p∈(bd n.DK.DI.ID n.DK.DI.SD n.TL []).1↔p∈n.TL:=by rw [hm];exact ⟨fun q=>q.elim (fun q=>q) (fun ⟨_,x,hx,_,e⟩=>absurd e (Ey.1 hs x hx)),.inl⟩
    rw [decide_eq_decide.2 this];exact .nil _
  | some x=>
    obtain ⟨h1,h2⟩:=IK hs;dsimp only;by_cases hc:x.SS=1∧p∉n.TL
    ·rw [if_pos hc,DT (hm.2 (.inr ⟨hP,x,h1,hc.1,h2⟩)),DN hc.2];have:=(h.sd x h1).2.2.2 (.inl hc.1);have:=(h.peer0 h1).2.2;exact .tell _ x (by simp;omega) rfl hc.1 rfl
    ·rw [if_neg hc];have:p∈(bd n.DK.DI.ID n.DK.DI.SD n.TL []).1↔p∈n.TL:=by rw [hm];refine ⟨fun q=>q.elim (fun q=>q) (fun ⟨_,y,hy,hs',e⟩=>?_),.inl⟩;have:y=x:=fg h.dr.din.up hy h1 Om;subst this;exact Classical.byContradiction fun q=>hc ⟨hs',q⟩
     rw [decide_eq_decide.2 this];exact .nil _
 ·rw [if_neg hP];exact .nil _
theorem wu {n:NO} (h:OkN n) (p:Int):LsE (decide (n.DK.DI.ID<p)) (Az n p) (Ce p (EK n)) (Az (br n) p):=by
 have t1:∀x,∀m∈G7 n.DK.DI.ID n.DK.TH n.DK.NE x,m.To=x.PE:=fun x m hm=>by unfold G7 at hm;split at hm<;>simp at hm;rw [hm]
 have t2:∀x y,DJ n.DK.DI.ID n.DK.TH n.DK.NE x=some y→y.PE=x.PE:=fun x y hy=>by
  unfold DJ at hy;split at hy
  ·split at hy<;>simp at hy;rw [←hy]
  ·simp at hy;rw [←hy]
 unfold br EK Az B0 BJ;dsimp only;rw [cT t1 h.dr.din.up,wo t2 h.dr.din.up]
 ·cases hs:B7 n.DK.DI.SD p with
  | none=>exact .nil _
  | some x=>
    obtain ⟨h1,h2⟩:=IK hs;have hne:=(h.peer0 h1).2.2;rw [OB];dsimp only;unfold DJ G7;cases hg:C1 n.DK.TH n.DK.NE x with
    | false=>exact .nil _
    | true=>
      have h6:=i5 hg;by_cases hi:n.DK.DI.ID<x.PE
      ·rw [if_pos rfl,if_pos hi,if_pos rfl,if_pos hi];exact .leave _ x (by simp;omega) rfl h6
      ·rw [if_pos rfl,if_neg hi,if_pos rfl,if_neg hi];exact .drop _ x (by simp;omega) rfl h6
theorem xI {n:NO} (h:OkN n) (p:Int):LsE (decide (n.DK.DI.ID<p)) (Az n p) (Ce p (E6 n)) (Az (AN n) p):=by
 have h1:=cn h p;have e2:Az (Bj n) p=Az (AZ n) p:=by
  have:(BM (AZ n)).DK.DI=(AZ n).DK.DI:=by
   unfold BM CJ;dsimp only;split
   ·split<;>rfl
   ·rfl
  unfold Bj BB Az;dsimp only;rw [this];rfl
 have h9:(Bj n).DK.DI.ID=n.DK.DI.ID:=mt n;have h3:=co (n:=Bj n) h.pre.dr.din.up (decide (n.DK.DI.ID<p)) p;have hg:=h.pre.firgra;have h6:(AL (BI (Bj n))).DK.DI.ID=n.DK.DI.ID:=(fp (Bj n).DK).id.trans h9;have h4:=ww hg p;have h5:=wu hg.tel p;have h8:(CI (AL (BI (Bj n)))).DK.DI.ID=n.DK.DI.ID:=h6;rw [h6] at h4;rw [h8] at h5;have e4:Az (AL (BI (Bj n))) p=Az (BI (Bj n)) p:=rfl;unfold AN E6 Aw;rw [cD,cD,cD];rw [←e2] at h1;rw [e4] at h4;exact .trans _ _ _ _ _ h1 (.trans _ _ _ _ _ h3 (.trans _ _ _ _ _ h4 h5))
theorem l7 {n:NO} (h:OkN n) (V:List EV) (p:Int):LsE (decide (n.DK.DI.ID<p)) (Az n p) (Ce p (BE n [] V).2.1) (Az (BE n [] V).1 p):=(fu (P:=fun m E _=>m.DK.DI.ID=n.DK.DI.ID∧LsE (decide (n.DK.DI.ID<p)) (Az n p) (Ce p E) (Az m p)) (fun m E V hm hP=>by have:=xI hm p;rw [hP.1] at this;exact ⟨(gz m).trans hP.1,by rw [cD];exact .trans _ _ _ _ _ hP.2 this⟩) h ⟨rfl,.nil _⟩).2
theorem wn {S S':List SX} (E:S'.Pairwise fun x y=>x.PE<y.PE) {p:Int} (h:∀x,x.PE=p→(x∈S↔x∈S')):B7 S p=B7 S' p:=by
 cases hs:B7 S p with
 | none=>symm;rw [Ey];intro x hx e;exact Ey.1 hs x ((h x e).2 hx) e
 | some x=>obtain ⟨h1,h2⟩:=IK hs;have:=Gk E ((h x h2).1 h1);rw [h2] at this;exact this.symm
theorem Yq {S:List SX} (hu:S.Pairwise fun x y=>x.PE<y.PE) {j:Nat} {x y:SX} (hj:S[j]?=some x) (hy:y.PE=x.PE) (q:Int):B7 (S.set j y) q=if q=x.PE then some y else B7 S q:=by
 have hm:∀z,z∈S.set j y↔z=y∨z∈S∧z.PE≠x.PE:=fun z=>K5 hu hj y;cases hs:B7 (S.set j y) q with
 | none=>have h0:=Ey.1 hs;have hq:q≠x.PE:=fun e=>h0 y ((hm y).2 (.inl rfl)) (by rw [hy,e]);rw [if_neg hq];symm;rw [Ey];intro z hz e;exact h0 z ((hm z).2 (.inr ⟨hz,by rw [e];exact hq⟩)) e
 | some z=>
   obtain ⟨h1,h2⟩:=IK hs;rcases (hm z).1 h1 with rfl | ⟨hz,hne⟩
   ·rw [if_pos (by rw [←h2,hy])]
   ·rw [if_neg (by rw [←h2];exact hne),←h2,Gk hu hz]
theorem TV {n:NO} (hu:n.DK.DI.SD.Pairwise fun x y=>x.PE<y.PE) {p:Int} {x:SX} (h:B7 n.DK.DI.SD p=some x):∃j,BQ n p=some (j,x)∧n.DK.DI.SD[j]?=some x∧x.PE=p:=by
 obtain ⟨h1,h2⟩:=IK h;cases hs:BQ n p with
 | none=>exact absurd h2 (mF (nL hs) x h1)
 | some q=>obtain ⟨j,y⟩:=q;obtain ⟨_,h4,h5⟩:=dW hs;have:y=x:=fg hu (List.mem_of_getElem? h4) h1 Om;subst this;exact ⟨j,rfl,h4,h2⟩
theorem wX {n:NO} {p:Int} (h:B7 n.DK.DI.SD p=none):BQ n p=none:=by
 cases hs:BQ n p with
 | none=>rfl
 | some q=>obtain ⟨j,y⟩:=q;obtain ⟨_,h4,h5⟩:=dW hs;exact absurd h5 (Ey.1 h y (List.mem_of_getElem? h4))
theorem yI {A:List KE} {k:KE} (h:DC A k.PE=none) (q:Int):DC (A++[k]) q=if q=k.PE then some k.EP else DC A q:=by
 unfold DC at h ⊢;rw [List.find?_append];by_cases e:q=k.PE
 ·rw [if_pos e];subst e;rw [Option.map_eq_none_iff] at h;rw [h];simp
 ·rw [if_neg e];have:([k].find? fun z=>decide (z.PE=q))=none:=by simp;exact fun q'=>e q'.symm
  rw [this,Option.or_none]
theorem wq {n:NO} (h:OkN n) {p:Int} {m:Msg} {v':Vw} (hp:0≤p∧p≠n.DK.DI.ID) (he:m.EP≤65535) (g:GtE (decide (n.DK.DI.ID<p)) (Az n p) m v'):
  (Bc n p m).1=0∧Az (Bc n p m).2.1 p=v'∧∀q,q≠p→Az (Bc n p m).2.1 q=Az n q:=by
 have hu:=h.dr.din.up;cases g with
 | fit x ht hs hq hl=>
   obtain ⟨j,h1,h2,h3⟩:=TV hu hs;have hk:Eb m=true:=by unfold Eb;exact DT ht.1
   have hf:Hg (BQ n p) m=true:=by rw [h1];exact DT hq
   have hl':BF m.KI (xO (BQ n p))=false:=by rw [h1];exact hl
   have eg:Bc n p m=(0,dQ n j x m.KI,[]):=by unfold Bc;rw [if_neg (by rw [ht.2];simp),if_pos hk,if_pos hf,if_neg (by rw [hl'];simp),h1];rfl
   have es:=Yq hu h2 (I9 m.KI x).1;rw [eg];refine ⟨rfl,?_,fun q hq'=>?_⟩
   ·unfold dQ Az;dsimp only;rw [es,if_pos h3.symm]
   ·unfold dQ Az;dsimp only;rw [es,if_neg (by rw [h3];exact hq')]
 | old ht hs=>
   have hk:Eb m=true:=by unfold Eb;exact DT ht.1
   have hf:Hg (BQ n p) m=false:=by
    cases h9:B7 n.DK.DI.SD p with
    | none=>rw [wX h9];rfl
    | some x=>obtain ⟨j,h1,_,_⟩:=TV hu h9;rw [h1];exact DN (hs x h9)
   have eg:Bc n p m=(0,n,[]):=by unfold Bc;rw [if_neg (by rw [ht.2];simp),if_pos hk,if_neg (by rw [hf];simp)]
   rw [eg];exact ⟨rfl,rfl,fun _ _=>rfl⟩
 | new h6 hm hs hkn hA=>
   have hk:Eb m=false:=by unfold Eb;rw [hm.1];decide
   have hlt:p<n.DK.DI.ID:=by simp at h6;omega
   have hB:Fj n ⟨p,m.EP⟩=true:=(aW _ _).2 ⟨Ey.1 hs,hp.1,hlt,hkn,he⟩;have hd:EG (n.AK++[⟨p,m.EP⟩])=true:=by unfold EG;rw [decide_eq_true_eq,List.map_append,List.nodup_append];refine ⟨h.dis,by simp,fun a ha b hb=>?_⟩;obtain ⟨k,hk',rfl⟩:=List.mem_map.1 ha;simp at hb;rw [hb];exact xG.1 hA k hk'
   have eg:Bc n p m=(0,LT n ⟨p,m.EP⟩,[]):=by unfold Bc;rw [if_neg (by rw [hm.2];simp),if_neg (by rw [hk];simp),if_pos hm.1,if_pos ⟨hB,hd⟩]
   have ea:=yI (k:=⟨p,m.EP⟩) hA;rw [eg];refine ⟨rfl,?_,fun q hq'=>?_⟩
   ·unfold LT Az;dsimp only;rw [ea,if_pos rfl,show B7 n.DK.DI.SD p=none from hs]
   ·unfold LT Az;dsimp only;rw [ea,if_neg hq']
 | known x h6 hm hs hq h8 hC=>
   obtain ⟨j,h1,h2,h3⟩:=TV hu hs;have hk:Eb m=false:=by unfold Eb;rw [hm.1];decide
   have hi:E0 (BQ n p) m 1=true:=by rw [h1];unfold E0;simp [hq,h8]
   have htl':p∈n.TL:=by simpa [Az] using hC
   have eg:Bc n p m=(0,cM n j x,[⟨6,n.DK.DI.ID,0,p,[]⟩]):=by unfold Bc;rw [if_neg (by rw [hm.2];simp),if_neg (by rw [hk];simp),if_neg (by rw [hm.1];decide),if_pos hm.1,if_pos ⟨hi,htl'⟩,h1];rfl
   have es:=Yq hu h2 (y:= {x with SS:=0}) rfl;have hw:∀q,q∈(Bm n.TL).filter (fun z=>!decide (z∈ [x.PE]))↔q∈n.TL∧q≠p:=fun q=>by rw [List.mem_filter,(DO n.TL).2];simp [h3]
   rw [eg];refine ⟨rfl,?_,fun q hq'=>?_⟩
   ·unfold cM Az;dsimp only;rw [es,if_pos h3.symm,DN (fun e=>((hw p).1 e).2 rfl)]
   ·unfold cM Az;dsimp only;rw [es,if_neg (by rw [h3];exact hq'),decide_eq_decide.2 ((hw q).trans ⟨fun e=>e.1,fun e=>⟨e,hq'⟩⟩)]
 | close x h6 hm hs hq h8=>
   obtain ⟨j,h1,h2,h3⟩:=TV hu hs;have hk:Eb m=false:=by unfold Eb;rw [hm.1];decide
   have hi:E0 (BQ n p) m 0=true:=by rw [h1];unfold E0;simp [hq,h8]
   have hlt:p<n.DK.DI.ID:=by simp at h6;omega
   have eg:Bc n p m=(0,Bp n j x,Ez n p):=by unfold Bc;rw [if_neg (by rw [hm.2];simp),if_neg (by rw [hk];simp),if_neg (by rw [hm.1];decide),if_neg (by rw [hm.1];decide),if_pos hm.1,if_pos ⟨hi,hlt⟩,h1];rfl
   have es:=Yq hu h2 (y:= {x with SS:=2}) rfl;rw [eg];have esd:(Bp n j x).DK.DI.SD=n.DK.DI.SD.set j {x with SS:=2}:=by unfold Bp;split<;>rfl
   refine ⟨rfl,?_,fun q hq'=>?_⟩
   ·unfold Az;dsimp only;rw [esd,es,if_pos h3.symm];rfl
   ·unfold Az;dsimp only;rw [esd,es,if_neg (by rw [h3];exact hq')];rfl
 | closed x h6 hm hs hq h8=>
   obtain ⟨j,h1,h2,h3⟩:=TV hu hs;have hk:Eb m=false:=by unfold Eb;rw [hm.1];decide
   have hi:E0 (BQ n p) m 3=true:=by rw [h1];unfold E0;simp [hq,h8]
   have eg:Bc n p m=(0,I3 n p,[⟨8,n.DK.DI.ID,0,p,[]⟩]):=by unfold Bc;rw [if_neg (by rw [hm.2];simp),if_neg (by rw [hk];simp),if_neg (by rw [hm.1];decide),if_neg (by rw [hm.1];decide),if_neg (by rw [hm.1];decide),if_pos hm.1,if_pos hi]
   rw [eg];refine ⟨rfl,?_,fun q hq'=>?_⟩
   ·unfold I3 Az;dsimp only;rw [Ey.2 (fun z hz=>by simpa using (List.mem_filter.1 hz).2)]
   ·unfold I3 Az;dsimp only;rw [wn hu (p:=q) fun z hz=>by rw [List.mem_filter];simp [hz,hq']]
def me (id:Int) (a:Do) (q:Int) (v v':Vw):Prop:=v'=v∨(id<q∧(a.KI=4∧a.PE=q)∧v.sd=none∧∃x,x.SS=1∧cu x∧x.EP=v.kn+1∧v'=⟨some x,v.kn+1,false,v.ak⟩)∨((id<q∧a.PE=q)∧∃x,v.sd=some x∧x.SS=0∧v'=⟨some {x with SS:=2},v.kn,v.tl,v.ak⟩)
theorem cm {n:NO} (h:OkN n) {a:Do} (h0:(B9 n a).1=0) (q:Int):me n.DK.DI.ID a q (Az n q) (Az (B9 n a).2.1 q):=by
 have hu:=h.dr.din.up;revert h0;unfold B9;split
 ·intro h0;left;unfold CF
  (repeat' split)<;>rfl
 ·split
  ·rename_i h8;split
   ·rename_i hp;cases h6:C7 n.DK.DI.SD a.PE with
    | some j=>intro h0;simp at h0
    | none=>
      dsimp only;split
      ·intro _;have hn:=mF h6;have es:B7 (Cy n.DK.DI.SD (addS n a.PE)) q=if q=a.PE then some (addS n a.PE) else B7 n.DK.DI.SD q:=kZ hn q
       have ek:BR (D9 n.KN (addS n a.PE).PE (addS n a.PE).EP) q=if q=a.PE then BR n.KN a.PE+1 else BR n.KN q:=g9 h.kup a.PE (BR n.KN a.PE+1) q
       by_cases e:q=a.PE
       ·subst e;right;left;refine ⟨hp.1,⟨h8,rfl⟩,Ey.2 hn,addS n a.PE,rfl,⟨rfl,rfl,rfl,rfl⟩,rfl,?_⟩;unfold ct Az;dsimp only;rw [es,ek,if_pos rfl,if_pos rfl,DN (fun ht=>by obtain ⟨x,hx,_,e⟩:=h.tin a.PE ht;exact hn x hx e)]
       ·left;unfold ct Az;dsimp only;rw [es,ek,if_neg e,if_neg e]
      ·intro h0;simp at h0
   ·intro h0;simp at h0
  ·split
   ·split
    ·rename_i hp;cases h6:C7 n.DK.DI.SD a.PE with
     | none=>intro h0;simp at h0
     | some j=>
       obtain ⟨x,hx,hw⟩:=Lu h6;dsimp only;rw [hx];dsimp only;split
       ·rename_i h9;intro _;have es:=Yq hu hx (y:= {x with SS:=2}) rfl q;have esd:(Bp n j x).DK.DI.SD=n.DK.DI.SD.set j {x with SS:=2}:=by unfold Bp;split<;>rfl
        by_cases e:q=x.PE
        ·right;right;refine ⟨Om,x,?_,h9,?_⟩
         ·rw [e];exact Gk hu (List.mem_of_getElem? hx)
         ·unfold Az;dsimp only;rw [esd,es,if_pos e];rfl
        ·left;unfold Az;dsimp only;rw [esd,es,if_neg e];rfl
       ·intro h0;simp at h0
    ·intro h0;simp at h0
   ·intro h0;simp at h0
theorem LsE.still {lo:Bool} {v v':Vw} {o:List Msg} (s:LsE lo v o v') (h:v.sd=none∧v.ak=none):o=[]∧v'.sd=none∧v'.ak=none:=by
 induction s with
 | nil v=>exact ⟨rfl,h⟩
 | fire v x x' o hs=>rw [h.1] at hs;simp at hs
 | tell v x _ hs=>rw [h.1] at hs;simp at hs
 | leave v x _ hs=>rw [h.1] at hs;simp at hs
 | drop v x _ hs=>rw [h.1] at hs;simp at hs
 | answer v x e _ _ hk=>rw [h.2] at hk;simp at hk
 | trans v v' v'' o p _ _ ih1 ih2=>obtain ⟨a1,a2⟩:=ih1 h;obtain ⟨b1,b2⟩:=ih2 a2;exact ⟨by rw [a1,b1];rfl,b2⟩
def CQ (M:List ML) (a b:Int):List Msg:=(M.filter fun m=>decide (m.From=a)&&decide (m.To=b)).map (·.Msg)
theorem gE (M L:List ML) (a b:Int):CQ (M++L) a b=CQ M a b++CQ L a b:=by simp [CQ]
theorem gR {L:List ML} {k:Int} (h:∀m∈L,m.From=k) (a b:Int):CQ L a b=if a=k then Ce b L else []:=by
 unfold CQ Ce;by_cases e:a=k
 ·rw [if_pos e];congr 1;apply List.filter_congr;intro m hm;rw [h m hm,e];simp
 ·rw [if_neg e,List.filter_eq_nil_iff.2 (fun m hm=>by rw [h m hm];simp;intro e';exact absurd e'.symm e)];rfl
def PI (N:List NO) (M:List ML):Prop:=∀(i k:Nat) (a b:NO),i<k→N[i]?=some a→N[k]?=some b→EI (Az a k) (Az b i) (CQ M i k) (CQ M k i)
def YR (N:List NO):Prop:=∀(i:Nat) (a:NO),N[i]?=some a→∀q:Int,¬(0≤q∧q<N.length)→(Az a q).sd=none∧(Az a q).ak=none
structure HI (h:HL):Prop where
 ok:HallOK h
 pi:PI h.NS h.ML
 no:YR h.NS
theorem Fw {α:Type} {N:List α} {k:Nat} {n:α} (hn:N[k]?=some n) (m:α) (i:Nat):(N.set k m)[i]?=if i=k then some m else N[i]?:=by
 have hlt:=(List.getElem?_eq_some_iff.1 hn).1;rw [List.getElem?_set];by_cases e:k=i
 ·subst e;simp [hlt]
 ·rw [if_neg e,if_neg (fun q=>e q.symm)]
theorem PI.move {N:List NO} {M:List ML} (h:PI N M) {k:Nat} {n m:NO} {L:List ML} (hn:N[k]?=some n) (E:∀x∈L,x.From=(k:Int)) (hs:∀q:Int,LsE (decide ((k:Int)<q)) (Az n q) (Ce q L) (Az m q)):PI (N.set k m) (M++L):=by
 intro i j a b h6 ha hb;rw [Fw hn] at ha hb;rw [gE,gE,gR E,gR E];by_cases e1:i=k
 ·subst e1;rw [if_pos rfl] at ha;cases ha;rw [if_neg Om] at hb;rw [if_pos rfl,if_neg Om,List.append_nil];have h1:=h i j n b h6 hn hb;have h2:=hs j;rw [DT Om] at h2;exact h1.lo h2
 ·rw [if_neg e1] at ha;by_cases e2:j=k
  ·subst e2;rw [if_pos rfl] at hb;cases hb;rw [if_neg Om,if_pos rfl,List.append_nil];have h1:=h i j a n h6 ha hn;have h2:=hs i;rw [DN Om] at h2;exact h1.hi h2
  ·rw [if_neg e2] at hb;rw [if_neg Om,if_neg Om,List.append_nil,List.append_nil];exact h i j a b h6 ha hb
theorem PI.rest {N:List NO} {M:List ML} {k:Nat} {n m:NO} (hn:N[k]?=some n) (h:PI (N.set k m) M) (hm:OkN m) (h6:m.DK.DI.ID=k) (V:List EV):PI (N.set k (BE m [] V).1) (M++(BE m [] V).2.1):=by have h1:=h.move (k:=k) (n:=m) (m:=(BE m [] V).1) (L:=(BE m [] V).2.1) (by rw [Fw hn,if_pos rfl]) (fun x hx=>by rw [←h6];exact (xD hm x hx).1) (fun q=>by have:=l7 hm V q;rw [h6] at this;exact this);rw [List.set_set] at h1;exact h1
theorem EI.ep {a b:Vw} {ab ba:List Msg} (h:EI a b ab ba):(∀m∈ab,m.EP≤a.kn)∧∀m∈ba,m.EP≤a.kn:=by
 have le1:∀ {l:List Msg},Bq (a.kn-1) l→∀m∈l,m.EP≤a.kn:=fun hl m hm=>by have:=(hl m hm).2;omega
 have le0:∀ {l:List Msg},Bq a.kn l→∀m∈l,m.EP≤a.kn:=fun hl m hm=>(hl m hm).2;cases h with
 | no ha hb hk hle h1 h2=>exact ⟨le0 h1,le0 h2⟩
 | op x ha hx hn he ht hb hk hlt h1 h2=>exact ⟨le1 h1,le1 h2⟩
 | nw x u ha hx hn he ht hb hk hlt hab h1 h2=>
   refine ⟨fun m hm=>?_,le1 h2⟩;rw [hab,List.mem_append,List.mem_singleton] at hm;rcases hm with hm | rfl
   ·exact le1 h1 m hm
   ·exact Int.le_refl _
 | sk x ha hx hn he ht hb hk hlt h1 h2=>exact ⟨le1 h1,le1 h2⟩
 | kw x y u w ha hx hn he ht hb hy hf hk hkn hba h1 h2 h3 ho=>
   refine ⟨le1 h3,fun m hm=>?_⟩;rw [hba,List.mem_append,List.mem_cons] at hm;rcases hm with hm | rfl | hm
   ·exact le1 h1 m hm
   ·exact Int.le_refl _
   ·exact le0 h2 m hm
 | lv x y ha hx he hb hy hf hk hkn h1 h2 ho=>exact ⟨le0 h1,le0 h2⟩
 | cl x y u w ha hx he hb hy hf hk hkn hab h1 h3 h2 ho=>
   refine ⟨fun m hm=>?_,le0 h2⟩;rw [hab,List.mem_append,List.mem_cons] at hm;rcases hm with hm | rfl | hm
   ·exact le0 h1 m hm
   ·exact Int.le_refl _
   ·exact le0 h3 m hm
 | lg x y ha hx he hb hy hf hk hkn h1 h2 ho=>exact ⟨le0 h1,le0 h2⟩
 | cd x u ha hx he hb hk hkn hba h1 h2 ho=>
   refine ⟨le0 h1,fun m hm=>?_⟩;rw [hba,List.mem_append,List.mem_singleton] at hm;rcases hm with hm | rfl
   ·exact le0 h2 m hm
   ·exact Int.le_refl _
theorem PI.both {N:List NO} {M:List ML} (h:PI N M) {i k:Nat} {a b:NO} {x y:SX} (h6:i≠k) (ha:N[i]?=some a) (hb:N[k]?=some b) (hx:B7 a.DK.DI.SD k=some x) (hy:B7 b.DK.DI.SD i=some y):
  x.EP=y.EP∧∀q,Hk q→bn (BF q x)+bn (BF q y)+CY q x.EP (CQ M i k)+CY q x.EP (CQ M k i)=1:=by
 rcases Nat.lt_or_gt_of_ne h6 with hlt | hlt
 ·exact (h i k a b hlt ha hb).one hx hy
 ·obtain ⟨e,h1⟩:=(h k i b a hlt hb ha).one hy hx;refine ⟨e.symm,fun q hq=>?_⟩;have:=h1 q hq;rw [e] at this;omega
theorem xJ {M:List ML} {a b:Int} {i:Nat} (hi:(M.findIdx? fun m=>decide (m.From=a)&&decide (m.To=b))=some i) {m:ML} (hm:M[i]?=some m):
  m.From=a∧m.To=b∧CQ M a b=m.Msg::CQ (M.take i++M.drop (i+1)) a b∧∀c d:Int,¬(c=a∧d=b)→CQ M c d=CQ (M.take i++M.drop (i+1)) c d:=by
 rw [List.findIdx?_eq_some_iff_getElem] at hi;obtain ⟨h6,hp,hq⟩:=hi;have em:M[i]=m:=by rw [List.getElem?_eq_getElem h6] at hm;exact Option.some.inj hm
 rw [em] at hp;simp only [Bool.and_eq_true,decide_eq_true_eq] at hp;have eM:M=M.take i++m::M.drop (i+1):=by rw [←em,List.getElem_cons_drop,List.take_append_drop]
 have e0:∀c d,CQ M c d=CQ (M.take i) c d++CQ (m::M.drop (i+1)) c d:=fun c d=>by rw [←gE,←eM]
 have e1:∀c d,CQ (m::M.drop (i+1)) c d=(if m.From=c∧m.To=d then [m.Msg] else [])++CQ (M.drop (i+1)) c d:=fun c d=>by
  unfold CQ;rw [List.filter_cons];by_cases e:m.From=c∧m.To=d
  ·simp [e]
  ·rw [if_neg (by simpa using e),if_neg e];rfl
 have e2:CQ (M.take i) a b=[]:=by
  unfold CQ;rw [List.filter_eq_nil_iff.2]
  ·rfl
  ·intro x hx;obtain ⟨j,hj⟩:=List.mem_iff_getElem?.1 hx;rw [List.getElem?_take] at hj;split at hj
   ·rename_i h8;have:=hq j h8;rw [List.getElem?_eq_getElem Om] at hj;rw [←Option.some.inj hj];simpa using this
   ·simp at hj
 refine ⟨hp.1,hp.2,?_,fun c d h9=>?_⟩
 ·rw [e0,e1,if_pos hp,e2,gE,e2];rfl
 ·rw [e0,e1,if_neg (fun e=>h9 ⟨e.1.symm.trans hp.1,e.2.symm.trans hp.2⟩),gE];rfl
theorem yJ {n:NO} (h:OkN n) (V:List EV):(BE n [] V).1.DK.DI.ID=n.DK.DI.ID:=fu (P:=fun m _ _=>m.DK.DI.ID=n.DK.DI.ID) (fun m _ _ _ hP=>(gz m).trans hP) h rfl
theorem HI.rest {h:HL} {M:List ML} {k:Nat} {n m:NO} {V:List EV} (hk:HallOK h) (hB:YR h.NS) (hn:h.NS[k]?=some n) (hC:PI (h.NS.set k m) M) (hm:OkN m) (h9:m.DK.DI.ID=k)
  (hw:∀q:Int,¬(0≤q∧q<h.NS.length)→(Az m q).sd=none∧(Az m q).ak=none) (hM:∀x∈M,x∈h.ML) (hl:h.ML.length+6000≤1000000) (hD:M.length≤h.ML.length):
  HI ⟨h.NS.set k (BE m [] V).1,M++(BE m [] V).2.1⟩∧(BE m [] V).2.1.length≤6000:=by
 have hlt:=(List.getElem?_eq_some_iff.1 hn).1;have hA:=(nR hm [] V).1;simp only [List.length_nil] at hA;have h6:=fun q=>l7 hm V q;refine ⟨⟨⟨fun i x hx=>?_,by dsimp only;rw [List.length_set];exact hk.len,fun x hx=>?_,by dsimp only;rw [List.length_append];omega⟩,hC.rest hn hm h9 V,fun i x hx q hq=>?_⟩,Om⟩
 ·dsimp only at hx;rw [Fw hn] at hx;split at hx
  ·rename_i e;cases hx;exact ⟨by rw [yJ hm,h9,e],yt hm [] V⟩
  ·exact hk.nodes i x hx
 ·dsimp only at hx ⊢;rw [List.length_set];rcases List.mem_append.1 hx with hx | hx
  ·exact hk.mail x (hM x hx)
  ·obtain ⟨h1,h2,_⟩:=xD hm x hx;have h3:0≤x.To∧x.To<h.NS.length:=Classical.byContradiction fun hq=>by have:=((h6 x.To).still (hw x.To hq)).1;have h8:x.Msg∈Ce x.To (BE m [] V).2.1:=List.mem_map.2 ⟨x,List.mem_filter.2 ⟨hx,by simp⟩,rfl⟩;rw [this] at h8;simp at h8
   omega
 ·dsimp only at hx hq;rw [List.length_set] at hq;rw [Fw hn] at hx;split at hx
  ·cases hx;exact ((h6 q).still (hw q hq)).2
  ·exact hB i x hx q hq
theorem PI.act {N:List NO} {M:List ML} (h:PI N M) {k:Nat} {n:NO} {a:Do} (hn:N[k]?=some n) (hok:OkN n) (h9:n.DK.DI.ID=k) (h0:(B9 n a).1=0):PI (N.set k (B9 n a).2.1) M:=by
 have h6:=fun q=>cm hok h0 q;rw [h9] at h6;intro i j x y h8 hx hy;rw [Fw hn] at hx hy;by_cases e1:i=k
 ·subst e1;rw [if_pos rfl] at hx;cases hx;rw [if_neg Om] at hy;have hE:=h i j n y h8 hn hy;rcases h6 j with e | ⟨_,_,hs,z,hz,hw,hA,e⟩ | ⟨_,z,hs,hz,e⟩
  ·rw [e];exact hE
  ·rw [e];exact hE.add hs ⟨hz,hw,hA⟩
  ·rw [e];exact hE.shut hs hz
 ·rw [if_neg e1] at hx;by_cases e2:j=k
  ·subst e2;rw [if_pos rfl] at hy;cases hy;have hE:=h i j x n h8 hx hn;rcases h6 i with e | ⟨hlt,_⟩ | ⟨hlt,_⟩
   ·rw [e];exact hE
   ·omega
   ·omega
  ·rw [if_neg e2] at hy;exact h i j x y h8 hx hy
theorem HI.act {h:HL} (hh:HI h) {k:Nat} {n:NO} {a:Do} (hn:h.NS[k]?=some n) (E:a.KI=4→0≤a.PE∧a.PE<h.NS.length) (h0:(B9 n a).1=0) (hl:h.ML.length+6000≤1000000):
  HI ⟨h.NS.set k (BE (B9 n a).2.1 [] (B9 n a).2.2).1,h.ML++(BE (B9 n a).2.1 [] (B9 n a).2.2).2.1⟩∧(BE (B9 n a).2.1 [] (B9 n a).2.2).2.1.length≤6000:=by
 obtain ⟨h8,hok⟩:=hh.ok.nodes k n hn;obtain ⟨h1,h2,_,_,_,h6⟩:=Pa hok h0;have h9:=fun q=>cm hok h0 q;rw [h8] at h9;refine HI.rest hh.ok hh.no hn (hh.pi.act hn hok h8 h0) h1 (h2.trans h8) (fun q hq=>?_) (fun _ hx=>hx) hl (Nat.le_refl _)
 ·have h0':=hh.no k n hn q hq;rcases h9 q with e | ⟨_,⟨h4,hp⟩,_⟩ | ⟨_,z,hs,_⟩
  ·rw [e];exact h0'
  ·exact absurd (hp ▸ E h4) hq
  ·rw [h0'.1] at hs;simp at hs
theorem HI.get1 {h:HL} (hh:HI h) {a:Int} {k i:Nat} {n:NO} {m:ML} (hn:h.NS[k]?=some n) (hi:(h.ML.findIdx? fun m=>decide (m.From=a)&&decide (m.To=(k:Int)))=some i) (hm:h.ML[i]?=some m):
  ∃s:Nat,a=s∧s<h.NS.length∧s≠k∧∃v',GtE (decide ((k:Int)<s)) (Az n s) m.Msg v'∧(Bc n a m.Msg).1=0∧Az (Bc n a m.Msg).2.1 s=v'∧(∀q:Int,q≠s→Az (Bc n a m.Msg).2.1 q=Az n q)∧PI (h.NS.set k (Bc n a m.Msg).2.1) (h.ML.take i++h.ML.drop (i+1)):=by
 obtain ⟨hA,hok⟩:=hh.ok.nodes k n hn;obtain ⟨hf,ht,e1,e2⟩:=xJ hi hm;obtain ⟨m1,m2,m3,m4,m5⟩:=hh.ok.mail m (List.mem_of_getElem? hm);obtain ⟨s,hs⟩:∃s:Nat,a=s:=⟨a.toNat,Om⟩
 subst hs;obtain ⟨b,hb⟩:∃b,h.NS[s]?=some b:=⟨_,List.getElem?_eq_getElem Om⟩
 obtain ⟨hD,h9⟩:=hh.ok.nodes s b hb;have hw:s≠k:=by omega
 have Ap:∃v',GtE (decide ((k:Int)<s)) (Az n s) m.Msg v'∧m.Msg.EP≤65535∧(∀n':NO,Az n' s=v'→(∀q:Int,q≠s→Az n' q=Az n q)→PI (h.NS.set k n') (h.ML.take i++h.ML.drop (i+1))):=by
  have rest:∀(v':Vw) (n':NO),Az n' s=v'→(∀q:Int,q≠s→Az n' q=Az n q)→
    (s<k→EI (Az b k) v' (CQ (h.ML.take i++h.ML.drop (i+1)) s k) (CQ (h.ML.take i++h.ML.drop (i+1)) k s))→
    (k<s→EI v' (Az b k) (CQ (h.ML.take i++h.ML.drop (i+1)) k s) (CQ (h.ML.take i++h.ML.drop (i+1)) s k))→PI (h.NS.set k n') (h.ML.take i++h.ML.drop (i+1)):=by
   intro v' n' hv hq c1 c2 x y u w h6 hx hy;rw [Fw hn] at hx hy;by_cases ex:x=k
   ·subst ex;rw [if_pos rfl] at hx;cases hx;rw [if_neg Om] at hy;by_cases ey:y=s
    ·subst ey;rw [hb] at hy;cases hy;rw [hv];exact c2 h6
    ·rw [hq y Om,←e2 x y Om,←e2 y x Om];exact hh.pi x y n w h6 hn hy
   ·rw [if_neg ex] at hx;by_cases ey:y=k
    ·subst ey;rw [if_pos rfl] at hy;cases hy;by_cases ex2:x=s
     ·subst ex2;rw [hb] at hx;cases hx;rw [hv];exact c1 h6
     ·rw [hq x Om,←e2 x y Om,←e2 y x Om];exact hh.pi x y u n h6 hx hn
    ·rw [if_neg ey] at hy;rw [←e2 x y Om,←e2 y x Om];exact hh.pi x y u w h6 hx hy
  rcases Nat.lt_or_gt_of_ne hw with hlt | hlt
  ·have hE:=hh.pi s k b n hlt hb hn;have h8:=hE.ep.1;rw [e1] at hE h8;rw [e2 k s Om] at hE;obtain ⟨v',hg,hE'⟩:=hE.getHi;refine ⟨v',by rw [DN Om];exact hg,?_,fun n' hv hq=>rest v' n' hv hq (fun _=>hE') (fun hc=>Om)⟩;have:=h8 m.Msg (by simp);have:=(Pp h9.kup (fun x hx=>(h9.kr x hx).2.2) k).2;exact Int.le_trans ‹m.Msg.EP≤_› this
  ·have hE:=hh.pi k s n b hlt hn hb;have h8:=hE.ep.2;rw [e1] at hE h8;rw [e2 k s Om] at hE;obtain ⟨v',hg,hE'⟩:=hE.getLo;refine ⟨v',by rw [DT Om];exact hg,?_,fun n' hv hq=>rest v' n' hv hq (fun hc=>Om) (fun _=>hE')⟩;have:=h8 m.Msg (by simp);have:=(Pp hok.kup (fun x hx=>(hok.kr x hx).2.2) s).2;exact Int.le_trans ‹m.Msg.EP≤_› this
 obtain ⟨v',hg,hB,hC⟩:=Ap;have hg':=hg;rw [←hA] at hg;obtain ⟨g0,g1,g2⟩:=wq hok (p:=s) Om hB hg;exact ⟨s,rfl,Om,hw,v',hg',g0,g1,g2,hC _ g1 g2⟩
theorem HI.get {h:HL} (hh:HI h) {a:Int} {k i:Nat} {n:NO} {m:ML} (hn:h.NS[k]?=some n) (hi:(h.ML.findIdx? fun m=>decide (m.From=a)&&decide (m.To=(k:Int)))=some i) (hm:h.ML[i]?=some m) (hl:h.ML.length+6000≤1000000):
  (Bc n a m.Msg).1=0∧HI ⟨h.NS.set k (BE (Bc n a m.Msg).2.1 [] (Bc n a m.Msg).2.2).1,(h.ML.take i++h.ML.drop (i+1))++(BE (Bc n a m.Msg).2.1 [] (Bc n a m.Msg).2.2).2.1⟩∧
    (BE (Bc n a m.Msg).2.1 [] (Bc n a m.Msg).2.2).2.1.length≤6000:=by
 obtain ⟨h8,hok⟩:=hh.ok.nodes k n hn;obtain ⟨s,rfl,hs,_,v',_,g0,g1,g2,h9⟩:=hh.get1 hn hi hm;obtain ⟨h1,h2,_,h6⟩:=Pq hok g0;refine ⟨g0,?_⟩;refine HI.rest hh.ok hh.no hn h9 h1 (h2.trans h8) (fun q hq=>?_) (fun x hx=>?_) hl (by simp;omega)
 ·rw [g2 q Om];exact hh.no k n hn q hq
 ·rcases List.mem_append.1 hx with hx | hx
  ·exact List.mem_of_mem_take hx
  ·exact List.mem_of_mem_drop hx
theorem Pr {d:DK} (hg:BZ d) {D:DI} (E:∀x∈D.SD,x.PE∈d.NE→x.BO=true∨∃y∈d.DI.SD,y.PE=x.PE∧y.BO=x.BO):BZ ⟨D,d.TH,d.NE⟩:=fun h2 x hx hn=>by
 rcases E x hx hn with e | ⟨y,hy,e1,e2⟩
 ·exact e
 ·rw [←e2];exact hg h2 y hy (by rw [e1];exact hn)
theorem Zy {n:NO} (h:OkN n) (hg:BZ n.DK) {j:Nat} {x y:SX} (hx:n.DK.DI.SD[j]?=some x) (hp:y.PE=x.PE) (hb:x.BO=true→y.BO=true) (D:DI) (E:D.SD=n.DK.DI.SD.set j y):BZ ⟨D,n.DK.TH,n.DK.NE⟩:=fun h2 z hz hn=>by
 dsimp only at hz hn;rw [E] at hz;rcases (K5 h.dr.din.up hx y).1 hz with rfl | ⟨hz,_⟩
 ·exact hb (hg h2 x (List.mem_of_getElem? hx) (by rw [←hp];exact hn))
 ·exact hg h2 z hz hn
theorem fC {n:NO} (h:OkN n) (hg:BZ n.DK) {j:Nat} {x:SX} (hx:n.DK.DI.SD[j]?=some x):BZ (Bp n j x).DK:=by
 unfold Bp;dsimp only;split
 ·intro h2;simp at h2
 ·exact Zy h hg hx (y:= {x with SS:=2}) rfl (fun e=>e) _ rfl
theorem xK {n:NO} (h:OkN n) (hg:BZ n.DK) (a:Do):BZ (B9 n a).2.1.DK:=by
 have hc:∀b,BZ (dO n b).DK:=fun b h2=>by simp [dO] at h2
 unfold B9;split
 ·unfold CF
  (repeat' split)<;>first | exact hg | exact hc _
 ·split
  ·split
   ·cases h6:C7 n.DK.DI.SD a.PE with
    | some j=>exact hg
    | none=>
      dsimp only;split
      ·refine Pr hg fun x hx _=>?_;have hx:x∈Cy n.DK.DI.SD (addS n a.PE):=hx;rcases Fk.1 hx with rfl | hx
       ·exact .inl rfl
       ·exact .inr ⟨x,hx,rfl,rfl⟩
      ·exact hg
   ·exact hg
  ·split
   ·split
    ·cases h6:C7 n.DK.DI.SD a.PE with
     | none=>exact hg
     | some j=>
       obtain ⟨x,hx,_⟩:=Lu h6;dsimp only;rw [hx];dsimp only;split
       ·exact fC h hg hx
       ·exact hg
    ·exact hg
   ·exact hg
theorem fz {n:NO} (h:OkN n) (hg:BZ n.DK) (p:Int) (m:Msg):BZ (Bc n p m).2.1.DK:=by
 have h6:∀ {j:Nat} {x:SX},BQ n p=some (j,x)→n.DK.DI.SD[j]?=some x:=fun hs=>(dW hs).2.1;unfold Bc;split
 ·exact hg
 ·split
  ·split
   ·rename_i hf;split
    ·exact hg
    ·cases hs:BQ n p with
     | none=>rw [hs] at hf;simp [Hg] at hf
     | some q=>
       obtain ⟨j,x⟩:=q;refine Zy h hg (h6 hs) (y:=CP m.KI x) (I9 _ _).1 (fun e=>?_) _ rfl;unfold CP
       (repeat' split)<;>first | exact e | rfl
   ·exact hg
  ·split
   ·split<;>exact hg
   ·split
    ·split
     ·rename_i hi;obtain ⟨j,x,hs,_⟩:=Gx hi.1;rw [hs];exact Zy h hg (h6 hs) (y:= {x with SS:=0}) rfl (fun e=>e) _ rfl
     ·exact hg
    ·split
     ·split
      ·rename_i hi;obtain ⟨j,x,hs,_⟩:=Gx hi.1;rw [hs];exact fC h hg (h6 hs)
      ·exact hg
     ·split
      ·split
       ·exact Pr hg fun x hx _=>.inr ⟨x,(List.mem_filter.1 hx).1,rfl,rfl⟩
       ·exact hg
      ·exact hg
theorem fA {n:NO} (h:OkN n) (hg:BZ n.DK):BZ (AN n).DK:=by
 have h1:BZ (AZ n).DK:=by
  unfold AZ;split
  ·exact hg
  ·refine Pr hg fun x hx hn=>?_;rcases Pc.1 hx with hx | ⟨k,hk,rfl⟩
   ·exact .inr ⟨x,hx,rfl,rfl⟩
   ·obtain ⟨z,hz,e⟩:=h.dr.has _ hn;exact absurd e ((h.may k hk).1 z hz)
 have h2:BZ (Bj n).DK:=by
  have:BZ (BM (AZ n)).DK:=by
   unfold BM CJ;dsimp only;split
   ·split
    ·intro h2;simp at h2
    ·exact h1
   ·exact h1
  exact this
 have h3:BZ (Aw n).DK:=uw h2;have h4:BZ (CI (AL (Aw n))).DK:=h3;unfold AN br;refine Pr h4 fun x hx _=>?_;obtain ⟨y,hy,hc⟩:=Tp hx;rcases hc with ⟨rfl,_⟩ | ⟨_,_,rfl⟩
 ·exact .inr ⟨x,hy,rfl,rfl⟩
 ·exact .inr ⟨y,hy,rfl,rfl⟩
theorem fB {n:NO} (h:OkN n) (hg:BZ n.DK) (V:List EV):BZ (BE n [] V).1.DK:=fu (P:=fun m _ _=>BZ m.DK) (fun _ _ _ hm hP=>fA hm hP) h hg
def bC (h:HL):Prop:=∀n∈h.NS,BZ n.DK
theorem bC.set {h:HL} (hg:bC h) {k:Nat} {m:NO} (hm:BZ m.DK) (M:List ML):bC ⟨h.NS.set k m,M⟩:=fun n hn=>by
 rcases List.mem_or_eq_of_mem_set hn with hn | rfl
 ·exact hg n hn
 ·exact hm
def UK (n:NO) (q:Int):Prop:=∃s l,n.BK.SE=s::l∧s.SS=1∧q∈s.NE
theorem jI {n:NO} (h:OkN n) (hg:BZ n.DK) {q:Int} (hq:UK n q):∃x,B7 n.DK.DI.SD q=some x∧x.BO=true:=by obtain ⟨s,l,hs,h1,hn⟩:=hq;have h2:n.DK.TH=2:=h.th.2 ((F8 n).2 ⟨s,l,hs,h1⟩);obtain ⟨s',l',hs',_,he⟩:=h.drinks h2;rw [hs] at hs';obtain ⟨rfl,rfl⟩:=List.cons.inj hs';rw [he] at hn;obtain ⟨x,hx,e⟩:=h.dr.has q hn;refine ⟨x,?_,hg h2 x hx (by rw [e];exact hn)⟩;rw [←e];exact Gk h.dr.din.up hx
theorem HI.apart {h:HL} (hh:HI h) (hg:bC h) {i k:Nat} {a b:NO} (h6:i<k) (ha:h.NS[i]?=some a) (hb:h.NS[k]?=some b) (h1:UK a k) (h2:UK b i):False:=by obtain ⟨x,hx,bx⟩:=jI (hh.ok.nodes i a ha).2 (hg a (List.mem_of_getElem? ha)) h1;obtain ⟨y,hy,by'⟩:=jI (hh.ok.nodes k b hb).2 (hg b (List.mem_of_getElem? hb)) h2;have:=(hh.pi i k a b h6 ha hb).one hx hy;have:=this.2 3 (.inr (.inr (.inl rfl)));simp [BF,bx,by',bn] at this;omega
theorem ZB {g:Graph} {k:Nat} {n:NO} (h:(DH g).NS[k]?=some n):(k:Int)<g.N∧n=Dn ⟨FY g (DX g) k,0,[]⟩:=by simp only [DH,Hc,K2,K8,List.getElem?_map,Option.map_eq_some_iff] at h;obtain ⟨d,⟨e,⟨a,ha,rfl⟩,rfl⟩,rfl⟩:=h;rw [List.getElem?_eq_some_iff] at ha;obtain ⟨hl,ha⟩:=ha;rw [List.getElem_range] at ha;simp only [List.length_range] at hl;subst ha;exact ⟨Om,rfl⟩
theorem l3 (c:List Int) (k:Int):∀(l:List Int) (p:Int),B7 (l.map (Dq c k)) p=if p∈l then some (Dq c k p) else none
 | [],p=>rfl
 | b::l,p=>by
   rw [List.map_cons,K3,l3 c k l p];by_cases e:b=p
   ·subst e;rw [if_pos (show (Dq c k b).PE=b from rfl),if_pos (by simp)]
   ·rw [if_neg (show ¬(Dq c k b).PE=p from e)];by_cases h:p∈l
    ·rw [if_pos h,if_pos (List.mem_cons_of_mem _ h)]
    ·rw [if_neg h,if_neg (by simp;exact ⟨fun q=>e q.symm,h⟩)]
theorem cY {g:Graph} (hg:Bd g=true) (E:g.N≤24) {k:Nat} {n:NO} (h:(DH g).NS[k]?=some n) (p:Int):
  Az n p=if p∈Be g k then ⟨some (Dq (DX g) k p),1,false,none⟩ else ⟨none,0,false,none⟩:=by
 have hok:=((fG hg E).nodes k n h).2;obtain ⟨hk,rfl⟩:=ZB h;unfold Az;have e1:B7 (Dn ⟨FY g (DX g) k,0,[]⟩).DK.DI.SD p=if p∈Be g k then some (Dq (DX g) k p) else none:=l3 _ _ _ _
 have e2:BR (Dn ⟨FY g (DX g) k,0,[]⟩).KN p=if p∈Be g k then 1 else 0:=by
  by_cases hp:p∈Be g k
  ·rw [if_pos hp];have hm:(⟨p,1⟩:KE)∈(Dn ⟨FY g (DX g) k,0,[]⟩).KN:=List.mem_map.2 ⟨Dq (DX g) k p,List.mem_map.2 ⟨p,hp,rfl⟩,rfl⟩;exact M7 hok.kup hm
  ·rw [if_neg hp];refine Uv fun q hq=>?_;obtain ⟨x,hx,rfl⟩:=List.mem_map.1 hq;obtain ⟨b,hb,rfl⟩:=List.mem_map.1 hx;intro e;have e:b=p:=e;exact hp (e ▸ hb)
 rw [e1,e2];by_cases hp:p∈Be g k
 ·simp only [if_pos hp];rfl
 ·simp only [if_neg hp];rfl
theorem rJ {g:Graph} (hg:Bd g=true) (E:g.N≤24):HI (DH g)∧bC (DH g):=by
 have hk:=fG hg E;have h8:((DH g).NS.length:Int)=g.N:=by have:=jx hg;simp only [DH,List.length_map];exact this
 refine ⟨⟨hk,fun i k a b h9 ha hb=>?_,fun i a ha q hq=>?_⟩,fun n hn=>?_⟩
 ·rw [cY hg E ha,cY hg E hb];have h6:(k:Int)∈Be g i↔(i:Int)∈Be g k:=⟨b8 hg,b8 hg⟩
  by_cases h:(k:Int)∈Be g i
  ·rw [if_pos h,if_pos (h6.1 h)];have hne:=uF hg (xB hg).1 h;refine .lv (Dq (DX g) i k) (Dq (DX g) k i) rfl (.inl rfl) rfl rfl rfl rfl rfl rfl (Bq.nil _) (Bq.nil _) (fun q hq=>?_);show bn (BF q (Dq (DX g) i k))+bn (BF q (Dq (DX g) k i))+0+0=1;rcases Int.lt_or_lt_of_ne hne with hc | hc
   ·rcases hq with rfl | rfl | rfl | rfl<;>simp [BF,Dq,bn,hc,Int.not_lt.2 (Int.le_of_lt hc)]
   ·rcases hq with rfl | rfl | rfl | rfl<;>simp [BF,Dq,bn,hc,Int.not_lt.2 (Int.le_of_lt hc)]
  ·rw [if_neg h,if_neg (fun e=>h (h6.2 e))];exact .no rfl rfl rfl (Int.le_refl _) (Bq.nil _) (Bq.nil _)
 ·rw [cY hg E ha,if_neg (fun h=>by have:=GX hg h;omega)];exact ⟨rfl,rfl⟩
 ·obtain ⟨k,hk'⟩:=List.mem_iff_getElem?.1 hn;obtain ⟨_,rfl⟩:=ZB hk';intro h2;simp [Dn] at h2
def od (e:Int):Prop:=(170≤e∧e≤186)∨e=188∨e=191∨e=192
theorem tP (b:BK) (id:Int) (need:List Int):(DA b id need).2=0∨(170≤(DA b id need).2∧(DA b id need).2≤186):=by
 unfold DA
 (repeat' split)<;>simp
theorem yK (b:BK) (id E:Int):(C6 b id E).2=0∨(170≤(C6 b id E).2∧(C6 b id E).2≤186):=by
 unfold C6
 (repeat' split)<;>simp
theorem yL (n:NO) (a:Do):(B9 n a).1=0∨od (B9 n a).1:=by
 have o1:=tP n.BK a.ID a.NE;have o2:=fun w=>yK n.BK a.ID w;unfold B9;split
 ·unfold CF;split
  ·split
   ·split
    ·exact .inl rfl
    ·exact .inr (.inl Om)
   ·rcases o1 with o1 | o1
    ·rename_i h;exact absurd o1 h
    ·exact .inr (.inl o1)
  ·split
   ·split
    ·exact .inl rfl
    ·rename_i h;rcases o2 1 with o | o
     ·exact absurd o h
     ·exact .inr (.inl o)
   ·split
    ·split
     ·exact .inl rfl
     ·rename_i h;rcases o2 0 with o | o
      ·exact absurd o h
      ·exact .inr (.inl o)
    ·split
     ·split<;>exact .inl rfl
     ·exact .inl rfl
 ·split
  ·split
   ·cases C7 n.DK.DI.SD a.PE with
    | some j=>exact .inr (.inl (by dsimp only;omega))
    | none=>
      dsimp only;split
      ·exact .inl rfl
      ·exact .inr (.inl (by dsimp only;omega))
   ·exact .inr (.inl (by dsimp only;omega))
  ·split
   ·split
    ·cases C7 n.DK.DI.SD a.PE with
     | none=>exact .inr (.inl (by dsimp only;omega))
     | some j=>
       dsimp only;split
       ·exact .inr (.inl (by dsimp only;omega))
       ·split
        ·exact .inl rfl
        ·exact .inr (.inl (by dsimp only;omega))
    ·exact .inr (.inl (by dsimp only;omega))
   ·exact .inr (.inr (.inl rfl))
def mK (h:HL) (T:HL→List EV→Prop) (x:HL) (V:List EV) (e:Int):Prop:=(e=0∧HI x∧T x V∧x.ML.length≤h.ML.length+6000∧x.NS.length=h.NS.length)∨(e≠0∧od e)
def Ue (h:HL) (k:Nat) (n:NO) (a:Do):HL:=⟨h.NS.set k (BE (B9 n a).2.1 [] (B9 n a).2.2).1,h.ML++(BE (B9 n a).2.1 [] (B9 n a).2.2).2.1⟩
def UF (h:HL) (k i:Nat) (n:NO) (a:Int) (m:Msg):HL:=⟨h.NS.set k (BE (Bc n a m).2.1 [] (Bc n a m).2.2).1,(h.ML.take i++h.ML.drop (i+1))++(BE (Bc n a m).2.1 [] (Bc n a m).2.2).2.1⟩
theorem wi {h:HL} {s:narthexlaw19_Step} (hh:HI h) (T:HL→List EV→Prop) (hl:h.ML.length+6000≤1000000) (ha:s.Do.NE.length≤1000)
  (E:∀(k:Nat) (n:NO),h.NS[k]?=some n→(s.Do.KI=4→0≤s.Do.PE∧s.Do.PE<h.NS.length)→(B9 n s.Do).1=0→T (Ue h k n s.Do) (BE (B9 n s.Do).2.1 [] (B9 n s.Do).2.2).2.2)
  (J:∀(k i:Nat) (n:NO) (m:ML),h.NS[k]?=some n→(h.ML.findIdx? fun m=>decide (m.From=s.A)&&decide (m.To=(k:Int)))=some i→h.ML[i]?=some m→T (UF h k i n s.A m.Msg) (BE (Bc n s.A m.Msg).2.1 [] (Bc n s.A m.Msg).2.2).2.2):
  ∃x V e,Jx h s=some (x,V,e)∧mK h T x V e:=by
 have hk:=hh.ok;have hc:=Yl hk;cases hs:s.ML with
 | false=>
   have e0:Jx h s=(Js h s.A s.Do).bind fun x5=>some (x5.1,x5.2.1,x5.2.2):=by unfold Jx;rw [hs,Aa,B5 _ _ Om (by simp;omega),OB,List.nil_append]
   rw [e0];by_cases hA:0≤s.A∧s.A<h.NS.length
   ·by_cases hP:s.Do.KI=4→0≤s.Do.PE∧s.Do.PE<h.NS.length
    ·obtain ⟨k,rfl'⟩:∃k:Nat,s.A=k:=⟨s.A.toNat,Om⟩
     obtain ⟨n,hn⟩:∃n,h.NS[k]?=some n:=⟨_,List.getElem?_eq_getElem Om⟩
     obtain ⟨h6,hok⟩:=hk.nodes k n hn;have hr:=uL n s.Do hok ha;obtain ⟨e,m,V,hq⟩:∃e m V,B9 n s.Do=(e,m,V):=⟨_,_,_,rfl⟩
     have q1:(B9 n s.Do).1=e:=by rw [hq]
     have q2:(B9 n s.Do).2.1=m:=by rw [hq]
     have q3:(B9 n s.Do).2.2=V:=by rw [hq]
     rw [hq] at hr;dsimp only at hr;by_cases he:e=0
     ·subst he;obtain ⟨i1,i2⟩:=hh.act hn hP q1 hl;have i3:=E k n hn hP q1;unfold Ue at i3;rw [q2,q3] at i1 i2 i3;rw [rfl',kF hk hn hP hr (by rw [Ya];dsimp only;omega),OB];unfold Jc;rw [Ya];refine ⟨_,_,_,rfl,.inl ⟨rfl,i1,i3,by simp;omega,by simp⟩⟩
     ·rw [rfl',kF hk hn hP hr (by rw [xE he];simp),OB];unfold Jc;rw [xE he,if_neg he];refine ⟨_,_,_,rfl,.inr ⟨he,?_⟩⟩;rcases yL n s.Do with o | o
      ·rw [q1] at o;exact absurd o he
      ·rw [q1] at o;exact o
    ·refine ⟨d8,[],191,?_,.inr ⟨by decide,.inr (.inr (.inl rfl))⟩⟩;unfold Js;have h8:s.Do.KI=4:=Classical.byContradiction fun h=>hP fun h'=>absurd h' h;rw [hc,OB,show (!decide ((0:Int)=0))=false by decide,Aa,Fr,OB,DT hA.1,DT hA.2,Bool.and_true,Bool.not_true,Aa,DT h8,Ag,Fr,OB,
      show (!(decide (0≤s.Do.PE)&&decide (s.Do.PE<(h.NS.length:Int))))=true by rw [Bool.not_eq_true',←Bool.not_eq_true];intro hh;simp at hh;exact hP fun _=>hh]
     rfl
   ·refine ⟨d8,[],191,?_,.inr ⟨by decide,.inr (.inr (.inl rfl))⟩⟩;unfold Js;rw [hc,OB,show (!decide ((0:Int)=0))=false by decide,Aa,Fr,OB,show (!(decide (0≤s.A)&&decide (s.A<(h.NS.length:Int))))=true by rw [Bool.not_eq_true',←Bool.not_eq_true];intro hh;simp at hh;exact hA hh];rfl
 | true=>
   have e0:Jx h s=(Hr h s.A s.B).bind fun x5=>some (x5.1,x5.2.1,x5.2.2):=by unfold Jx;rw [hs,Ag]
   rw [e0];by_cases hA:0≤s.A∧s.A<h.NS.length
   ·by_cases hB:0≤s.B∧s.B<h.NS.length
    ·cases hi:(h.ML.findIdx? fun m=>decide (m.From=s.A)&&decide (m.To=s.B)) with
     | none=>exact ⟨d8,[],192,by rw [vM hk hA hB hi];rfl,.inr ⟨by decide,.inr (.inr (.inr rfl))⟩⟩
     | some i=>
       obtain ⟨k,rfl'⟩:∃k:Nat,s.B=k:=⟨s.B.toNat,Om⟩
       obtain ⟨n,hn⟩:∃n,h.NS[k]?=some n:=⟨_,List.getElem?_eq_getElem Om⟩
       have h9:i<h.ML.length:=by rw [List.findIdx?_eq_some_iff_getElem] at hi;exact hi.1
       obtain ⟨m,hm'⟩:∃m,h.ML[i]?=some m:=⟨_,List.getElem?_eq_getElem h9⟩
       obtain ⟨h6,hok⟩:=hk.nodes k n hn;have hr:=v7 n s.A m.Msg hok;rw [rfl'] at hi;obtain ⟨g0,i1,i2⟩:=hh.get hn hi hm' hl;have i3:=J k i n m hn hi hm';unfold UF at i3;rw [g0] at hr;rw [rfl',vL hk hA hn hi hm' hr (by rw [Ya];dsimp only;omega),OB];unfold Jc;rw [Ya];refine ⟨_,_,_,rfl,.inl ⟨rfl,i1,i3,by simp;omega,by simp⟩⟩
    ·refine ⟨d8,[],191,?_,.inr ⟨by decide,.inr (.inr (.inl rfl))⟩⟩;unfold Hr;rw [hc,OB,show (!decide ((0:Int)=0))=false by decide,Aa,Fr,OB,DT hA.1,DT hA.2,Bool.and_true,Bool.not_true,Aa,Fr,OB,show (!(decide (0≤s.B)&&decide (s.B<(h.NS.length:Int))))=true by rw [Bool.not_eq_true',←Bool.not_eq_true];intro hh;simp at hh;exact hB hh];rfl
   ·refine ⟨d8,[],191,?_,.inr ⟨by decide,.inr (.inr (.inl rfl))⟩⟩;unfold Hr;rw [hc,OB,show (!decide ((0:Int)=0))=false by decide,Aa,Fr,OB,show (!(decide (0≤s.A)&&decide (s.A<(h.NS.length:Int))))=true by rw [Bool.not_eq_true',←Bool.not_eq_true];intro hh;simp at hh;exact hA hh];rfl
theorem bC.acts {h:HL} (hg:bC h) (hh:HI h) {k:Nat} {n:NO} {a:Do} (hn:h.NS[k]?=some n) (h0:(B9 n a).1=0):bC (Ue h k n a):=by have hok:=(hh.ok.nodes k n hn).2;exact hg.set (fB (Pa hok h0).1 (xK hok (hg n (List.mem_of_getElem? hn)) a) _) _
theorem bC.gets {h:HL} (hg:bC h) (hh:HI h) {k i:Nat} {n:NO} {m:ML} {a:Int} (hn:h.NS[k]?=some n) (hi:(h.ML.findIdx? fun m=>decide (m.From=a)&&decide (m.To=(k:Int)))=some i) (hm:h.ML[i]?=some m):bC (UF h k i n a m.Msg):=by have hok:=(hh.ok.nodes k n hn).2;obtain ⟨s,rfl,_,_,_,_,g0,_⟩:=hh.get1 hn hi hm;exact hg.set (fB (Pq hok g0).1 (fz hok (hg n (List.mem_of_getElem? hn)) _ m.Msg) _) _
theorem xL {σ τ β:Type} (n:Nat) (body:τ→Option (τ ⊕ β)) (st:Nat→σ→τ) (I:Nat→σ→Prop) (Q:β→Prop)
  (hb:∀k s,k<n→I k s→(∃s',body (st k s)=some (.inl (st (k+1) s'))∧I (k+1) s')∨∃r,body (st k s)=some (.inr r)∧Q r) (he:∀s,I n s→∃r,body (st n s)=some (.inr r)∧Q r):
  ∀s,I 0 s→∃r,loop body (st 0 s)=some r∧Q r:=by
 have Ap:∀m k s,m+k=n→I k s→∃r,loop body (st k s)=some r∧Q r:=by
  intro m;induction m with
  | zero=>
    intro k s hk hs;have:k=n:=by omega
    subst this;obtain ⟨r,h1,h2⟩:=he s hs;exact ⟨r,by rw [Bn,h1],h2⟩
  | succ m ih=>
    intro k s hk hs;rcases hb k s Om hs with ⟨s1,h1,h2⟩ | ⟨r,h1,h2⟩
    ·obtain ⟨r,h3,h4⟩:=ih (k+1) s1 Om h2;exact ⟨r,by rw [Bn,h1];exact h3,h4⟩
    ·exact ⟨r,by rw [Bn,h1],h2⟩
 exact fun s hs=>Ap n 0 s rfl hs
theorem vW {e:Int} (h:od e):R9 e=some true:=by
 unfold R9;rcases h with ⟨h1,h2⟩ | rfl | rfl | rfl
 ·rw [DT h1,Ag,DT h2];rfl
 ·rfl
 ·rfl
 ·rfl
theorem wh (g:Graph) (l:List narthexlaw19_Step):∃z,R5 g l=some z∧(z=true→Bd g=true∧g.N≤6∧l.length≤80∧∀s∈l,s.Do.NE.length≤20):=by
 have fin:∀k:Nat,(∀(i:Nat) s,i<k→l[i]?=some s→s.Do.NE.length≤20)→(l.length≤k∨81≤k)→∃z,R6 g l ()=some z∧(z=true→Bd g=true∧g.N≤6∧l.length≤80∧∀s∈l,s.Do.NE.length≤20):=by
  intro k hk hl;have all:l.length≤80→∀s∈l,s.Do.NE.length≤20:=fun h8 s hs=>by obtain ⟨i,hi⟩:=List.mem_iff_getElem?.1 hs;have:=(List.getElem?_eq_some_iff.1 hi).1;exact hk i s Om hi
  dsimp only [R6];rw [w6,OB,AY];cases hg:Bd g with
  | false=>exact ⟨false,rfl,fun e=>by simp at e⟩
  | true=>
    rw [Ag];by_cases h6:g.N≤6
    ·rw [DT h6,Ag];exact ⟨_,rfl,fun e=>by have e:=of_decide_eq_true e;exact ⟨rfl,h6,Om,all Om⟩⟩
    ·rw [DN h6];exact ⟨false,rfl,fun e=>by simp at e⟩
 unfold R5;refine xL (σ:=Unit) 81 (R8 g l) (fun k _=>(k:Int)) (fun k _=>∀(i:Nat) s,i<k→l[i]?=some s→s.Do.NE.length≤20) (fun z=>z=true→Bd g=true∧g.N≤6∧l.length≤80∧∀s∈l,s.Do.NE.length≤20) (fun k _ hk hI=>?_) (fun _ hI=>?_) () (fun i s hi=>Om)
 ·dsimp only [R8];cases hx:l[k]? with
  | none=>right;have hle:=List.getElem?_eq_none_iff.1 hx;obtain ⟨z,hz,hq⟩:=fin k hI (.inl hle);refine ⟨z,?_,hq⟩;rw [AY,DN Om,Aa];dsimp only [GS];rw [Aa,hz];rfl
  | some s=>
    rw [AQ hx,Ag,DT Om];dsimp only [GS];rw [Ag,Ar hx,OB,AY];by_cases hn:(20:Int)<s.Do.NE.length
    ·right;exact ⟨false,by rw [DT hn];rfl,fun e=>by simp at e⟩
    ·left;refine ⟨(),by rw [DN hn,Aa,AC Om],fun i q hi hq=>?_⟩;by_cases e:i=k
     ·subst e;rw [hx] at hq;cases hq;omega
     ·exact hI i q Om hq
 ·obtain ⟨z,hz,hq⟩:=fin 81 hI (.inr Om);refine ⟨z,?_,hq⟩;dsimp only [R8];have:∀b,GS g l ((81:Nat):Int) false=some (.inr z)∧A0 b (GS g l ((81:Nat):Int) (decide (((81:Nat):Int)<81))) (GS g l ((81:Nat):Int) false)=some (.inr z):=fun b=>by
   have h1:GS g l ((81:Nat):Int) false=some (.inr z):=by dsimp only [GS];rw [Aa,hz];rfl
   refine ⟨h1,?_⟩;rw [DN Om];cases b
   ·rw [Aa,h1]
   ·rw [Ag,h1]
  exact (this _).2
def F7 (m:Model):Prop:=m.Places.length≤1000000∧∀p∈m.Places,p.Live.length≤800000∧DF p.BK
theorem dL {α:Type} {l:List α} {i:Int} (h:Ac l i=none):¬(0≤i∧i<l.length):=fun ⟨h0,h1⟩=>by obtain ⟨x,hx,_⟩:=Z7 h0 h1;rw [h] at hx;simp at hx
theorem Z6 {α:Type} {l:List α} {i:Int} {x:α} (h:Ac l i=some x):0≤i∧i<l.length∧l[i.toNat]?=some x:=by obtain ⟨h0,h1⟩:=DD h;have:=(List.getElem?_eq_some_iff.1 h1).1;exact ⟨h0,Om,h1⟩
theorem eD {α:Type} {l:List α} {i:Int} {x:α} (h:Ac l i=some x):x∈l:=List.mem_iff_getElem?.2 ⟨_,(Z6 h).2.2⟩
theorem TP (m:Model) (a:Int):Hu m a=some (Ac m.Places a).isSome:=by
 simp only [Hu,QT,AY];cases h:Ac m.Places a with
 | none=>
   have:=dL h;by_cases h0:0≤a
   ·rw [DT h0,Ag,DN Om];rfl
   ·rw [DN h0];rfl
 | some x=>obtain ⟨h0,h1,_⟩:=Z6 h;rw [DT h0,Ag,DT h1];rfl
def Cz (P:List Place) (a b:Int):Bool:=match Ac P a with
 | some p=>p.BK.SE.any fun s=>decide (s.SS=1)&&decide (b∈s.NE)
 | none=>false
theorem Yp (m:Model) (hm:F7 m) (a b:Int):Im m a b=some (Cz m.Places a b):=by
 simp only [Im,QW,TP,OB,Cz];cases h:Ac m.Places a with
 | none=>rfl
 | some p=>have hp:=hm.2 p (eD h);simp only [Option.isSome_some,Ag,OB];rw [kc p.BK.SE _ (fun s=>decide (s.SS=1)&&decide (b∈s.NE)) (by have:=hp.2.1;omega) (fun s hs=>by simp only [QU,QV,Gi s.NE b (hp.2.2 s hs),OB];cases decide (s.SS=1)<;>rfl),OB]
theorem kL (m:Model) (hm:F7 m) (a b:Int) {p:Place} (h:Ac m.Places a=some p):Nc m a b=some (decide (b∈p.Live)):=by simp only [Nc,h,OB,Gi p.Live b (by have:=(hm.2 p (eD h)).1;omega)]
def F6 (live:List Int) (s:SE):Bool:=decide (s.SS=0)&&!s.NE.all fun z=>decide (z∈live)
def DE (p:Place):List Int:=(p.BK.SE.filter (F6 p.Live)).map (·.ID)
theorem Zl (q:List SE) (live:List Int):((q.filter (F6 live)).map (·.ID)).length≤q.length:=by rw [List.length_map];exact List.length_filter_le _ _
theorem bX (m:Model) (hm:F7 m) (a:Int):GJ m a=some (match Ac m.Places a with | some p=>DE p | none=>[]):=by
 simp only [GJ,TP,OB];cases h:Ac m.Places a with
 | none=>rfl
 | some p=>
   have hp:=hm.2 p (eD h);have h8:=hp.2.1;simp only [Option.isSome_some,Bool.not_true,Aa,OB];refine D0 p.BK.SE _ (fun pre=>((pre.length:Int),(pre.filter (F6 p.Live)).map (·.ID))) (DE p) (fun pre x post hx'=>?_) ?_
   ·have hx:=BL hx';have hl:=BG hx';have hd:=Zl pre p.Live;dsimp only [VE];rw [AQ hx,Ag,Ar hx,OB,h,OB,OV x.NE p.Live (hp.2.2 x (Di hx')) Om,OB,bb,List.filter_append,List.map_append];simp only [QJ,QK,AC (show pre.length≤4000000000000000000 by omega)];rw [B5 _ _ Om (by simp only [List.length_singleton];omega),OB];have e:([x].filter (F6 p.Live)).map (·.ID)=if F6 p.Live x then [x.ID] else []:=by cases h2:F6 p.Live x<;>simp [h2]
    rw [e];unfold F6;by_cases h1:x.SS=0
    ·cases h2:x.NE.all fun z=>decide (z∈p.Live)<;>simp [h1]
    ·simp [h1]
   ·dsimp only [VE];rw [AT,Aa];rfl
theorem uY (m:Model) (hm:F7 m) (a:Int):QG a m.Places=some (match Ac m.Places a with | some p=>DE p | none=>[]):=by
 simp only [QG,TP,OB];cases h:Ac m.Places a with
 | none=>rfl
 | some p=>
   have hp:=hm.2 p (eD h);have h8:=hp.2.1;simp only [Option.isSome_some,Bool.not_true,Aa,OB];refine D0 p.BK.SE _ (fun pre=>((pre.length:Int),(pre.filter (F6 p.Live)).map (·.ID))) (DE p) (fun pre x post hx'=>?_) ?_
   ·have hx:=BL hx';have hl:=BG hx';have hd:=Zl pre p.Live;dsimp only [VD];rw [AQ hx,Ag,Ar hx,OB,OV x.NE p.Live (hp.2.2 x (Di hx')) Om,OB,bb,List.filter_append,List.map_append];simp only [QH,QI,AC (show pre.length≤4000000000000000000 by omega)];rw [B5 _ _ Om (by simp only [List.length_singleton];omega),OB];have e:([x].filter (F6 p.Live)).map (·.ID)=if F6 p.Live x then [x.ID] else []:=by cases h2:F6 p.Live x<;>simp [h2]
    rw [e];unfold F6;by_cases h1:x.SS=0
    ·cases h2:x.NE.all fun z=>decide (z∈p.Live)<;>simp [h1]
    ·simp [h1]
   ·dsimp only [VD];rw [AT,Aa];rfl
def En (n:Nat) (i:Nat) (p:Place):Bool:=Cw p.BK&&(decide (p.Live.Pairwise (· < ·))&&p.Live.all fun q=>decide (0≤q)&&(decide (q<(n:Int))&&!decide (q=(i:Int))))
def dC (n:Nat):Nat→List Place→Bool
 | _,[]=>true
 | i,p::l=>En n i p&&dC n (i+1) l
theorem xM (n:Nat):∀(l:List Place) (i:Nat),dC n i l=true↔∀k p,l[k]?=some p→En n (i+k) p=true
 | [],_=>by simp [dC]
 | p::l,i=>by
   simp only [dC,Bool.and_eq_true,xM n l (i+1)];constructor
   ·rintro ⟨h1,h2⟩ k q hk;cases k with
    | zero=>simp at hk;subst hk;exact h1
    | succ k=>have:=h2 k q (by simpa using hk);rw [show i+(k+1)=i+1+k by omega];exact this
   ·intro h;refine ⟨h 0 p (by simp),fun k q hk=>?_⟩;have:=h (k+1) q (by simpa using hk);rw [show i+1+k=i+(k+1) by omega];exact this
def okM (m:Model):Bool:=decide (m.Places.length≤64)&&dC m.Places.length 0 m.Places
theorem jg (m:Model):okM m=true↔m.Places.length≤64∧∀k p,m.Places[k]?=some p→En m.Places.length k p=true:=by simp only [okM,Bool.and_eq_true,decide_eq_true_eq,xM,Nat.zero_add]
theorem kJ (m:Model) (hm:F7 m):N5 m=some (if okM m then 0 else 200):=by
 have h1:=hm.1;simp only [N5,AY];by_cases h6:m.Places.length≤64
 ·rw [DN Om,Aa,show okM m=dC m.Places.length 0 m.Places by unfold okM;rw [DT h6,Bool.true_and]];refine Jj m.Places _ (fun pre=>(pre.length:Int)) (fun pre post=>some (if dC m.Places.length pre.length post then 0 else 200)) (fun pre x post h=>?_) ?_
  ·have hx:=BL h;have hl:=BG h;have hp:=hm.2 x (Di h);have e2:∀z,KB (pre.length:Int) z=if z then some (.inr 200) else some (.inl ((pre.length+1:Nat):Int)):=fun z=>by simp only [KB,AC (show pre.length≤4000000000000000000 by omega)];cases z<;>rfl
   have e3:x.Live.any (fun q=>!((decide (0≤q)&&(decide (q<(m.Places.length:Int))&&!decide (q=(pre.length:Int))))))=!x.Live.all (fun q=>decide (0≤q)&&(decide (q<(m.Places.length:Int))&&!decide (q=(pre.length:Int)))):=Kf _ _ _ fun _=>rfl;have hb:QF m (pre.length:Int)=if En m.Places.length pre.length x then some (.inl ((pre.length+1:Nat):Int)) else some (.inr 200):=by
    dsimp only [QF];rw [AQ hx,Ag,Ar hx,OB,LB x.BK hp.2,OB,ky x.Live Om,OB,
     K1 x.Live _ (fun q=>!((decide (0≤q)&&(decide (q<(m.Places.length:Int))&&!decide (q=(pre.length:Int)))))) Om (fun q _=>by
       simp only [QD,QE,TP,OB];cases hq:Ac m.Places q with
       | none=>
         have:=dL hq;by_cases h0:0≤q
         ·have:¬q<m.Places.length:=by omega
          simp [this]
         ·simp [h0]
       | some y=>obtain ⟨q0,q1,_⟩:=Z6 hq;simp [q0,q1]),OB,e3]
    have e5:En m.Places.length pre.length x=(Cw x.BK&&(decide (x.Live.Pairwise (· < ·))&&x.Live.all fun q=>decide (0≤q)&&(decide (q<(m.Places.length:Int))&&!decide (q=(pre.length:Int))))):=rfl;rw [e5];simp only [e2];cases hk:Cw x.BK
    ·simp
    ·by_cases h2:x.Live.Pairwise (· < ·)
     ·cases h3:x.Live.all (fun q=>decide (0≤q)&&(decide (q<(m.Places.length:Int))&&!decide (q=(pre.length:Int))))<;>simp [h2]
     ·simp [h2]
   rw [hb,bb];show (_∧some (if (En m.Places.length pre.length x&&dC m.Places.length (pre.length+1) post) then (0:Int) else 200)=_)∨∃r,_∧some (if (En m.Places.length pre.length x&&dC m.Places.length (pre.length+1) post) then (0:Int) else 200)=some r;cases En m.Places.length pre.length x
   ·right;exact ⟨200,rfl,rfl⟩
   ·left;exact ⟨rfl,by rw [Bool.true_and]⟩
  ·dsimp only [QF];rw [AT,Aa];rfl
 ·rw [DT Om,show okM m=false by unfold okM;rw [DN h6,Bool.false_and]];rfl
theorem vT (m:Model) (hm:F7 m):QQ m=some m.Places:=by
 have h1:=hm.1;have hc:Ld m.Places=some m.Places:=by simp only [Ld];rw [B5 _ _ Om (by simp;omega),List.nil_append]
 simp only [QQ,hc,OB];refine D0 m.Places _ (fun pre=>((pre.length:Int),m.Places)) m.Places (fun pre x post h=>?_) ?_
 ·have hx:=BL h;have hl:=BG h;have hp:=hm.2 x (Di h);have h8:=hp.2.1;dsimp only [VK];rw [AQ hx,Ag,Ar hx,OB,Ex x.Live Om,OB,OU x.BK.SE hp.2.1,OB,Int.toNat_natCast,HS hx];dsimp only [VH];rw [Ar hx,OB];refine D0 x.BK.SE _ (fun q=>((q.length:Int),x.BK.SE)) _ (fun q y r hq=>?_) ?_
  ·have hy:=BL hq;have h6:=BG hq;dsimp only [VM];rw [AQ hy,Ag,Ar hy,OB,Ex y.NE (hp.2.2 y (Di hq)),OB];dsimp only [VJ];rw [Int.toNat_natCast,HS hy,AC Om,bb]
  ·dsimp only [VM];rw [AT,Aa];dsimp only [VI];rw [Int.toNat_natCast,HS hx,AC Om,bb];rfl
 ·dsimp only [VK];rw [AT,Aa];rfl
def Z4 (P:List Place):Bool:=(List.range P.length).all fun a=>(List.range a).all fun b=>!(Cz P a b&&Cz P b a)
theorem uM (m:Model) (hm:F7 m):QA m=some (Z4 m.Places):=by
 have h1:=hm.1;simp only [QA];have inner:∀k,k<m.Places.length→loop (N4 m (k:Int)) 0=if (List.range k).all (fun b=>!(Cz m.Places k b&&Cz m.Places b k)) then some (.inl ((k+1:Nat):Int)) else some (.inr false):=by
  intro k hk;have Ap:=ZU k (N4 m (k:Int)) (fun j=>(j:Int)) (fun j=>if ((List.range k).drop j).all (fun b=>!(Cz m.Places k b&&Cz m.Places b k)) then some (.inl ((k+1:Nat):Int)) else some (.inr false)) (fun j hj=>?_) ?_
  ·simpa using Ap
  ·have e:(List.range k).drop j=j::(List.range k).drop (j+1):=by have:=List.drop_eq_getElem_cons (l:=List.range k) (i:=j) (by simpa using hj);simpa using this
   dsimp only [N4];rw [DT Om,Ag,Yp m hm,Yp m hm,OB,OB,e,List.all_cons];simp only [QB,AC (show j≤4000000000000000000 by omega)];cases Cz m.Places k j<;>cases Cz m.Places j k<;>simp
  ·dsimp only [N4];rw [DN Om,Aa,List.drop_of_length_le (by simp)];dsimp only [VA];rw [AC Om];rfl
 have Ap:=ZU m.Places.length (QC m) (fun k=>(k:Int)) (fun k=>some (((List.range m.Places.length).drop k).all fun a=>(List.range a).all fun b=>!(Cz m.Places a b&&Cz m.Places b a))) (fun k hk=>?_) ?_
 ·simpa [Z4] using Ap
 ·have e:(List.range m.Places.length).drop k=k::(List.range m.Places.length).drop (k+1):=by have:=List.drop_eq_getElem_cons (l:=List.range m.Places.length) (i:=k) (by simpa using hk);simpa using this
  have hx:∃x,m.Places[k]?=some x:=⟨_,List.getElem?_eq_getElem hk⟩
  obtain ⟨x,hx⟩:=hx;dsimp only [QC];rw [AQ hx,Ag,inner k hk,e,List.all_cons];cases (List.range k).all (fun b=>!(Cz m.Places k b&&Cz m.Places b k))<;>simp
 ·dsimp only [QC];rw [AT,Aa,List.drop_of_length_le (by simp)];rfl
def dJ (g:Graph):Model:=⟨(List.range g.N.toNat).map fun a=>⟨C9,Be g (a:Nat)⟩⟩
theorem kK (g:Graph):Jt g=some (if Bd g then (dJ g,0) else (⟨[]⟩,30)):=by
 simp only [Jt,Ly,OB];cases hg:Bd g with
 | false=>rfl
 | true=>
   obtain ⟨h0,h6,_⟩:=Dc hg;simp only [if_true,decide_true,Bool.not_true,Aa];refine Kq g.N.toNat _ (fun k=>((k:Int),(List.range k).map fun a=>(⟨C9,Be g (a:Nat)⟩:Place))) (dJ g,0) (fun k hk=>?_) ?_
   ·dsimp only [VF];rw [DT Om,Ag,bY,hg,OB];simp only [if_true];rw [B5 _ _ Om (by simp;omega),OB,AC Om,List.range_succ,List.map_append];rfl
   ·dsimp only [VF];rw [DN Om,Aa];rfl
def Em (e:EV):Bool:=decide (e.KI=6)||(decide (e.KI=7)||decide (e.KI=8))
def EF (P:List Place) (e:EV):Bool:=match Ac P e.PE with | some q=>decide (e.NO∈q.Live) | none=>false
def Gt (P:List Place) (p:Place) (e:EV):List Int×Int:=
 if e.KI=6 then (if !decide (e.PE∈p.Live)&&(EF P e==decide (e.NO<e.PE)) then (Bm (p.Live++[e.PE]),0) else ([],206))
 else if e.KI=7 then (if decide (e.PE∈p.Live)&&(decide (e.NO<e.PE)||!EF P e) then ((Bm p.Live).filter (fun z=>!decide (z∈ [e.PE])),0) else ([],206))
 else if e.KI=8 then (if decide (e.NO<e.PE)&&(!decide (e.PE∈p.Live)&&(!EF P e&&(!Cz P e.NO e.PE&&!Cz P e.PE e.NO))) then (p.Live,0) else ([],206))
 else ([],206)
theorem vC (m:Model) (hm:F7 m) (e:EV) {p q:Place} (hp:Ac m.Places e.NO=some p) (hq:Ac m.Places e.PE=some q):QM e m.Places=some (Gt m.Places p e):=by
 have hl:=(hm.2 p (eD hp)).1;have hb:EF m.Places e=decide (e.NO∈q.Live):=by unfold EF;rw [hq]
 simp only [QM,hp,OB,kL m hm e.NO e.PE hp,kL m hm e.PE e.NO hq,←hb];have e2:∀(l:List Int) z,G8 (l,z)=some (if z then (l,0) else ([],206)):=fun l z=>by simp only [G8];cases z<;>rfl
 simp only [VG,QN,Na,qn p.Live e.PE Om,kd p.Live e.PE Om,Yp m hm,OB,e2,Gt];by_cases h6:e.KI=6
 ·simp only [h6,decide_true,Ag,if_true];cases decide (e.PE∈p.Live)<;>cases (EF m.Places e==decide (e.NO<e.PE))<;>simp
 ·by_cases h7:e.KI=7
  ·simp only [h7,decide_true,Ag,if_true];cases decide (e.PE∈p.Live)<;>cases EF m.Places e<;>cases decide (e.NO<e.PE)<;>simp
  ·by_cases h8:e.KI=8
   ·simp only [h8,decide_true,Ag,if_true];cases decide (e.PE∈p.Live)<;>cases EF m.Places e<;>cases decide (e.NO<e.PE)<;>cases Cz m.Places e.NO e.PE<;>cases Cz m.Places e.PE e.NO<;>simp
   ·simp [h6,h7,h8]
def jL (P:List Place) (p:Place) (e:EV):BK×Int:=
 if (bK p.BK).2.2=0 then (if (bK p.BK).2.1=e.ID then (match (bK p.BK).1.SE with
  | s::_=>if s.NE.any (fun q=>Cz P q e.NO) then (C9,203) else ((bK p.BK).1,0)
  | []=>(C9,203)) else (C9,203)) else (C9,203)
theorem rG {b:BK} (h:(bK b).2.2=0):Cw b=true∧∃s l,b.SE=s::l∧s.SS≠1∧bK b=(⟨b.LA,⟨s.ID,s.NE,1,s.Age⟩::l⟩,s.ID,0):=by
 unfold bK at h ⊢;cases hk:Cw b
 ·rw [hk] at h;simp at h
 ·rw [hk] at h;simp only [if_true] at h ⊢;refine ⟨trivial,?_⟩;cases hs:b.SE with
  | nil=>rw [hs] at h;simp at h
  | cons s l=>
    rw [hs] at h;simp only at h ⊢;by_cases h1:s.SS=1
    ·rw [if_pos h1] at h;simp at h
    ·exact ⟨s,l,rfl,h1,by rw [if_neg h1]⟩
theorem vK (m:Model) (hm:F7 m) (e:EV) {p:Place} (hp:Ac m.Places e.NO=some p):QP e m.Places=some (jL m.Places p e):=by
 have hl:=hm.2 p (eD hp);simp only [QP,hp,OB,kl p.BK hl.2,Nb,jL];by_cases h1:(bK p.BK).2.2=0
 ·by_cases h2:(bK p.BK).2.1=e.ID
  ·obtain ⟨_,s,l,hs,_,hg⟩:=rG h1;have hsm:s∈p.BK.SE:=by rw [hs];simp
   simp only [h1,h2,decide_true,Bool.not_true,Aa,if_true];rw [hg];dsimp only;rw [show Ac ((⟨s.ID,s.NE,1,s.Age⟩:SE)::l) 0=some ⟨s.ID,s.NE,1,s.Age⟩ from rfl,OB];dsimp only;rw [K1 s.NE _ (fun q=>Cz m.Places q e.NO) (by have:=hl.2.2 s hsm;omega) (fun q _=>by simp only [QO,Yp m hm,OB]),OB];cases s.NE.any (fun q=>Cz m.Places q e.NO)<;>rfl
  ·simp [h1,h2,C9]
 ·simp [h1,C9]
def M6 (r:BK×Int):BK×Int:=if r.2=0 then (r.1,0) else (C9,204)
def Fv (P:List Place) (p:Place) (e:EV):BK×Int:=
 if e.KI=0 then (if (DA p.BK e.ID e.NE).2=0 then (if e.NE.all (fun z=>decide (z∈p.Live)) then DA p.BK e.ID e.NE else (C9,202)) else DA p.BK e.ID e.NE)
 else if e.KI=1 then jL P p e
 else if e.KI=2 then M6 (C6 p.BK e.ID 1)
 else if e.KI=4 then M6 (C6 p.BK e.ID 1)
 else if e.KI=5 then (if e.ID∈DE p then M6 (C6 p.BK e.ID 0) else (C9,205))
 else if e.KI=3 then M6 (C6 p.BK e.ID 0)
 else (p.BK,0)
theorem wd (m:Model) (hm:F7 m) (e:EV) (he:e.NE.length≤1000000) {p:Place} (hp:Ac m.Places e.NO=some p):QR e m.Places=some (Fv m.Places p e):=by
 have hl:=hm.2 p (eD hp);have hd:(DE p).length≤1000000:=Nat.le_trans (Zl _ _) hl.2.1;have e1:∀r:BK×Int,KF (r.2,r.1)=some (M6 r):=fun r=>by simp only [KF,M6];by_cases h:r.2=0<;>simp [h,C9]
 simp only [QR,hp,uY m hm,OB,Fv];by_cases h0:e.KI=0
 ·simp only [h0,decide_true,Ag,if_true,VQ,ku p.BK e.ID e.NE hl.2 he,OB,OV e.NE p.Live he Om,QS];generalize DA p.BK e.ID e.NE=r;obtain ⟨r1,r2⟩:=r;by_cases h1:r2=0
  ·cases h2:e.NE.all fun z=>decide (z∈p.Live)<;>simp [h1,C9]
  ·simp [h1]
 rw [DN h0,Aa,if_neg h0];by_cases h1:e.KI=1
 ·simp only [h1,decide_true,Ag,if_true,VP,vK m hm e hp,OB]
 rw [DN h1,Aa,if_neg h1];by_cases h2:e.KI=2
 ·simp only [h2,decide_true,Ag,if_true,Nf,bZ p.BK e.ID hl.2,OB,e1]
 rw [DN h2,Aa,if_neg h2];by_cases h4:e.KI=4
 ·simp only [h4,decide_true,Ag,if_true,Nf,bZ p.BK e.ID hl.2,OB,e1]
 rw [DN h4,Aa,if_neg h4];by_cases h5:e.KI=5
 ·simp only [h5,decide_true,Ag,if_true,VO,Nd,Gi (DE p) e.ID hd,jY p.BK e.ID hl.2,OB,e1];by_cases h6:e.ID∈DE p<;>simp [h6,C9]
 rw [DN h5,Aa,if_neg h5];by_cases h3:e.KI=3
 ·simp only [h3,decide_true,Ag,if_true,Nd,jY p.BK e.ID hl.2,OB,e1]
 rw [DN h3,Aa,if_neg h3];rfl
def IY (m:Model) (p:Place) (e:EV):Model×Int:=
 if Em e then (if (Gt m.Places p e).2=0 then (⟨m.Places.set e.NO.toNat ⟨p.BK,(Gt m.Places p e).1⟩⟩,0) else (⟨[]⟩,(Gt m.Places p e).2))
 else (if (Fv m.Places p e).2=0 then (⟨m.Places.set e.NO.toNat ⟨(Fv m.Places p e).1,p.Live⟩⟩,0) else (⟨[]⟩,(Fv m.Places p e).2))
def Fx (m:Model) (e:EV):Model×Int:=
 if okM m then
  match Ac m.Places e.NO with
  | none=>(⟨[]⟩,201)
  | some p=>
    if Em e&&(!(Ac m.Places e.PE).isSome||decide (e.PE=e.NO)) then (⟨[]⟩,201)
    else if !decide (e.KI=5)&&decide (DE p≠ []) then (⟨[]⟩,205)
    else if decide (e.KI<0)||decide (8<e.KI) then (⟨[]⟩,207)
    else IY m p e
 else (⟨[]⟩,200)
theorem kx (m:Model) (hm:F7 m) (e:EV) (he:e.NE.length≤1000000):Eu m e=some (Fx m e):=by
 have jb:∀z w,w≠0→GM m e z w=some (⟨[]⟩,w):=fun z w hw=>by simp only [GM,hw,decide_false,Bool.not_false,Ag]
 have j1:Eu m e=Ju m e (if okM m then 0 else 200) (Em e):=by
  simp only [Eu,kJ m hm,OB,Em];by_cases h6:e.KI=6
  ·simp [h6]
  ·by_cases h7:e.KI=7
   ·simp [h7]
   ·simp [h6,h7]
 rw [j1];unfold Fx;cases hk:okM m
 ·simp only [Ju,Bool.false_eq_true,if_false];rw [show (!decide ((200:Int)=0))=true from rfl,Ag,jb _ _ Om]
 ·simp only [if_true];have j3:∀x3,Ht m e x3 (Em e) true=some (⟨[]⟩,201):=fun x3=>by simp only [Ht,Ag,jb _ 201 Om]
  simp only [Ju,decide_true,Bool.not_true,Aa,TP,OB];cases hp:Ac m.Places e.NO with
  | none=>simp only [Option.isSome_none,Bool.not_false,Ag,j3]
  | some p=>
    simp only [Option.isSome_some,Bool.not_true,Aa];have hl:=hm.2 p (eD hp);have rest:(Em e=true→∃q,Ac m.Places e.PE=some q)→Ht m e 0 (Em e) false=some (if !decide (e.KI=5)&&decide (DE p≠ []) then (⟨[]⟩,205) else if decide (e.KI<0)||decide (8<e.KI) then (⟨[]⟩,207) else IY m p e):=by
     intro hq;have j2:GM m e (Em e) 0=some (IY m p e):=by
      have j6:∀(w:Int) (l:List Place),N9 (w,l)=some (if w=0 then (⟨l⟩,0) else (⟨[]⟩,w)):=fun w l=>by simp only [N9];by_cases h:w=0<;>simp [h]
      simp only [GM,decide_true,Bool.not_true,Aa,vT m hm,OB,hp,j6,IY];cases ho:Em e
      ·rw [Aa,wd m hm e he hp,OB];rfl
      ·obtain ⟨q,hq⟩:=hq ho;rw [Ag,vC m hm e hp hq,OB];rfl
     have j5:∀z,N8 m e 0 (Em e) z=some (if z then (⟨[]⟩,207) else IY m p e):=fun z=>by simp only [N8,j2,jb _ 207 Om];cases z<;>rfl
     have j4:∀z,N7 m e 0 (Em e) z=some (if z then (⟨[]⟩,205) else if decide (e.KI<0)||decide (8<e.KI) then (⟨[]⟩,207) else IY m p e):=fun z=>by
      simp only [N7,j5,jb _ 205 Om];cases z
      ·cases decide (e.KI<0)<;>simp
      ·rfl
     simp only [Ht,Aa,bX m hm,hp,OB,j4,AY];have e0:decide ((0:Int)<((DE p).length:Nat))=decide (DE p≠ []):=by rw [decide_eq_decide];cases DE p<;>simp<;>omega
     rw [e0];cases decide (e.KI=5)<;>simp
    cases ho:Em e
    ·rw [ho] at rest;rw [Aa,Bool.false_and,if_neg (by simp),rest (by simp)]
    ·rw [ho] at rest j3;rw [Ag,Bool.true_and];cases hq:Ac m.Places e.PE with
     | none=>simp only [Option.isSome_none,Bool.not_false,Ag,j3,Bool.true_or,if_true]
     | some q=>
       simp only [Option.isSome_some,Bool.not_true,Aa,Bool.false_or];by_cases h8:e.PE=e.NO
       ·simp only [h8,decide_true,j3,if_true]
       ·simp only [h8,decide_false,Bool.false_eq_true,if_false];exact rest fun _=>⟨q,hq⟩
theorem xN {b:BK} (h:Cw b=true):DF b:=((CR b).1 h).few
theorem eF {m:Model} (h:okM m=true):F7 m:=by
 obtain ⟨h6,hp⟩:=(jg m).1 h;refine ⟨Om,fun p hm=>?_⟩;obtain ⟨k,hk⟩:=List.mem_iff_getElem?.1 hm;have:=hp k p hk;simp only [En,Bool.and_eq_true,decide_eq_true_eq,List.all_eq_true] at this;refine ⟨?_,xN this.1⟩;rcases jX p.Live 0 m.Places.length this.2.1 (fun x hx=>⟨(this.2.2 x hx).1,(this.2.2 x hx).2.1⟩) with e | e
 ·rw [e];simp
 ·omega
theorem yM {n i:Nat} {p:Place}:En n i p=true↔Cw p.BK=true∧p.Live.Pairwise (· < ·)∧∀q∈p.Live,0≤q∧q<(n:Int)∧q≠(i:Int):=by simp only [En,Bool.and_eq_true,decide_eq_true_eq,List.all_eq_true,Bool.not_eq_true',decide_eq_false_iff_not,ne_eq]
def zS (s:SE):SE:=⟨s.ID,s.NE,s.SS,0⟩
def zB (b:BK):BK:=⟨b.LA,b.SE.map zS⟩
def AR (S:List SX):List Int:=(S.filter Dy).map (·.PE)
def BH (S:List SX) (b:BK):Place:=⟨zB b,AR S⟩
def Bg (n:NO):Place:=BH n.DK.DI.SD n.BK
theorem bm {S:List SX} {p:Int}:p∈AR S↔∃x∈S,x.SS=0∧x.PE=p:=by
 unfold AR;simp only [List.mem_map,List.mem_filter,Dy,decide_eq_true_eq];constructor
 ·rintro ⟨x,⟨h1,h2⟩,h3⟩;exact ⟨x,h1,h2,h3⟩
 ·rintro ⟨x,h1,h2,h3⟩;exact ⟨x,⟨h1,h2⟩,h3⟩
theorem Ji {S:List SX} (h:S.Pairwise fun x y=>x.PE<y.PE):(AR S).Pairwise (· < ·):=by unfold AR;rw [List.pairwise_map];exact h.sublist List.filter_sublist
theorem gF {l m:List Int} (hl:l.Pairwise (· < ·)) (hm:m.Pairwise (· < ·)) (h:∀x,x∈l↔x∈m):l=m:=jJ (fun _=>Int.lt_irrefl _) (fun _ _ h1 h2=>Om) hl hm h
theorem BkOK.z {b:BK} (h:BkOK b):BkOK (zB b):=by
 refine ⟨h.last,by simpa [zB] using h.len,?_,fun s hs=>?_,fun s hs=>?_⟩
 ·show (b.SE.map zS).Pairwise _;rw [List.pairwise_map];exact h.up
 ·obtain ⟨t,ht,rfl⟩:=List.mem_map.1 hs;have:=h.ok t ht;refine ⟨this.lo,this.hi,this.nb,this.up,Int.le_refl _,?_⟩;rcases this.st with e | ⟨e,_⟩
  ·exact .inl e
  ·exact .inr ⟨e,rfl⟩
 ·have hs:s∈(b.SE.map zS).tail:=hs;rw [←List.map_tail] at hs;obtain ⟨t,ht,rfl⟩:=List.mem_map.1 hs;exact h.tl t ht
theorem Y0 {b:BK} (h:BkOK b):Cw (zB b)=true:=(CR _).2 h.z
theorem yN {b:BK} (h:BkOK b) {id:Int} {need:List Int} (h0:(DA b id need).2=0):DA (zB b) id (Bm need)=(zB (DA b id need).1,0):=by
 have e1:Bm (Bm need)=Bm need:=xY (DO need).1;have e2:(zB b).SE.length=b.SE.length:=by simp [zB]
 unfold DA at h0 ⊢;rw [Y0 h,if_pos rfl,e1,e2,show (zB b).LA=b.LA from rfl];rw [(CR b).2 h,if_pos rfl] at h0 ⊢;by_cases c1:id≤b.LA
 ·rw [if_pos c1] at h0;simp at h0
 ·rw [if_neg c1] at h0 ⊢;rw [if_neg c1];by_cases c2:FF (Bm need)=true
  ·rw [if_pos c2] at h0 ⊢;rw [if_pos c2];by_cases c3:b.SE.length=8
   ·rw [if_pos c3] at h0;simp at h0
   ·rw [if_neg c3,if_neg c3];simp [zB,zS]
  ·rw [if_neg c2] at h0;simp at h0
theorem yO (b:BK) (id:Int):FZ (zB b) id=FZ b id:=by unfold FZ zB;dsimp only;rw [List.findIdx?_map];rfl
theorem YH {b:BK} (h:BkOK b) {id w:Int} (h0:(C6 b id w).2=0):C6 (zB b) id w=(zB (C6 b id w).1,0):=by
 unfold C6 at h0 ⊢;rw [Y0 h,if_pos rfl,yO];rw [(CR b).2 h,if_pos rfl] at h0 ⊢;cases hf:FZ b id with
 | none=>rw [hf] at h0;simp at h0
 | some i=>
   rw [hf] at h0;dsimp only at h0 ⊢;rw [show (zB b).SE[i]?=(b.SE[i]?).map zS from List.getElem?_map];cases hs:b.SE[i]? with
   | none=>rw [hs] at h0;simp at h0
   | some s=>
     rw [hs] at h0;dsimp only [Option.map_some] at h0 ⊢;by_cases c:s.SS=w
     ·rw [if_pos c,if_pos (show (zS s).SS=w from c)];simp [zB,List.map_take,List.map_drop]
     ·rw [if_neg c] at h0;simp at h0
theorem xP {b:BK} (h:BkOK b) {pre post:List SE} {s:SE} (hb:b.SE=pre++s::post):C6 b s.ID s.SS=(⟨b.LA,pre++post⟩,0):=by
 have hf:FZ b s.ID=some pre.length:=by unfold FZ;rw [List.findIdx?_eq_some_iff_getElem];refine ⟨by rw [hb];simp,by simp [hb],fun j hj=>?_⟩;have h6:=h.up;simp only [hb] at h6 ⊢;rw [List.pairwise_append] at h6;have:(pre++s::post)[j]'(by simp;omega)=pre[j]:=List.getElem_append_left hj;rw [this];have:=h6.2.2 pre[j] (List.getElem_mem hj) s (by simp);simp;omega
 unfold C6;rw [(CR b).2 h,if_pos rfl,hf];dsimp only;rw [show b.SE[pre.length]?=some s by rw [hb];simp];dsimp only;rw [if_pos rfl,hb];simp
inductive Goes:List Place→List EV→List Place→Prop
 | nil (P:List Place):Goes P [] P
 | cons {P Q R:List Place} {e:EV} {V:List EV} (h:Fx ⟨P⟩ e=(⟨Q⟩,0)) (k:Goes Q V R):Goes P (e::V) R
theorem Goes.one {P Q:List Place} {e:EV} (h:Fx ⟨P⟩ e=(⟨Q⟩,0)):Goes P [e] Q:=.cons h (.nil Q)
theorem Goes.app {P Q R:List Place} {V W:List EV} (h:Goes P V Q) (k:Goes Q W R):Goes P (V++W) R:=by
 induction h with
 | nil P=>exact k
 | cons h _ ih=>exact .cons h (ih k)
structure Env (P:List Place) (k:Nat):Prop where
 len:P.length≤64
 lt:k<P.length
 ok:∀(i:Nat) p,i≠k→P[i]?=some p→En P.length i p=true
theorem Env.okM {P:List Place} {k:Nat} (h:Env P k) {p:Place} (hp:En P.length k p=true):okM ⟨P.set k p⟩=true:=by
 refine (jg _).2 ⟨by simpa using h.len,fun i q hq=>?_⟩;have hq:(P.set k p)[i]?=some q:=hq;show En (P.set k p).length i q=true;rw [List.length_set];rw [List.getElem?_set] at hq;split at hq
 ·rename_i e;rw [if_pos h.lt] at hq;cases hq;rw [←e];exact hp
 ·rename_i e;exact h.ok i q (fun e'=>e e'.symm) hq
theorem xQ {P:List Place} {k:Nat} (hk:k<P.length) (p:Place):Ac (P.set k p) (k:Int)=some p:=Ar (by rw [List.getElem?_set];simp [hk])
theorem Uh {P:List Place} {k:Nat} (p:Place) {q:Int} (hq:q≠k):Ac (P.set k p) q=Ac P q:=by
 unfold Ac;by_cases h:0≤q
 ·have:k≠q.toNat:=by omega
  rw [List.getElem?_set_ne this]
 ·simp only [if_neg h]
theorem oe {P:List Place} {k:Nat} (h:Env P k) {p p':Place} (hp:En P.length k p=true) {e:EV} (he:e.NO=k) (E:0≤e.KI∧e.KI≤5) (hd:e.KI=5∨DE p=[]) (hs:Fv (P.set k p) p e=(p'.BK,0)) (hl:p'.Live=p.Live):
  Fx ⟨P.set k p⟩ e=(⟨P.set k p'⟩,0):=by
 have ho:Em e=false:=by unfold Em;rw [DN Om,DN Om,DN Om];rfl
 unfold Fx IY;rw [h.okM hp,if_pos rfl,he,show Ac (⟨P.set k p⟩:Model).Places (k:Int)=some p from xQ h.lt p];dsimp only;rw [ho,Bool.false_and,if_neg (by simp)];have c:¬(!decide (e.KI=5)&&decide (DE p≠ []))=true:=by
  rcases hd with hd | hd
  ·simp [hd]
  ·simp [hd]
 have c2:¬(decide (e.KI<0)||decide (8<e.KI))=true:=by rw [DN Om,DN Om];simp
 rw [if_neg c,if_neg c2,if_neg (by simp),hs];dsimp only;rw [if_pos rfl,Int.toNat_natCast,List.set_set,←hl]
theorem oi {P:List Place} {k:Nat} (h:Env P k) {p p':Place} (hp:En P.length k p=true) {e:EV} (he:e.NO=k) (E:e.KI=6∨e.KI=7∨e.KI=8) (hd:DE p=[]) {q:Nat} (hq:e.PE=q) (h8:q≠k) (h6:q<P.length)
  (hs:Gt (P.set k p) p e=(p'.Live,0)) (hl:p'.BK=p.BK):Fx ⟨P.set k p⟩ e=(⟨P.set k p'⟩,0):=by
 have ho:Em e=true:=by unfold Em;rcases E with h | h | h<;>rw [h]<;>rfl
 unfold Fx IY;rw [h.okM hp,if_pos rfl,he,show Ac (⟨P.set k p⟩:Model).Places (k:Int)=some p from xQ h.lt p];dsimp only;have c0:¬(Em e&&(!(Ac (P.set k p) e.PE).isSome||decide (e.PE=(k:Int))))=true:=by rw [hq,Uh p (show (q:Int)≠k by omega),Ar (List.getElem?_eq_getElem h6),DN Om];simp
 have c:¬(!decide (e.KI=5)&&decide (DE p≠ []))=true:=by simp [hd]
 have c2:¬(decide (e.KI<0)||decide (8<e.KI))=true:=by rw [DN Om,DN Om];simp
 rw [if_neg c0,if_neg c,if_neg c2,ho,if_pos rfl,hs];dsimp only;rw [if_pos rfl,Int.toNat_natCast,List.set_set,←hl]
structure PlOK (P:List Place) (k:Nat) (S:List SX) (b:BK):Prop where
 up:S.Pairwise fun x y=>x.PE<y.PE
 rng:∀x∈S,0≤x.PE∧x.PE<P.length∧x.PE≠k
 bk:BkOK b
def Ke (S:List SX) (b:BK):Prop:=∀s∈b.SE,s.SS=0→∀p∈s.NE,p∈AR S
theorem PlOK.pl {P:List Place} {k:Nat} {S:List SX} {b:BK} (h:PlOK P k S b):En P.length k (BH S b)=true:=by refine yM.2 ⟨Y0 h.bk,Ji h.up,fun q hq=>?_⟩;obtain ⟨x,hx,_,rfl⟩:=bm.1 hq;exact h.rng x hx
theorem Pm {S:List SX} {b:BK} (h:Ke S b):DE (BH S b)=[]:=by
 unfold DE;rw [List.map_eq_nil_iff,List.filter_eq_nil_iff];intro s hs;obtain ⟨t,ht,rfl⟩:=List.mem_map.1 (show s∈b.SE.map zS from hs);unfold F6;by_cases c:t.SS=0
 ·have:((zS t).NE.all fun z=>decide (z∈(BH S b).Live))=true:=by rw [List.all_eq_true];intro p hp;exact DT (h t ht c p hp)
  rw [this];simp
 ·rw [DN (show ¬(zS t).SS=0 from c)];simp
theorem xR {P:List Place} {k:Nat} (E:Env P k) {b:BK}:∀(A:List KE) (S:List SX),PlOK P k S b→Ke S b→(∀q∈A,(∀x∈S,x.PE≠q.PE)∧0≤q.PE∧q.PE<k∧∃pl,Ac P q.PE=some pl∧(k:Int)∉pl.Live)→(A.map (·.PE)).Nodup→
  Goes (P.set k (BH S b)) (FX k A) (P.set k (BH (D6 S A) b))
 | [],S,_,_,_,_=>.nil _
 | q::A,S,hp,hw,hA,hn=>by
   obtain ⟨a1,a2,a3,pl,a4,a5⟩:=hA q (by simp);rw [List.map_cons,List.nodup_cons] at hn;have h9:=E.lt;have hm:∀x,x∈Cy S (Cg q)↔x=Cg q∨x∈S:=fun x=>Fk;have hp':PlOK P k (Cy S (Cg q)) b:=⟨Pw hp.up rfl a1,fun x hx=>by
    rcases (hm x).1 hx with rfl | hx
    ·exact ⟨a2,show q.PE<_ by omega,show q.PE≠_ by omega⟩
    ·exact hp.rng x hx,hp.bk⟩
   have hl:∀p,p∈AR (Cy S (Cg q))↔p=q.PE∨p∈AR S:=fun p=>by
    rw [bm,bm];constructor
    ·rintro ⟨x,hx,h1,h2⟩;rcases (hm x).1 hx with rfl | hx
     ·exact .inl h2.symm
     ·exact .inr ⟨x,hx,h1,h2⟩
    ·rintro (rfl | ⟨x,hx,h1,h2⟩)
     ·exact ⟨Cg q,(hm _).2 (.inl rfl),rfl,rfl⟩
     ·exact ⟨x,(hm x).2 (.inr hx),h1,h2⟩
   have hw':Ke (Cy S (Cg q)) b:=fun s hs h0 p hp=>(hl p).2 (.inr (hw s hs h0 p hp));have h8:q.PE∉AR S:=fun h=>by obtain ⟨x,hx,_,e⟩:=bm.1 h;exact a1 x hx e
   obtain ⟨j,hj⟩:∃j:Nat,q.PE=j:=⟨q.PE.toNat,Om⟩
   have h6:Fx ⟨P.set k (BH S b)⟩ ⟨6,k,0,q.PE,[]⟩=(⟨P.set k (BH (Cy S (Cg q)) b)⟩,0):=by
    refine oi E hp.pl rfl (.inl rfl) (Pm hw) hj Om Om ?_ rfl;unfold Gt;rw [if_pos rfl];dsimp only;have hb:EF (P.set k (BH S b)) ⟨6,k,0,q.PE,[]⟩=false:=by unfold EF;rw [Uh _ (show q.PE≠k by omega),a4];exact DN a5
    rw [hb,DN (show ¬q.PE∈(BH S b).Live from h8),DN (show ¬(k:Int)<q.PE by omega),if_pos (show (!false&&false==false)=true from rfl)];congr 1;refine gF (DO _).1 (Ji hp'.up) fun p=>?_;rw [(DO _).2,List.mem_append,List.mem_singleton,show (BH (Cy S (Cg q)) b).Live=AR (Cy S (Cg q)) from rfl,hl];exact Or.comm
   exact .cons h6 (xR E A _ hp' hw' (fun r hr=>by
    obtain ⟨b1,b2,b3,b4⟩:=hA r (List.mem_cons_of_mem _ hr);refine ⟨fun x hx=>?_,b2,b3,b4⟩;rcases (hm x).1 hx with rfl | hx
    ·intro e;exact hn.1 (List.mem_map.2 ⟨r,hr,e.symm⟩)
    ·exact b1 x hx) hn.2)
theorem rF {P:List Place} {k:Nat} (E:Env P k) {S:List SX} {b:BK} (hp:PlOK P k S b) (J:Ke S b) {s:SE} {l:List SE} (hs:b.SE=s::l) (h0:s.SS=0) (hu:∀q∈s.NE,Cz P q k=false) (hk:(k:Int)∉s.NE):
  Goes (P.set k (BH S b)) [⟨1,k,s.ID,0,[]⟩] (P.set k (BH S ⟨b.LA,⟨s.ID,s.NE,1,s.Age⟩::l⟩)):=by
 refine .one (oe E hp.pl rfl ⟨by simp,by simp⟩ (.inr (Pm J)) ?_ rfl);unfold Fv;rw [if_neg (by simp),if_pos rfl];have hg:bK (BH S b).BK=(⟨b.LA,⟨s.ID,s.NE,1,0⟩::l.map zS⟩,s.ID,0):=by unfold bK;rw [show Cw (BH S b).BK=true from Y0 hp.bk,if_pos rfl,show (BH S b).BK.SE=zS s::l.map zS by show b.SE.map zS=_;rw [hs];rfl];dsimp only;rw [if_neg (show ¬(zS s).SS=1 by show ¬s.SS=1;omega)];rfl
 unfold jL;rw [hg];dsimp only;rw [if_pos rfl,if_pos rfl];have:(s.NE.any fun q=>Cz (P.set k (BH S b)) q k)=false:=by rw [List.any_eq_false];intro q hq;have:=hu q hq;unfold Cz at this ⊢;rw [Uh _ (fun e=>hk (e ▸ hq))];rw [this];simp
 rw [this,if_neg (by simp)];simp [BH,zB,zS]
theorem Zx {P:List Place} {k:Nat} (E:Env P k) {S:List SX} {last p:Int} (h6:p∉AR S):∀(d:Nat) (pre l:List SE),l.length=d→(∀s∈pre,Bw p s=false)→PlOK P k S ⟨last,pre++l⟩→
  Goes (P.set k (BH S ⟨last,pre++l⟩)) (G0 k (Co p l)) (P.set k (BH S ⟨last,pre++l.filter fun s=>!Bw p s⟩))
 | _,pre,[],_,_,_=>.nil _
 | 0,pre,s::l,hd,_,_=>by simp at hd
 | d+1,pre,s::l,hd,h8,hp=>by
   have hd:l.length=d:=by simpa using hd
   cases hg:Bw p s with
   | false=>
     have e1:Co p (s::l)=Co p l:=by unfold Co;rw [List.filter_cons,hg];rfl
     have e2:(s::l).filter (fun s=>!Bw p s)=s::l.filter fun s=>!Bw p s:=by rw [List.filter_cons,hg];rfl
     have ih:=Zx E h6 d (pre++[s]) l hd (fun t ht=>by
      rcases List.mem_append.1 ht with ht | ht
      ·exact h8 t ht
      ·simp at ht;rw [ht];exact hg) (by rw [List.append_assoc];exact hp)
     rw [List.append_assoc,List.append_assoc] at ih;rw [e1,e2];exact ih
   | true=>
     have e1:Co p (s::l)=s.ID::Co p l:=by unfold Co;rw [List.filter_cons,hg];rfl
     have e2:(s::l).filter (fun s=>!Bw p s)=l.filter fun s=>!Bw p s:=by rw [List.filter_cons,hg];rfl
     have hg':=hg;unfold Bw at hg';rw [Bool.and_eq_true,decide_eq_true_eq,decide_eq_true_eq] at hg';have hp':PlOK P k S ⟨last,pre++l⟩:=⟨hp.up,hp.rng,by have:=hp.bk.sub (l:=pre++l) (List.Sublist.append (List.Sublist.refl _) (List.sublist_cons_self _ _));exact this⟩
     have hw:C6 (zB ⟨last,pre++s::l⟩) s.ID 0=(zB ⟨last,pre++l⟩,0):=by have h1:=xP hp.bk (pre:=pre) (post:=l) (s:=s) rfl;rw [hg'.1] at h1;have:=YH hp.bk (id:=s.ID) (w:=0) (by rw [h1]);rw [this,h1]
     have h9:Fx ⟨P.set k (BH S ⟨last,pre++s::l⟩)⟩ ⟨5,k,s.ID,0,[]⟩=(⟨P.set k (BH S ⟨last,pre++l⟩)⟩,0):=by
      refine oe E hp.pl rfl ⟨by simp,by simp⟩ (.inl rfl) ?_ rfl;unfold Fv;rw [if_neg (by simp),if_neg (by simp),if_neg (by simp),if_neg (by simp),if_pos rfl];have hA:s.ID∈DE (BH S ⟨last,pre++s::l⟩):=by refine List.mem_map.2 ⟨zS s,List.mem_filter.2 ⟨List.mem_map.2 ⟨s,by simp,rfl⟩,?_⟩,rfl⟩;unfold F6;rw [DT (show (zS s).SS=0 from hg'.1),Bool.true_and,Bool.not_eq_true',←Bool.not_eq_true,List.all_eq_true];intro h;exact h6 (of_decide_eq_true (h p hg'.2))
      rw [if_pos hA,show (BH S ⟨last,pre++s::l⟩).BK=zB ⟨last,pre++s::l⟩ from rfl,hw];rfl
     rw [e1,e2];exact .cons h9 (Zx E h6 d pre l hd h8 hp')
theorem wR {P:List Place} {k:Nat} (U:Env P k) {S S':List SX} {b:BK} (hp:PlOK P k S b) (Y:Ke S b) (J:PlOK P k S' b) {j:Nat} (hj:(j:Int)∈AR S) (h8:j≠k) (h9:j<P.length) (E:∀q,q∈AR S'↔q∈AR S∧q≠j)
  (hb:k<j∨∃pl,Ac P (j:Int)=some pl∧(k:Int)∉pl.Live):Goes (P.set k (BH S b)) (⟨7,k,0,j,[]⟩::G0 k (Co j b.SE)) (P.set k (BH S' ⟨b.LA,b.SE.filter fun s=>!Bw j s⟩)):=by
 have h6:Fx ⟨P.set k (BH S b)⟩ ⟨7,k,0,j,[]⟩=(⟨P.set k (BH S' b)⟩,0):=by
  refine oi U hp.pl rfl (.inr (.inl rfl)) (Pm Y) rfl h8 h9 ?_ rfl;unfold Gt;rw [if_neg (by simp),if_pos rfl];dsimp only;have hc:(decide ((j:Int)∈(BH S b).Live)&&(decide ((k:Int)<j)||!EF (P.set k (BH S b)) ⟨7,k,0,j,[]⟩))=true:=by
   rw [DT (show (j:Int)∈(BH S b).Live from hj),Bool.true_and];rcases hb with hb | ⟨pl,h1,h2⟩
   ·rw [DT Om];rfl
   ·unfold EF;dsimp only;rw [Uh _ Om,h1];dsimp only;rw [DN h2];simp
  rw [hc,if_pos rfl];congr 1;refine gF ((DO _).1.filter _) (Ji J.up) fun q=>?_;rw [List.mem_filter,(DO _).2,show (BH S' b).Live=AR S' from rfl,E];simp [BH]
 have:=Zx U (S:=S') (last:=b.LA) (p:=j) (fun h=>((E j).1 h).2 rfl) b.SE.length [] b.SE rfl (by simp) J;exact .cons h6 this
def B1 (N:List NO):List Place:=N.map Bg
theorem Tm (N:List NO) (k:Nat) (m:NO):B1 (N.set k m)=(B1 N).set k (Bg m):=List.map_set ..
theorem fF {N:List NO} {i:Nat} {a:NO} (h:N[i]?=some a):(B1 N)[i]?=some (Bg a):=by unfold B1;rw [List.getElem?_map,h];rfl
theorem dK (N:List NO):(B1 N).length=N.length:=by simp [B1]
structure HB (N:List NO) (M:List ML):Prop where
 nodes:∀(i:Nat) a,N[i]?=some a→a.DK.DI.ID=i∧OkN a
 len:N.length≤64
 pi:PI N M
 no:YR N
 got:∀a∈N,BZ a.DK
theorem HI.hb {h:HL} (hh:HI h) (hg:bC h):HB h.NS h.ML:=⟨hh.ok.nodes,hh.ok.len,hh.pi,hh.no,hg⟩
theorem HB.set {N:List NO} {M M':List ML} (h:HB N M) {k:Nat} {n m:NO} (hn:N[k]?=some n) (hp:PI (N.set k m) M') (h6:m.DK.DI.ID=k) (hok:OkN m) (h8:∀q:Int,¬(0≤q∧q<N.length)→(Az m q).sd=none∧(Az m q).ak=none) (hg:BZ m.DK):HB (N.set k m) M':=by
 refine ⟨fun i a ha=>?_,by rw [List.length_set];exact h.len,hp,fun i a ha q hq=>?_,fun a ha=>?_⟩
 ·rw [Fw hn] at ha;split at ha
  ·rename_i e;cases ha;exact ⟨by rw [h6,e],hok⟩
  ·exact h.nodes i a ha
 ·rw [List.length_set] at hq;rw [Fw hn] at ha;split at ha
  ·cases ha;exact h8 q hq
  ·exact h.no i a ha q hq
 ·rcases List.mem_or_eq_of_mem_set ha with ha | rfl
  ·exact h.got a ha
  ·exact hg
theorem HB.self {N:List NO} {M:List ML} (h:HB N M) {k:Nat} {n:NO} (hn:N[k]?=some n):OkN n∧n.DK.DI.ID=k∧BZ n.DK:=⟨(h.nodes k n hn).2,(h.nodes k n hn).1,h.got n (List.mem_of_getElem? hn)⟩
theorem HB.pl {N:List NO} {M:List ML} (h:HB N M) {k:Nat} {n:NO} (hn:N[k]?=some n):PlOK (B1 N) k n.DK.DI.SD n.BK:=by
 obtain ⟨hok,h6,_⟩:=h.self hn;refine ⟨hok.dr.din.up,fun x hx=>?_,(CR _).1 hok.bk⟩;have h0:=hok.peer0 hx;have h1:0≤x.PE∧x.PE<N.length:=Classical.byContradiction fun hq=>by have:=(h.no k n hn x.PE hq).1;rw [show (Az n x.PE).sd=some x from Gk hok.dr.din.up hx] at this;simp at this
 rw [dK];exact ⟨h1.1,h1.2,Om⟩
theorem OkN.wtS {n:NO} (h:OkN n):Ke n.DK.DI.SD n.BK:=fun s hs h0 p hp=>bm.2 (h.wt s hs h0 p hp)
theorem HB.env {N:List NO} {M:List ML} (h:HB N M) {k:Nat} {n:NO} (hn:N[k]?=some n):Env (B1 N) k:=by have:=(List.getElem?_eq_some_iff.1 hn).1;refine ⟨by rw [dK];exact h.len,by rw [dK];exact this,fun i p _ hp=>?_⟩;unfold B1 at hp;rw [List.getElem?_map] at hp;obtain ⟨a,ha,rfl⟩:=Option.map_eq_some_iff.1 hp;exact (h.pl ha).pl
theorem JT {N:List NO} {k:Nat} {n:NO} (hn:N[k]?=some n):(B1 N).set k (Bg n)=B1 N:=by
 apply List.ext_getElem?;intro i;rw [List.getElem?_set];split
 ·rename_i e;subst e;have:=(List.getElem?_eq_some_iff.1 hn).1;rw [if_pos (by rw [dK];exact this),fF hn]
 ·rfl
theorem HB.live {N:List NO} {M:List ML} (h:HB N M) {j:Nat} {b:NO} (hb:N[j]?=some b) (p:Int):p∈(Bg b).Live↔∃y,(Az b p).sd=some y∧y.SS=0:=by
 show p∈AR b.DK.DI.SD↔_;rw [bm];constructor
 ·rintro ⟨x,hx,h0,rfl⟩;exact ⟨x,Gk (h.self hb).1.dr.din.up hx,h0⟩
 ·rintro ⟨y,hy,h0⟩;obtain ⟨h1,h2⟩:=IK (show B7 b.DK.DI.SD p=some y from hy);exact ⟨y,h1,h0,h2⟩
theorem cW {a:NO} (h:OkN a) {N:List NO} {j:Nat} (ha:N[j]?=some a) {q:Int} (hu:Cz (B1 N) j q=true):UK a q:=by
 unfold Cz at hu;rw [Ar (fF ha)] at hu;obtain ⟨s,hs,h1⟩:=List.any_eq_true.1 hu;rw [Bool.and_eq_true,decide_eq_true_eq,decide_eq_true_eq] at h1;obtain ⟨t,ht,rfl⟩:=List.mem_map.1 (show s∈a.BK.SE.map zS from hs);have h6:=(CR _).1 h.bk;cases hb:a.BK.SE with
 | nil=>rw [hb] at ht;simp at ht
 | cons u l=>
   rw [hb] at ht;rcases List.mem_cons.1 ht with rfl | ht
   ·exact ⟨t,l,hb,h1.1,h1.2⟩
   ·have h0:=h6.tl t (by rw [hb];exact ht);have h2:t.SS=1:=h1.1;omega
theorem ZQ {S S':List SX} (h:S'.map CN=S.map CN):AR S'=AR S:=by
 have e:∀S:List SX,AR S=((S.map CN).filter fun c=>decide (c.2.2=0)).map (·.1):=fun S=>by unfold AR;rw [List.filter_map,List.map_map];rfl
 rw [e,e,h]
theorem sW {id th:Int} {L:List Int} {S:List SX} (hu:S.Pairwise fun x y=>x.PE<y.PE) (E:(B0 id th L S).Pairwise fun x y=>x.PE<y.PE):AR (B0 id th L S)=AR S:=by
 refine gF (Ji E) (Ji hu) fun p=>?_;rw [bm,bm];constructor
 ·rintro ⟨x,hx,h0,e⟩;obtain ⟨y,hy,hc⟩:=Tp hx;rcases hc with ⟨rfl,_⟩ | ⟨_,_,rfl⟩
  ·exact ⟨x,hy,h0,e⟩
  ·simp at h0
 ·rintro ⟨x,hx,h0,e⟩;refine ⟨x,List.mem_filterMap.2 ⟨x,hx,?_⟩,h0,e⟩;unfold DJ;cases hg:C1 th L x with
  | false=>rfl
  | true=>have:=i5 hg;omega
theorem xS:∀ {A:List KE},(A.map (·.PE)).Nodup→∀ {q:KE},q∈A→DC A q.PE=some q.EP
 | [],_,_,h=>by simp at h
 | k::A,hd,q,h=>by
   rw [List.map_cons,List.nodup_cons] at hd;rw [xF];rcases List.mem_cons.1 h with rfl | h
   ·rw [if_pos rfl]
   ·rw [if_neg (fun e=>hd.1 (List.mem_map.2 ⟨q,h,e.symm⟩)),xS hd.2 h]
theorem HB.once {N:List NO} {M:List ML} (h:HB N M) {k:Nat} {n:NO} (hn:N[k]?=some n):HB (N.set k (AN n)) (M++E6 n):=by obtain ⟨hok,h8,hg⟩:=h.self hn;have h6:=fun q=>xI hok q;rw [h8] at h6;refine h.set hn (h.pi.move hn (fun m hm=>by rw [←h8];exact (nX hok hm).1) h6) ((gz n).trans h8) hok.once (fun q hq=>?_) (fA hok hg);exact ((h6 q).still (h.no k n hn q hq)).2
theorem tG {N:List NO} {M:List ML} (h:HB N M) {k:Nat} {n:NO} (hn:N[k]?=some n):Goes (B1 N) (bA n) (B1 (N.set k (AN n))):=by
 obtain ⟨hok,h9,hC⟩:=h.self hn;have hE:=h.env hn;have hV:=(List.getElem?_eq_some_iff.1 hn).1;have g1:Goes (B1 N) (Ha n) ((B1 N).set k (Bg (AZ n))):=by
  unfold Ha AZ;by_cases hP:n.DK.DI.PH=2
  ·rw [if_pos hP,if_pos hP,JT hn];exact .nil _
  ·rw [if_neg hP,if_neg hP,h9];have:=xR hE n.AK n.DK.DI.SD (h.pl hn) hok.wtS (fun q hq=>?_) hok.dis
   ·rw [show BH n.DK.DI.SD n.BK=Bg n from rfl,JT hn] at this;exact this
   ·obtain ⟨m1,m2,m3,_⟩:=hok.may q hq;obtain ⟨j,hj⟩:∃j:Nat,q.PE=j:=⟨q.PE.toNat,Om⟩
    obtain ⟨b,hb⟩:∃b,N[j]?=some b:=⟨_,List.getElem?_eq_getElem Om⟩
    refine ⟨m1,m2,Om,Bg b,by rw [hj];exact Ar (fF hb),fun hl=>?_⟩;obtain ⟨y,hy,y0⟩:=(h.live hb k).1 hl;have hE:=h.pi j k b n Om hb hn;have h6:(Az n j).ak=some q.EP:=by show DC n.AK j=some q.EP;rw [←hj];exact xS hok.dis hq
    cases hE with
    | sk x ha hx hn' he ht=>rw [ha] at hy;cases hy;omega
    | no _ _ hk=>rw [hk] at h6;simp at h6
    | op _ _ _ _ _ _ _ hk=>rw [hk] at h6;simp at h6
    | nw _ _ _ _ _ _ _ _ hk=>rw [hk] at h6;simp at h6
    | kw _ _ _ _ _ _ _ _ _ _ _ _ hk=>rw [hk] at h6;simp at h6
    | lv _ _ _ _ _ _ _ _ hk=>rw [hk] at h6;simp at h6
    | cl _ _ _ _ _ _ _ _ _ _ hk=>rw [hk] at h6;simp at h6
    | lg _ _ _ _ _ _ _ _ hk=>rw [hk] at h6;simp at h6
    | cd _ _ _ _ _ _ hk=>rw [hk] at h6;simp at h6
 have h8:=hok.pre;have hR:=fp (Bj n).DK;have e1:Bg (Aw n)=Bg (AZ n):=by
  have hQ:(Bj n).DK.DI.SD=(AZ n).DK.DI.SD:=by
   have e:(BM (AZ n)).DK.DI=(AZ n).DK.DI:=by
    unfold BM CJ;dsimp only;split
    ·split<;>rfl
    ·rfl
   show (BM (AZ n)).DK.DI.SD=_;rw [e]
  unfold Bg BH;rw [show (Aw n).BK=(AZ n).BK from rfl,show AR (Aw n).DK.DI.SD=AR (AZ n).DK.DI.SD from (ZQ hR.core).trans (by rw [hQ])]
 have hO:PI (N.set k (Aw n)) (M++(Gq n++(Bv (Bj n).DK).2)):=by
  refine h.pi.move hn (fun m hm=>by rw [←h9];refine (nX hok (m:=m) ?_).1;unfold E6;rcases List.mem_append.1 hm with hm | hm;exact List.mem_append_left _ hm;exact List.mem_append_right _ (List.mem_append_left _ hm)) fun q=>?_;have h1:=cn hok q;have e2:Az (Bj n) q=Az (AZ n) q:=by
   have:(BM (AZ n)).DK.DI=(AZ n).DK.DI:=by
    unfold BM CJ;dsimp only;split
    ·split<;>rfl
    ·rfl
   unfold Bj BB Az;dsimp only;rw [this];rfl
  have h3:=co (n:=Bj n) h8.dr.din.up (decide (n.DK.DI.ID<q)) q;rw [cD];rw [←e2] at h1;have:=LsE.trans _ _ _ _ _ h1 h3;rw [h9] at this;exact this
 have hI:BZ (Aw n).DK:=by
  have h1:BZ (AZ n).DK:=by
   unfold AZ;split
   ·exact hC
   ·refine Pr hC fun x hx hn=>?_;rcases Pc.1 hx with hx | ⟨k,hk,rfl⟩
    ·exact .inr ⟨x,hx,rfl,rfl⟩
    ·obtain ⟨z,hz,e⟩:=hok.dr.has _ hn;exact absurd e ((hok.may k hk).1 z hz)
  have h2:BZ (Bj n).DK:=by
   have:BZ (BM (AZ n)).DK:=by
    unfold BM CJ;dsimp only;split
    ·split
     ·intro h2;simp at h2
     ·exact h1
    ·exact h1
   exact this
  exact uw h2
 have g2:Goes ((B1 N).set k (Bg (AZ n))) (CO (Aw n)) ((B1 N).set k (Bg (AL (Aw n)))):=by
  rw [←e1];have hS:(Aw n).BK=(Bj n).BK:=rfl;cases hw:Cf (Aw n) with
  | none=>
    have e2:CO (Aw n)=[]:=by unfold CO;rw [hw]
    have e3:bp (Aw n)=(Aw n).BK:=by
     unfold Cf at hw;unfold bp;cases hs:(Aw n).BK.SE with
     | nil=>rfl
     | cons s l=>
       rw [hs] at hw;dsimp only at hw ⊢;split at hw
       ·simp at hw
       ·rename_i hc;rw [if_neg hc]
    rw [e2,show Bg (AL (Aw n))=Bg (Aw n) by unfold Bg AL;rw [e3]];exact .nil _
  | some s=>
    unfold Cf at hw;cases hs:(Aw n).BK.SE with
    | nil=>rw [hs] at hw;simp at hw
    | cons s' l=>
      rw [hs] at hw;dsimp only at hw;split at hw
      ·rename_i h0;cases hw;by_cases ht:(Aw n).DK.TH=2
       ·have e2:CO (Aw n)=[⟨1,k,s.ID,0,[]⟩]:=by unfold CO Cf;rw [hs];dsimp only;rw [if_pos h0];dsimp only;rw [if_pos ht,show (Aw n).DK.DI.ID=k from (b7 n).trans h9]
        have e3:bp (Aw n)=⟨(Aw n).BK.LA,⟨s.ID,s.NE,1,s.Age⟩::l⟩:=by unfold bp;rw [hs];dsimp only;rw [if_pos h0,if_pos ht]
        have hA:OkN (AL (Aw n)):=h8.firgra;have hJ:s.NE=(Aw n).DK.NE:=by
         have h2:(Bj n).DK.TH≠0:=by
          rcases hR.th with e | ⟨e,_⟩
          ·rw [show (Bv (Bj n).DK).1=(Aw n).DK from rfl] at e;omega
          ·omega
         rcases h8.hq with e | e
         ·exact absurd e h2
         ·unfold ga at e;rw [←hS,hs] at e;have e:=of_decide_eq_true e;rw [e,←hR.need];rfl
        have hB:∀q∈s.NE,∃x,B7 (Aw n).DK.DI.SD q=some x∧x.BO=true:=fun q hq=>by rw [hJ] at hq;obtain ⟨x,hx,e⟩:=hA.dr.has q hq;exact ⟨x,by rw [←e];exact Gk hA.dr.din.up hx,hI ht x hx (by rw [e];exact hq)⟩
        have hD:PlOK (B1 N) k (Aw n).DK.DI.SD (Aw n).BK:=by
         refine ⟨hA.dr.din.up,fun x hx=>?_,(CR _).1 h8.bk⟩;have h0:=hA.peer0 hx;have hU:(AL (Aw n)).DK.DI.ID=k:=(b7 n).trans h9;have h1:0≤x.PE∧x.PE<N.length:=Classical.byContradiction fun hq=>by
          have hK:=((LsE.trans _ _ _ _ _ (cn hok x.PE) (by
           have h3:=co (n:=Bj n) h8.dr.din.up (decide (n.DK.DI.ID<x.PE)) x.PE;have e2:Az (Bj n) x.PE=Az (AZ n) x.PE:=by
            have:(BM (AZ n)).DK.DI=(AZ n).DK.DI:=by
             unfold BM CJ;dsimp only;split
             ·split<;>rfl
             ·rfl
            unfold Bj BB Az;dsimp only;rw [this];rfl
           rw [e2] at h3;exact h3)).still (h.no k n hn x.PE hq)).2.1
          rw [show (Az (BI (Bj n)) x.PE).sd=some x from Gk hA.dr.din.up hx] at hK;simp at hK
         rw [dK];exact ⟨h1.1,h1.2,Om⟩
        have hT:Ke (Aw n).DK.DI.SD (Aw n).BK:=fun t ht' h0' p hp=>by obtain ⟨x,hx,x0,xp⟩:=h8.wt t ht' h0' p hp;have:p∈AR (Bj n).DK.DI.SD:=bm.2 ⟨x,hx,x0,xp⟩;rw [←ZQ hR.core] at this;exact this
        rw [e2,show Bg (AL (Aw n))=BH (Aw n).DK.DI.SD ⟨(Aw n).BK.LA,⟨s.ID,s.NE,1,s.Age⟩::l⟩ by unfold Bg AL;rw [e3]];refine rF hE hD hT hs h0 (fun q hq=>?_) (fun hq=>?_)
        ·cases hu:Cz (B1 N) q k with
         | false=>rfl
         | true=>
           exfalso;obtain ⟨x,hx,bx⟩:=hB q hq;obtain ⟨hG,hL⟩:=IK hx;obtain ⟨r1,r2,r3⟩:=hD.rng x hG;rw [dK] at r2;obtain ⟨j,hj⟩:∃j:Nat,q=j:=⟨q.toNat,Om⟩
           subst hj;obtain ⟨a,ha⟩:∃a,N[j]?=some a:=⟨_,List.getElem?_eq_getElem Om⟩
           obtain ⟨ao,_,ag⟩:=h.self ha;obtain ⟨y,hy,by'⟩:=jI ao ag (cW ao ha hu);have hN:j≠k:=by omega
           have hb:=hO.both (fun e=>hN e.symm) (show (N.set k (Aw n))[k]?=some (Aw n) by rw [Fw hn,if_pos rfl]) (show (N.set k (Aw n))[j]?=some a by rw [Fw hn,if_neg hN];exact ha) hx hy;have:=hb.2 3 (.inr (.inr (.inl rfl)));simp [BF,bx,by',bn] at this;omega
        ·obtain ⟨x,hx,_⟩:=hB k hq;obtain ⟨hG,hL⟩:=IK hx;exact (hD.rng x hG).2.2 hL
       ·have e2:CO (Aw n)=[]:=by unfold CO Cf;rw [hs];dsimp only;rw [if_pos h0];dsimp only;rw [if_neg ht]
        have e3:bp (Aw n)=(Aw n).BK:=by unfold bp;rw [hs];dsimp only;rw [if_pos h0,if_neg ht]
        rw [e2,show Bg (AL (Aw n))=Bg (Aw n) by unfold Bg AL;rw [e3]];exact .nil _
      ·simp at hw
 have e4:Bg (AN n)=Bg (AL (Aw n)):=by have h1:=hok.once.dr.din.up;have h2:=h8.firgra.dr.din.up;unfold Bg BH;rw [show (AN n).BK=(AL (Aw n)).BK from rfl,show AR (AN n).DK.DI.SD=AR (AL (Aw n)).DK.DI.SD from sW h2 h1]
 unfold bA;rw [Tm,e4];exact g1.app g2
theorem xT {N:List NO} {M:List ML} (h:HB N M) {k:Nat} {n:NO} (hn:N[k]?=some n) (J:List EV):∃V',(BE n [] J).2.2=J++V'∧Goes (B1 N) V' (B1 (N.set k (BE n [] J).1)):=by
 have kk:∀m:NO,(N.set k m)[k]?=some m:=fun m=>by rw [Fw hn,if_pos rfl]
 have h0:N.set k n=N:=by
  apply List.ext_getElem?;intro i;rw [Fw hn];split
  ·rename_i e;rw [e,hn]
  ·rfl
 exact (fu (P:=fun m E V=>HB (N.set k m) (M++E)∧∃V',V=J++V'∧Goes (B1 N) V' (B1 (N.set k m))) (fun m E V hm hP=>by obtain ⟨p1,V',rfl,p2⟩:=hP;have q1:=p1.once (kk m);have q2:=tG p1 (kk m);rw [List.set_set,List.append_assoc] at q1;rw [List.set_set] at q2;exact ⟨q1,V'++bA m,by rw [List.append_assoc],p2.app q2⟩) (h.self hn).1 ⟨by rw [h0,List.append_nil];exact h,[],by simp,by rw [h0];exact .nil _⟩).2
theorem Md {N:List NO} {k:Nat} {n m:NO} (hn:N[k]?=some n) (h:Bg m=Bg n):Goes (B1 N) [] (B1 (N.set k m)):=by rw [Tm,h,JT hn];exact .nil _
theorem xU {S S':List SX} (hu:S.Pairwise fun x y=>x.PE<y.PE) (E:S'.Pairwise fun x y=>x.PE<y.PE) (h:∀x:SX,x.SS=0→(x∈S'↔x∈S)):AR S'=AR S:=by refine gF (Ji E) (Ji hu) fun p=>?_;rw [bm,bm];exact ⟨fun ⟨x,h1,h2,h3⟩=>⟨x,(h x h2).1 h1,h2,h3⟩,fun ⟨x,h1,h2,h3⟩=>⟨x,(h x h2).2 h1,h2,h3⟩⟩
theorem HB.sess {N:List NO} {M:List ML} (h:HB N M) {k:Nat} {n m:NO} (hn:N[k]?=some n) {e:EV} (J:AR m.DK.DI.SD=AR n.DK.DI.SD) (he:e.NO=k) (E:0≤e.KI∧e.KI≤5) (hs:Fv (B1 N) (Bg n) e=(zB m.BK,0)):Goes (B1 N) [e] (B1 (N.set k m)):=by have:=oe (h.env hn) (p:=Bg n) (p':=Bg m) (h.pl hn).pl he E (.inr (Pm (h.self hn).1.wtS)) (by rw [JT hn];exact hs) J;rw [JT hn] at this;rw [Tm];exact .one this
theorem yP {b:BK} {hold:Int} (h:BkOK b) (h0:(Dk b hold).2=0):zB (Dk b hold).1=zB b:=by
 unfold Dk at h0 ⊢;cases hs:b.SE with
 | nil=>rfl
 | cons s l=>
   rw [hs] at h0;dsimp only at h0 ⊢;have h6:=(h.ok s (by rw [hs];simp)).lo;split
   ·rename_i h1;rw [if_pos h1] at h0;split
    ·unfold zB;rw [hs];rfl
    ·rename_i h2;rw [if_neg h2] at h0;dsimp only at h0;omega
   ·rfl
theorem xj {b:BK} {hold:Int} (h:BkOK b) (h0:(Dk b hold).2≠0):C6 b (Dk b hold).2 1=((Dk b hold).1,0):=by
 unfold Dk at h0 ⊢;cases hs:b.SE with
 | nil=>rw [hs] at h0;exact absurd rfl h0
 | cons s l=>
   rw [hs] at h0;dsimp only at h0 ⊢;split
   ·rename_i h1;rw [if_pos h1] at h0;split
    ·rename_i h2;rw [if_pos h2] at h0;exact absurd rfl h0
    ·have:=xP h (pre:=[]) (post:=l) (s:=s) hs;rw [h1] at this;exact this
   ·rename_i h1;rw [if_neg h1] at h0;exact absurd rfl h0
theorem HB.shut {N:List NO} {M:List ML} (h:HB N M) {k:Nat} {n:NO} (hn:N[k]?=some n) {j:Nat} {x:SX} (hj:n.DK.DI.SD[j]?=some x) (h0:x.SS=0) (hok:OkN (Bp n j x))
  (hb:(k:Int)<x.PE∨∃b,Ac (B1 N) x.PE=some b∧(k:Int)∉b.Live):Goes (B1 N) (Ez n x.PE) (B1 (N.set k (Bp n j x))):=by
 obtain ⟨ho,h8,_⟩:=h.self hn;have hp:=h.pl hn;have h6:=List.mem_of_getElem? hj;obtain ⟨r1,r2,r3⟩:=hp.rng x h6;obtain ⟨q,hq⟩:∃q:Nat,x.PE=q:=⟨x.PE.toNat,Om⟩
 have esd:(Bp n j x).DK.DI.SD=n.DK.DI.SD.set j {x with SS:=2}:=by unfold Bp;split<;>rfl
 have hm:=fun {z:SX}=>K5 (z:=z) hp.up hj {x with SS:=2};have hu':=hok.dr.din.up;rw [esd] at hu';have hp':PlOK (B1 N) k (n.DK.DI.SD.set j {x with SS:=2}) n.BK:=⟨hu',fun z hz=>by
  rcases hm.1 hz with rfl | ⟨hz,_⟩
  ·exact ⟨r1,r2,r3⟩
  ·exact hp.rng z hz,hp.bk⟩
 have hS:∀p,p∈AR (n.DK.DI.SD.set j {x with SS:=2})↔p∈AR n.DK.DI.SD∧p≠q:=fun p=>by
  rw [bm,bm];constructor
  ·rintro ⟨z,hz,z0,rfl⟩;rcases hm.1 hz with rfl | ⟨hz,hne⟩
   ·simp at z0
   ·exact ⟨⟨z,hz,z0,rfl⟩,Om⟩
  ·rintro ⟨⟨z,hz,z0,rfl⟩,hne⟩;exact ⟨z,hm.2 (.inr ⟨hz,Om⟩),z0,rfl⟩
 have:=wR (h.env hn) hp ho.wtS hp' (j:=q) (by rw [←hq];exact bm.2 ⟨x,h6,h0,rfl⟩) Om Om hS (by
  rw [←hq];rcases hb with hb | hb
  ·exact .inl Om
  ·exact .inr hb)
 rw [show BH n.DK.DI.SD n.BK=Bg n from rfl,JT hn,←hq] at this;unfold Ez;rw [h8,Tm,show Bg (Bp n j x)=BH (n.DK.DI.SD.set j {x with SS:=2}) ⟨n.BK.LA,n.BK.SE.filter fun s=>!Bw x.PE s⟩ by unfold Bg;rw [esd];rfl];exact this
theorem nJ {N:List NO} {M:List ML} (h:HB N M) {k:Nat} {n:NO} {a:Do} (hn:N[k]?=some n) (h0:(B9 n a).1=0):Goes (B1 N) (B9 n a).2.2 (B1 (N.set k (B9 n a).2.1)):=by
 obtain ⟨ho,h8,_⟩:=h.self hn;have h6:=(CR _).1 ho.bk;have hok:=(Pa ho h0).1;revert h0 hok;unfold B9;split
 ·unfold CF;split
  ·split
   ·rename_i k0 e0;split
    ·rename_i h9;intro _ _;refine h.sess hn (m:=LV n (DA n.BK a.ID a.NE).1) rfl h8 ⟨by simp,by simp⟩ ?_;unfold Fv;rw [if_pos rfl];dsimp only;rw [show (Bg n).BK=zB n.BK from rfl,yN h6 e0,if_pos rfl,if_pos]
     ·rfl
     ·rw [List.all_eq_true] at h9 ⊢;intro p hp;have:=of_decide_eq_true (h9 p (((DO a.NE).2 p).1 hp));exact DT this
    ·intro h0;simp at h0
   ·rename_i hc;intro h0;exact absurd h0 hc
  ·split
   ·split
    ·rename_i e0;intro _ _;refine h.sess hn (m:=dO n (C6 n.BK a.ID 1).1) rfl h8 ⟨by simp,by simp⟩ ?_;unfold Fv;rw [if_neg (by simp),if_neg (by simp),if_pos rfl];dsimp only;rw [show (Bg n).BK=zB n.BK from rfl,YH h6 e0];rfl
    ·rename_i hc;intro h0;exact absurd h0 hc
   ·split
    ·split
     ·rename_i e0;intro _ _;have hs:Fv (B1 N) (Bg n) ⟨3,n.DK.DI.ID,a.ID,0,[]⟩=(zB (C6 n.BK a.ID 0).1,0):=by unfold Fv;rw [if_neg (by simp),if_neg (by simp),if_neg (by simp),if_neg (by simp),if_neg (by simp),if_pos rfl];dsimp only;rw [show (Bg n).BK=zB n.BK from rfl,YH h6 e0];rfl
      dsimp only;split
      ·exact h.sess hn rfl h8 ⟨by simp,by simp⟩ hs
      ·exact h.sess hn rfl h8 ⟨by simp,by simp⟩ hs
     ·rename_i hc;intro h0;exact absurd h0 hc
    ·split
     ·split
      ·rename_i e0;intro _ _;refine Md hn ?_;unfold Bg BH;rw [show (LV n (Dk n.BK a.Hold).1).BK=(Dk n.BK a.Hold).1 from rfl,yP h6 e0];rfl
      ·rename_i e0;intro _ _;have e1:=xj h6 e0;refine h.sess hn (m:=dO n (Dk n.BK a.Hold).1) rfl h8 ⟨by simp,by simp⟩ ?_;unfold Fv;rw [if_neg (by simp),if_neg (by simp),if_neg (by simp),if_pos rfl];dsimp only;rw [show (Bg n).BK=zB n.BK from rfl,YH h6 (by rw [e1]),e1];rfl
     ·intro _ _;exact Md hn rfl
 ·split
  ·split
   ·cases hp:C7 n.DK.DI.SD a.PE with
    | some j=>intro h0;simp at h0
    | none=>
      dsimp only;split
      ·intro _ hok;refine Md hn ?_;unfold Bg BH;rw [show (ct n (addS n a.PE) n.AK).BK=n.BK from rfl,show AR (ct n (addS n a.PE) n.AK).DK.DI.SD=AR n.DK.DI.SD from xU ho.dr.din.up hok.dr.din.up fun x hx=>?_];refine (Fk (S:=n.DK.DI.SD) (x:=addS n a.PE)).trans ⟨fun e=>?_,.inr⟩;rcases e with rfl | e
       ·simp [addS] at hx
       ·exact e
      ·intro h0;simp at h0
   ·intro h0;simp at h0
  ·split
   ·split
    ·rename_i hlt;cases hp:C7 n.DK.DI.SD a.PE with
     | none=>intro h0;simp at h0
     | some j=>
       obtain ⟨x,hx,e⟩:=Lu hp;dsimp only;rw [hx];dsimp only;split
       ·rename_i x0;intro _ hok;rw [←e];exact h.shut hn hx x0 hok (.inl Om)
       ·intro h0;simp at h0
    ·intro h0;simp at h0
   ·intro h0;simp at h0
theorem HB.edge {N:List NO} {M:List ML} (h:HB N M) {k:Nat} {n m:NO} (hn:N[k]?=some n) {e:EV} (he:e.NO=k) (E:e.KI=6∨e.KI=7∨e.KI=8) {q:Nat} (hq:e.PE=q) (h6:q≠k) (h8:q<N.length)
  (hs:Gt (B1 N) (Bg n) e=((Bg m).Live,0)) (hl:m.BK=n.BK):Goes (B1 N) [e] (B1 (N.set k m)):=by
 have:=oi (h.env hn) (p:=Bg n) (p':=Bg m) (h.pl hn).pl he E (Pm (h.self hn).1.wtS) hq h6 (by rw [dK];exact h8) (by rw [JT hn];exact hs) (by show zB m.BK=zB n.BK;rw [hl]);rw [JT hn] at this;rw [Tm];exact .one this
theorem HI.head {h:HL} (hh:HI h) {a:Int} {k i:Nat} {n:NO} {m:ML} (hn:h.NS[k]?=some n) (hi:(h.ML.findIdx? fun m=>decide (m.From=a)&&decide (m.To=(k:Int)))=some i) (hm:h.ML[i]?=some m):
  ∃(s:Nat) (b:NO),a=s∧s≠k∧h.NS[s]?=some b∧(s<k→∃l w,EI (Az b k) (Az n s) (m.Msg::l) w)∧(k<s→∃l w,EI (Az n s) (Az b k) w (m.Msg::l)):=by
 obtain ⟨_,_,e1,_⟩:=xJ hi hm;obtain ⟨s,hs,h6,h8,_⟩:=hh.get1 hn hi hm;subst hs;obtain ⟨b,hb⟩:∃b,h.NS[s]?=some b:=⟨_,List.getElem?_eq_getElem h6⟩
 refine ⟨s,b,rfl,h8,hb,fun hlt=>?_,fun hlt=>?_⟩
 ·have hE:=hh.pi s k b n hlt hb hn;rw [e1] at hE;exact ⟨_,_,hE⟩
 ·have hE:=hh.pi k s n b hlt hn hb;rw [e1] at hE;exact ⟨_,_,hE⟩
theorem FQ {e:Int} {m:Msg} {l:List Msg} (h:Bq e (m::l)) (hk:5≤m.KI):False:=by have:=(h m (by simp)).1.1;unfold Hk at this;omega
theorem Zk {α:Type} {m x:α} {l u w:List α} (h:m::l=u++x::w):m=x∨m∈u:=by
 cases u with
 | nil=>exact .inl (List.cons.inj h).1
 | cons y u=>exact .inr (by rw [(List.cons.inj h).1];simp)
theorem cS {e:Int} {m:Msg} {u:List Msg} (h:Bq e u) (hm:m∈u) (hk:5≤m.KI):False:=by have:=(h m hm).1.1;unfold Hk at this;omega
theorem EI.came6 {a b:Vw} {ab l:List Msg} {m:Msg} (h:EI a b ab (m::l)) (hk:m.KI=6):∃y,b.sd=some y∧y.SS=0:=by
 have h5:5≤m.KI:=by omega
 cases h with
 | no _ _ _ _ _ h2=>exact absurd (FQ h2 h5) id
 | op _ _ _ _ _ _ _ _ _ _ h2=>exact absurd (FQ h2 h5) id
 | nw _ _ _ _ _ _ _ _ _ _ _ _ h2=>exact absurd (FQ h2 h5) id
 | sk _ _ _ _ _ _ _ _ _ _ h2=>exact absurd (FQ h2 h5) id
 | kw _ y _ _ _ _ _ _ _ hb hy=>exact ⟨y,hb,hy⟩
 | lv _ y _ _ _ hb hy=>exact ⟨y,hb,hy⟩
 | cl _ y _ _ _ _ _ hb hy=>exact ⟨y,hb,hy⟩
 | lg _ _ _ _ _ _ _ _ _ _ _ h2=>exact absurd (FQ h2 h5) id
 | cd _ u _ _ _ _ _ _ hba _ h2=>
   rcases Zk hba with e | e
   ·rw [e] at hk;simp at hk
   ·exact absurd (cS h2 e h5) id
theorem EI.came8 {a b:Vw} {ab l:List Msg} {m:Msg} (h:EI a b ab (m::l)) (hk:m.KI=8):b.sd=none:=by
 have h5:5≤m.KI:=by omega
 cases h with
 | no _ hb=>exact hb
 | op _ _ _ _ _ _ hb=>exact hb
 | nw _ _ _ _ _ _ _ hb=>exact hb
 | sk _ _ _ _ _ _ hb=>exact hb
 | kw _ _ u _ _ _ _ _ _ _ _ _ _ _ hba h1=>
   rcases Zk hba with e | e
   ·rw [e] at hk;simp at hk
   ·exact absurd (cS h1 e h5) id
 | lv _ _ _ _ _ _ _ _ _ _ _ h2=>exact absurd (FQ h2 h5) id
 | cl _ _ _ _ _ _ _ _ _ _ _ _ _ _ _ h2=>exact absurd (FQ h2 h5) id
 | lg _ _ _ _ _ _ _ _ _ _ _ h2=>exact absurd (FQ h2 h5) id
 | cd _ _ _ _ _ hb=>exact hb
theorem EI.came7 {a b:Vw} {ba l:List Msg} {m:Msg} (h:EI a b (m::l) ba) (hk:m.KI=7):∃x,a.sd=some x∧x.SS=3:=by
 have h5:5≤m.KI:=by omega
 cases h with
 | no _ _ _ _ h1=>exact absurd (FQ h1 h5) id
 | op _ _ _ _ _ _ _ _ _ h1=>exact absurd (FQ h1 h5) id
 | nw _ u _ _ _ _ _ _ _ _ hab h1=>
   rcases Zk hab with e | e
   ·rw [e] at hk;simp at hk
   ·exact absurd (cS h1 e h5) id
 | sk _ _ _ _ _ _ _ _ _ h1=>exact absurd (FQ h1 h5) id
 | kw _ _ _ _ _ _ _ _ _ _ _ _ _ _ _ _ _ h3=>exact absurd (FQ h3 h5) id
 | lv _ _ _ _ _ _ _ _ _ _ h1=>exact absurd (FQ h1 h5) id
 | cl x _ _ _ ha hx=>exact ⟨x,ha,hx⟩
 | lg x _ ha hx=>exact ⟨x,ha,hx⟩
 | cd x _ ha hx=>exact ⟨x,ha,hx⟩
theorem qV {h:HL} (hh:HI h) (hg:bC h) {a:Int} {k i:Nat} {n:NO} {m:ML} (hn:h.NS[k]?=some n) (hi:(h.ML.findIdx? fun m=>decide (m.From=a)&&decide (m.To=(k:Int)))=some i) (hm:h.ML[i]?=some m):
  Goes (B1 h.NS) (Bc n a m.Msg).2.2 (B1 (h.NS.set k (Bc n a m.Msg).2.1)):=by
 have hB:=hh.hb hg;obtain ⟨ho,h8,_⟩:=hB.self hn;obtain ⟨_,_,_,_,_,_,g0,_⟩:=hh.get1 hn hi hm;obtain ⟨s,b,rfl,hw,hb,hI,hA⟩:=hh.head hn hi hm;have hok:=(Pq ho g0).1;have hC:=(List.getElem?_eq_some_iff.1 hb).1;have h6:=ho.dr.din.up;have hD:∀e:EV,e.NO=k→e.PE=s→(EF (B1 h.NS) e=true↔∃y,(Az b k).sd=some y∧y.SS=0):=fun e e1 e2=>by unfold EF;rw [e1,e2,Ar (fF hb)];dsimp only;rw [decide_eq_true_eq];exact hB.live hb k
 revert g0 hok;unfold Bc;split
 ·intro g0;simp at g0
 ·split
  ·split
   ·rename_i hf;split
    ·intro g0;simp at g0
    ·intro _ hok;refine Md hn ?_;cases hs:BQ n s with
     | none=>rw [hs] at hf;simp [Hg] at hf
     | some q=>obtain ⟨j,x⟩:=q;have hx:=(dW hs).2.1;unfold Bg BH;rw [show (dQ n (jO (some (j,x))) (xO (some (j,x))) m.Msg.KI).BK=n.BK from rfl,show AR (dQ n (jO (some (j,x))) (xO (some (j,x))) m.Msg.KI).DK.DI.SD=AR n.DK.DI.SD from ZQ (lq hx (g8 _ _))]
   ·intro _ _;exact Md hn rfl
  ·split
   ·split
    ·intro _ _;exact Md hn rfl
    ·intro g0;simp at g0
   ·split
    ·rename_i hJ;split
     ·rename_i hc;intro _ hok;obtain ⟨j,x,h1,_,x1,hx,hp,_⟩:=Gx hc.1;have h9:=List.mem_of_getElem? hx;have hlt:k<s:=by have:=(ho.sd x h9).2.2.2 (.inl x1);omega
      obtain ⟨l,w,hE⟩:=hA hlt;have hy:=hE.came6 hJ;rw [h1];have hm':=fun {z:SX}=>K5 (z:=z) h6 hx {x with SS:=0};have hu':(n.DK.DI.SD.set j {x with SS:=0}).Pairwise fun x y=>x.PE<y.PE:=OQ (lr hx rfl) h6;have hG:(s:Int)∉AR n.DK.DI.SD:=fun hl=>by obtain ⟨z,hz,z0,zp⟩:=bm.1 hl;have e1:=Gk h6 hz;have e2:=Gk h6 h9;rw [zp,←hp,e2] at e1;cases e1;omega
      refine hB.edge hn (m:=cM n j x) h8 (.inl rfl) (q:=s) rfl hw hC ?_ rfl;unfold Gt;rw [if_pos rfl,(hD _ h8 rfl).2 hy];dsimp only;rw [h8,DN (show ¬(s:Int)∈(Bg n).Live from hG),DT (show (k:Int)<s by omega),if_pos (by rfl)];congr 1;refine gF (DO _).1 (Ji hu') fun p=>?_;rw [(DO _).2,List.mem_append,List.mem_singleton,show (Bg n).Live=AR n.DK.DI.SD from rfl,show (Bg (cM n j x)).Live=AR (n.DK.DI.SD.set j {x with SS:=0}) from rfl,bm,bm];constructor
      ·rintro (⟨z,hz,z0,zp⟩ | rfl)
       ·refine ⟨z,hm'.2 (.inr ⟨hz,fun e=>hG (bm.2 ⟨z,hz,z0,by rw [e,hp]⟩)⟩),z0,zp⟩
       ·exact ⟨_,hm'.2 (.inl rfl),rfl,hp⟩
      ·rintro ⟨z,hz,z0,zp⟩;rcases hm'.1 hz with rfl | ⟨hz,_⟩
       ·exact .inr (by rw [←zp];exact hp)
       ·exact .inl ⟨z,hz,z0,zp⟩
     ·intro g0;simp at g0
    ·split
     ·rename_i hK;split
      ·rename_i hc;intro _ hok;obtain ⟨j,x,h1,_,x0,hx,hp,_⟩:=Gx hc.1;obtain ⟨l,w,hE⟩:=hI Om;obtain ⟨y,hy,y3⟩:=hE.came7 hK;rw [h1] at hok ⊢;have:=hB.shut hn (j:=j) (x:=x) hx x0 hok (.inr ⟨Bg b,by rw [hp];exact Ar (fF hb),fun hl=>by obtain ⟨z,hz,z0⟩:=(hB.live hb k).1 hl;rw [hy] at hz;cases hz;omega⟩);rw [hp] at this;exact this
      ·intro g0;simp at g0
     ·split
      ·rename_i hL;split
       ·rename_i hc;intro _ hok;obtain ⟨j,x,h1,_,x3,hx,hp,_⟩:=Gx hc;have h9:=List.mem_of_getElem? hx;have hlt:k<s:=by have:=(ho.sd x h9).2.2.2 (.inr x3);omega
        obtain ⟨l,w,hE⟩:=hA hlt;have hy:=hE.came8 hL;have hun:∀z∈n.DK.DI.SD,z.PE=s→z=x:=fun z hz zp=>by have e1:=Gk h6 hz;have e2:=Gk h6 h9;rw [zp,←hp,e2] at e1;exact (Option.some.inj e1).symm
        refine hB.edge hn (m:=I3 n s) h8 (.inr (.inr rfl)) (q:=s) rfl hw hC ?_ rfl;unfold Gt;have c1:EF (B1 h.NS) ⟨8,n.DK.DI.ID,0,s,[]⟩=false:=by rw [←Bool.not_eq_true,hD _ h8 rfl,hy];simp
        have c2:(s:Int)∉(Bg n).Live:=fun hl=>by obtain ⟨z,hz,z0,zp⟩:=bm.1 (show (s:Int)∈AR n.DK.DI.SD from hl);rw [hun z hz zp] at z0;omega
        have c3:Cz (B1 h.NS) k s=false:=by rw [←Bool.not_eq_true];intro hu;obtain ⟨t,l',hs,t1,tn⟩:=cW ho hn hu;have h2:n.DK.TH=2:=ho.th.2 ((F8 n).2 ⟨t,l',hs,t1⟩);obtain ⟨t',l2,hs',_,he⟩:=ho.drinks h2;rw [hs] at hs';obtain ⟨rfl,rfl⟩:=List.cons.inj hs';rw [he] at tn;exact ho.nl x h9 (by rw [hp];exact tn) x3
        have c4:Cz (B1 h.NS) s k=false:=by rw [←Bool.not_eq_true];intro hu;obtain ⟨bo,_,bg⟩:=hB.self hb;obtain ⟨z,hz,_⟩:=jI bo bg (cW bo hb hu);rw [show B7 b.DK.DI.SD k=none from hy] at hz;simp at hz
        rw [if_neg (by simp),if_neg (by simp),if_pos rfl,c1];dsimp only;rw [h8,c3,c4,DN c2,DT (show (k:Int)<s by omega),if_pos (by rfl)];congr 1;show AR n.DK.DI.SD=AR (I3 n s).DK.DI.SD;refine (xU h6 (h6.filter _) fun z z0=>?_).symm;rw [List.mem_filter];refine ⟨fun e=>e.1,fun e=>⟨e,?_⟩⟩;simp only [Bool.not_eq_true',decide_eq_false_iff_not];intro zp;rw [hun z e zp] at z0;omega
       ·intro g0;simp at g0
      ·intro g0;simp at g0
theorem vi (b:BK) (hb:DF b):Jw b=some b:=by
 have h1:=hb.1;simp only [Jw];refine D0 b.SE _ (fun pre=>((pre.length:Int),pre)) b (fun pre x post h=>?_) ?_
 ·have hx:=BL h;have hl:=BG h;have hn:=hb.2 x (Di h);dsimp only [Ng];rw [AQ hx,Ag,Ar hx,OB,B5 _ _ Om (by simp;omega),OB,List.nil_append,B5 _ _ Om (by simp only [List.length_singleton];omega),OB,AC Om,bb]
 ·dsimp only [Ng];rw [AT,Aa];rfl
theorem vk (m:Model) (hm:F7 m):Rl m=some m:=by
 have h1:=hm.1;simp only [Rl];refine D0 m.Places _ (fun pre=>((pre.length:Int),pre)) m (fun pre x post h=>?_) ?_
 ·have hx:=BL h;have hl:=BG h;have hp:=hm.2 x (Di h);dsimp only [W8];rw [AQ hx,Ag,Ar hx,OB,OB,vi x.BK hp.2,OB,B5 _ _ Om (by simp;omega),OB,List.nil_append,B5 _ _ Om (by simp only [List.length_singleton];omega),OB];dsimp only [W7];rw [AC Om,bb]
 ·dsimp only [W8];rw [AT,Aa];rfl
theorem vQ (m n:Model) (hm:F7 m):N6 m n=some (decide (m=n)):=by
 obtain ⟨l⟩:=m;obtain ⟨l'⟩:=n;have h1:l.length≤1000000:=hm.1;have h2:∀p∈l,p.Live.length≤800000∧DF p.BK:=hm.2;have e:T6 l l' (fun z=>KD z.1 z.2)=some (decide (l=l')):=by
  simp only [T6,Mp];by_cases h:l.length=l'.length
  ·simp only [h,decide_true,Bool.not_true,Aa];rw [fL l l' _ (fun x y=>decide (x=y)) h Om (fun k x y hx hy=>by
    have hp:=h2 x (List.mem_of_getElem? hx);have e2:KD x y=some (decide (x=y)):=by obtain ⟨b,v⟩:=x;obtain ⟨b',v'⟩:=y;simp only [KD,QL,kR b b' hp.2,TJ v v' (by have:=hp.1;dsimp only at this;omega),OB,Place.mk.injEq];by_cases h1:b=b'<;>by_cases h2:v=v'<;>simp [h1,h2]
    simp only [X6,AQ hx,Ag,Ar hx,Ar hy,OB,e2,EA hx (show l.length≤4000000000000000000 by omega),Je];cases decide (x=y)<;>rfl) (by simp only [X6,AT,Aa,X5,Option.map_some]),fe l l' h]
  ·simp [h,Mo h]
 simp only [N6,e,OB,Model.mk.injEq]
def q0:List Place:=[⟨⟨0,[]⟩,[1]⟩,⟨⟨0,[]⟩,[0]⟩]
def q1:List Place:=[⟨⟨1,[⟨1,[1],0,0⟩]⟩,[1]⟩,⟨⟨0,[]⟩,[0]⟩]
def q2:List Place:=[⟨⟨1,[⟨1,[1],0,0⟩]⟩,[1]⟩,⟨⟨1,[⟨1,[0],0,0⟩]⟩,[0]⟩]
def q3:List Place:=[⟨⟨1,[⟨1,[1],0,0⟩]⟩,[1]⟩,⟨⟨1,[⟨1,[0],1,0⟩]⟩,[0]⟩]
def q4:List Place:=[⟨⟨1,[⟨1,[1],0,0⟩]⟩,[]⟩,⟨⟨0,[]⟩,[0]⟩]
def g2:Graph:=⟨2,[⟨0,1⟩]⟩
theorem TN {P:List Place} {e:EV} {r:Model×Int} (E:okM ⟨P⟩=true) (hn:e.NE.length≤1000000) (h:Fx ⟨P⟩ e=r):Eu ⟨P⟩ e=some r:=by rw [kx _ (eF E) e hn,h]
theorem kA:Nq=some true:=by
 have hN:Jt g2=some (⟨q0⟩,0):=by rw [kK,if_pos (by decide),show dJ g2=⟨q0⟩ by decide]
 have k1:okM ⟨q1⟩=true:=by decide
 have k4:okM ⟨q4⟩=true:=by decide
 have s0:Eu ⟨q0⟩ ⟨0,0,1,0,[1]⟩=some (⟨q1⟩,0):=TN (by decide) (by decide) (by kernel_rfl);have s1:Eu ⟨q1⟩ ⟨0,1,1,0,[0]⟩=some (⟨q2⟩,0):=TN k1 (by decide) (by kernel_rfl);have s2:Eu ⟨q2⟩ ⟨1,1,1,0,[]⟩=some (⟨q3⟩,0):=TN (by decide) (by decide) (by kernel_rfl);have s3:Eu ⟨q3⟩ ⟨1,0,1,0,[]⟩=some (⟨[]⟩,203):=TN (by decide) (by decide) (by kernel_rfl);have s4:Eu ⟨q1⟩ ⟨7,0,0,1,[]⟩=some (⟨q4⟩,0):=TN k1 (by decide) (by kernel_rfl);have hA:Qz g2 [⟨0,0,1,0,[1]⟩,⟨0,1,1,0,[0]⟩,⟨1,1,1,0,[]⟩,⟨1,0,1,0,[]⟩]=some (3,203):=by
  unfold Qz;rw [hN,OB];dsimp only;rw [show (!decide ((0:Int)=0))=false from rfl,Aa];refine Hl.2 ⟨4,?_⟩;have b0:∀(P Q:List Place) (x:Int) (e:EV),Eu ⟨P⟩ e=some (⟨Q⟩,0)→Ac [(⟨0,0,1,0,[1]⟩:EV),⟨0,1,1,0,[0]⟩,⟨1,1,1,0,[]⟩,⟨1,0,1,0,[]⟩] x=some e→x<4→N3 [⟨0,0,1,0,[1]⟩,⟨0,1,1,0,[0]⟩,⟨1,1,1,0,[]⟩,⟨1,0,1,0,[]⟩] (x,P)=some (.inl (wr (x+1),Q)):=by intro P Q x e h1 h2 h3;dsimp only [N3];rw [AY,DT (by simpa using h3),Ag,h2,OB,h1];rfl
  have b3:N3 [⟨0,0,1,0,[1]⟩,⟨0,1,1,0,[0]⟩,⟨1,1,1,0,[]⟩,⟨1,0,1,0,[]⟩] (3,q3)=some (.inr (3,203)):=by dsimp only [N3];rw [AY,DT (by decide),Ag,show Ac [(⟨0,0,1,0,[1]⟩:EV),⟨0,1,1,0,[0]⟩,⟨1,1,1,0,[]⟩,⟨1,0,1,0,[]⟩] 3=some ⟨1,0,1,0,[]⟩ from rfl,OB,s3];rfl
  unfold CC;rw [b0 q0 q1 0 _ s0 rfl (by decide)];dsimp only;unfold CC;rw [show wr (0+1)=1 by decide,b0 q1 q2 1 _ s1 rfl (by decide)];dsimp only;unfold CC;rw [show wr (1+1)=2 by decide,b0 q2 q3 2 _ s2 rfl (by decide)];dsimp only;unfold CC;rw [show wr (2+1)=3 by decide,b3]
 have hs:=fun n=>vQ ⟨q1⟩ n (eF k1);unfold Nq;rw [show (Graph.mk 2 [Edge.mk 0 1])=g2 from rfl,hA,OB,hN,OB,show Ac [(⟨0,0,1,0,[1]⟩:EV),⟨0,1,1,0,[0]⟩,⟨1,1,1,0,[]⟩,⟨1,0,1,0,[]⟩] 0=some ⟨0,0,1,0,[1]⟩ from rfl,OB,s0,OB];dsimp only [W9,Ff];have d4:GJ ⟨q4⟩ 0=some [1]:=by rw [bX _ (eF k4)];rfl
 have d1:GJ ⟨q1⟩ 0=some []:=by rw [bX _ (eF k1)];rfl
 rw [s4,OB];dsimp only;rw [d4,d1,uM _ (eF k1),kJ _ (eF k1),hs,hs,if_pos k1,show Z4 (⟨q1⟩:Model).Places=true by decide,show decide ((⟨q1⟩:Model)=⟨q1⟩)=true by simp,show decide ((⟨q1⟩:Model)=⟨q4⟩)=false by decide];simp only [OB,Yn [1] [1] (by decide),AY,decide_true,Ag,List.length_nil,Int.natCast_zero,Bool.not_false]
theorem kI (n:NO) (h:n.DK.DI.SD.length≤100000):Jz n=some (AR n.DK.DI.SD):=by
 have hl:∀l:List SX,(AR l).length≤l.length:=fun l=>by unfold AR;rw [List.length_map];exact List.length_filter_le _ _
 unfold Jz;refine D0 n.DK.DI.SD _ (fun pre=>((pre.length:Int),AR pre)) (AR n.DK.DI.SD) (fun pre x post e=>?_) ?_
 ·have hx:=BL e;have hm:=BG e;have:=hl pre;have e2:AR (pre++[x])=if x.SS=0 then AR pre++[x.PE] else AR pre:=by unfold AR Dy;rw [List.filter_append,List.map_append];by_cases h0:x.SS=0<;>simp [h0]
  dsimp only [Wg];rw [AQ hx,Ag,Ar hx,OB,OB,e2];by_cases h0:x.SS=0
  ·rw [if_pos h0,DT h0,Ag,B5 _ _ Om (by simp only [List.length_singleton];omega),OB];dsimp only [Nt];rw [AC Om,bb]
  ·rw [if_neg h0,DN h0,Aa];dsimp only [Nt];rw [AC Om,bb]
 ·dsimp only [Wg];rw [AT,Aa];rfl
theorem kP (P:List Place) (k:Nat) (b:BK) (hb:DF b):loop (Rk P (k:Int) b (zB b)) 0=Ri (k:Int) ()∧loop (Rf (k:Int) b (zB b)) 0=Rc (k:Int) ():=by
 have hz:∀ {i:Nat} {s:SE},b.SE[i]?=some s→(zB b).SE[i]?=some (zS s):=fun {i s} h=>by show (b.SE.map zS)[i]?=_;rw [List.getElem?_map,h];rfl
 constructor
 ·refine Kq b.SE.length _ (fun i=>(i:Int)) _ (fun i hi=>?_) ?_
  ·obtain ⟨s,hs⟩:∃s,b.SE[i]?=some s:=⟨_,List.getElem?_eq_getElem hi⟩
   have hn:=hb.2 s (List.mem_of_getElem? hs);have:=hb.1;dsimp only [Rk];rw [AQ hs,Ag,Ar hs,Ar (hz hs)];simp only [OB,zS,decide_true,Bool.not_true,Aa,Yn s.NE s.NE hn,Np];rw [AC Om]
  ·dsimp only [Rk];rw [AT,Aa];rfl
 ·refine Kq b.SE.length _ (fun i=>(i:Int)) _ (fun i hi=>?_) ?_
  ·obtain ⟨s,hs⟩:∃s,b.SE[i]?=some s:=⟨_,List.getElem?_eq_getElem hi⟩
   have hn:=hb.2 s (List.mem_of_getElem? hs);have:=hb.1;dsimp only [Rf];rw [AQ hs,Ag,Ar hs,Ar (hz hs)];simp only [OB,zS,decide_true,Bool.not_true,Aa,Yn s.NE s.NE hn,Nl];rw [AC Om]
  ·dsimp only [Rf];rw [AT,Aa];rfl
theorem kO {h:HL} (hk:HallOK h) (P:List Place) (E:P=B1 h.NS):loop (Rj h P) 0=some (true,P)∧loop (Re h P) 0=some true:=by
 have hl:P.length=h.NS.length:=by rw [E,dK]
 have h6:=hk.len;have at_ok:∀ {k:Nat} {n:NO},h.NS[k]?=some n→P[k]?=some (Bg n)∧n.DK.DI.SD.length≤100000∧DF n.BK∧Hv (AR n.DK.DI.SD) (AR n.DK.DI.SD)=some true:=fun {k n} hn=>by
  have ho:=(hk.nodes k n hn).2;have h1:=ho.dr.din.len;have h2:(AR n.DK.DI.SD).length≤n.DK.DI.SD.length:=by unfold AR;rw [List.length_map];exact List.length_filter_le _ _
  refine ⟨by rw [E];exact fF hn,Om,xN ho.bk,?_⟩;rw [Yn _ _ Om];simp
 constructor
 ·refine Kq h.NS.length _ (fun i=>(i:Int)) _ (fun k hi=>?_) ?_
  ·obtain ⟨n,hn⟩:∃n,h.NS[k]?=some n:=⟨_,List.getElem?_eq_getElem hi⟩
   obtain ⟨p1,p2,p3,p4⟩:=at_ok hn;have h3:=(kP P k n.BK p3).1;have hz:(zB n.BK).SE.length=n.BK.SE.length:=by simp [zB]
   dsimp only [Rj];rw [AQ hn,Ag,AY,DT (show (k:Int)<P.length by omega)];dsimp only [Nm];rw [Ag,Ar hn,Ar p1,OB,OB];dsimp only [W5];rw [show (Bg n).BK=zB n.BK from rfl,show (zB n.BK).LA=n.BK.LA from rfl,AY,AY,hz,DT rfl,DT rfl,Bool.not_true,Aa,Aa,Ar hn,Ar p1,OB,OB,kI n p2,OB,show (Bg n).Live=AR n.DK.DI.SD from rfl,p4,OB,Bool.not_true];dsimp only [Nn];rw [Aa,h3];dsimp only [Ri];rw [AC Om]
  ·dsimp only [Rj];rw [AT,Aa];dsimp only [Nm];rw [Aa];dsimp only [W4];rw [AY,AY,hl,DT rfl];rfl
 ·refine Kq h.NS.length _ (fun i=>(i:Int)) _ (fun k hi=>?_) ?_
  ·obtain ⟨n,hn⟩:∃n,h.NS[k]?=some n:=⟨_,List.getElem?_eq_getElem hi⟩
   obtain ⟨p1,p2,p3,p4⟩:=at_ok hn;have h3:=(kP P k n.BK p3).2;have hz:(zB n.BK).SE.length=n.BK.SE.length:=by simp [zB]
   dsimp only [Re];rw [AQ hn,Ag,AY,DT (show (k:Int)<P.length by omega)];dsimp only [Nj];rw [Ag,Ar hn,Ar p1,OB,OB];dsimp only [W0];rw [show (Bg n).BK=zB n.BK from rfl,show (zB n.BK).LA=n.BK.LA from rfl,AY,AY,hz,DT rfl,DT rfl,Bool.not_true,Aa,Aa,Ar hn,Ar p1,OB,OB,kI n p2,OB,show (Bg n).Live=AR n.DK.DI.SD from rfl,p4,OB,Bool.not_true];dsimp only [Nk];rw [Aa,h3];dsimp only [Rc];rw [AC Om]
  ·dsimp only [Re];rw [AT,Aa];dsimp only [Nj];rw [Aa];dsimp only [VZ];rw [AY,AY,hl,DT rfl];rfl
theorem kz {h:HL} (hk:HallOK h):∀ {V:List EV} {P:List Place} {W:List EV} (k:Nat),Goes P V (B1 h.NS)→(∀e∈V,e.NE.length≤1000000)→(∀i e,V[i]?=some e→W[k+i]?=some e)→W.length=k+V.length→W.length≤1000000→(V=[]→P=B1 h.NS)→
  loop (KG h W) ((k:Int),P)=some (true,B1 h.NS)
 | [],P,W,k,hG,_,_,hl,_,_=>by
   have e:P=B1 h.NS:=by cases hG;rfl
   have h2:=(kO hk P e).1;subst e;refine Hl.2 ?_;obtain ⟨n,hn⟩:=Hl.1 h2;refine ⟨1,?_⟩;unfold CC;have:KG h W ((k:Int),B1 h.NS)=some (.inr (true,B1 h.NS)):=by dsimp only [KG];rw [AY,DN (by simp at hl;omega),Aa];dsimp only [W2];rw [h2];rfl
   rw [this]
 | e::V,P,W,k,hG,hn,hW,hl,hm,_=>by
   cases hG with
   | cons h1 h2=>
     rename_i Q;have hP:okM ⟨P⟩=true:=by
      have:=(show (Fx ⟨P⟩ e).2=0 by rw [h1])
      unfold Fx at this;by_cases c:okM ⟨P⟩=true
      ·exact c
      ·rw [if_neg c] at this;simp at this
     have ih:=kz hk (k+1) h2 (fun x hx=>hn x (List.mem_cons_of_mem _ hx)) (fun i x hx=>by have:=hW (i+1) x hx;rw [show k+(i+1)=k+1+i by omega] at this;exact this) (by simp at hl;omega) hm (fun e=>by subst e;cases h2;rfl);have hx:=hW 0 e rfl;rw [Nat.add_zero] at hx;have hb:KG h W ((k:Int),P)=some (.inl (((k+1:Nat):Int),Q)):=by dsimp only [KG];rw [AQ hx,Ag,Ar hx,OB,vk _ (eF hP),OB,kx _ (eF hP) e (hn e (by simp)),h1,OB];dsimp only [W3];have:=(List.getElem?_eq_some_iff.1 hx).1;rw [AC Om];rfl
     obtain ⟨n,hn'⟩:=Hl.1 ih;refine Hl.2 ⟨n+1,?_⟩;rw [CC,hb];exact hn'
theorem vR {h:HL} (hk:HallOK h) {P:List Place} {V:List EV} (E:Goes P V (B1 h.NS)) (hn:∀e∈V,e.NE.length≤1000000) (hl:V.length≤1000000):Rh h V P=some (true,B1 h.NS):=by unfold Rh;exact kz hk 0 E hn (fun i e he=>by rw [Nat.zero_add];exact he) Om hl (fun e=>by subst e;cases E;rfl)
theorem vS {h:HL} (hk:HallOK h):Rb h (B1 h.NS)=some true:=by
 unfold Rb;refine Hl.2 ⟨1,?_⟩;unfold CC;have:W1 h (B1 h.NS) ()=some (.inr true):=by dsimp only [W1];rw [DN Om,Aa];dsimp only [VY];rw [(kO hk _ rfl).2];rfl
 rw [this]
theorem tK (n:NO):∀v∈bA n,v.NE=[]:=fun v hv=>by
 unfold bA at hv;rcases List.mem_append.1 hv with hv | hv
 ·unfold Ha at hv;split at hv
  ·simp at hv
  ·unfold FX at hv;obtain ⟨k,_,rfl⟩:=List.mem_map.1 hv;rfl
 ·unfold CO at hv;split at hv
  ·split at hv
   ·simp at hv;rw [hv]
   ·simp at hv
  ·simp at hv
theorem jT {n:NO} (h:OkN n) {V:List EV} (E:∀v∈V,v.NE.length≤1000):∀v∈(BE n [] V).2.2,v.NE.length≤1000:=
 fu (P:=fun _ _ V=>∀v∈V,v.NE.length≤1000) (fun m _ V _ hP v hv=>by
  rcases List.mem_append.1 hv with hv | hv
  ·exact hP v hv
  ·rw [tK m v hv];simp) h E
theorem ly (n:NO) (p:Int):∀v∈Ez n p,v.NE.length≤1000:=fun v hv=>by
 unfold Ez G0 at hv;rcases List.mem_cons.1 hv with rfl | hv
 ·simp
 ·obtain ⟨i,_,rfl⟩:=List.mem_map.1 hv;simp
theorem nK (n:NO) (a:Do) (ha:a.NE.length≤1000):∀v∈(B9 n a).2.2,v.NE.length≤1000:=by
 have h0:=gx a.NE;unfold B9;split
 ·unfold CF
  (repeat' split)<;>intro v hv<;>simp at hv<;>(try subst hv)<;>simp<;>omega
 ·split
  ·split
   ·cases C7 n.DK.DI.SD a.PE with
    | some j=>intro v hv;simp at hv
    | none=>dsimp only;split<;>intro v hv<;>simp at hv
   ·intro v hv;simp at hv
  ·split
   ·split
    ·cases C7 n.DK.DI.SD a.PE with
     | none=>intro v hv;simp at hv
     | some j=>
       dsimp only;split
       ·intro v hv;simp at hv
       ·split
        ·exact ly n _
        ·intro v hv;simp at hv
    ·intro v hv;simp at hv
   ·intro v hv;simp at hv
theorem qW (n:NO) (p:Int) (m:Msg):∀v∈(Bc n p m).2.2,v.NE.length≤1000:=by
 unfold Bc
 (repeat' split)<;>first | exact ly n _ | (intro v hv;simp at hv;(try subst hv);try simp)
def YJ (h x:HL) (V:List EV):Prop:=bC x∧Goes (B1 h.NS) V (B1 x.NS)∧(∀v∈V,v.NE.length≤1000)∧V.length≤100000
theorem yQ {h:HL} (hh:HI h) (hg:bC h) {k:Nat} {n:NO} {a:Do} (hn:h.NS[k]?=some n) (E:a.KI=4→0≤a.PE∧a.PE<h.NS.length) (ha:a.NE.length≤1000) (h0:(B9 n a).1=0):YJ h (Ue h k n a) (BE (B9 n a).2.1 [] (B9 n a).2.2).2.2:=by
 have hB:=hh.hb hg;obtain ⟨hok,h8,hw⟩:=hB.self hn;obtain ⟨h1,h2,_,_,_,h6⟩:=Pa hok h0;have h9:=fun q=>cm hok h0 q;rw [h8] at h9;have hB':=hB.set hn (hh.pi.act hn hok h8 h0) (h2.trans h8) h1 (fun q hq=>by
  have h0':=hh.no k n hn q hq;rcases h9 q with e | ⟨_,⟨h4,hp⟩,_⟩ | ⟨_,z,hs,_⟩
  ·rw [e];exact h0'
  ·exact absurd (hp ▸ E h4) hq
  ·rw [h0'.1] at hs;simp at hs) (xK hok hw a)
 have hk:(h.NS.set k (B9 n a).2.1)[k]?=some (B9 n a).2.1:=by rw [Fw hn,if_pos rfl]
 obtain ⟨V',e,hG⟩:=xT hB' hk (B9 n a).2.2;rw [List.set_set] at hG;refine ⟨hg.acts hh hn h0,?_,jT h1 (nK n a ha),?_⟩
 ·rw [e];exact (nJ hB hn h0).app hG
 ·have:=(nR h1 [] (B9 n a).2.2).2;have:=h6;omega
theorem qS {h:HL} (hh:HI h) (hg:bC h) {a:Int} {k i:Nat} {n:NO} {m:ML} (hn:h.NS[k]?=some n) (hi:(h.ML.findIdx? fun m=>decide (m.From=a)&&decide (m.To=(k:Int)))=some i) (hm:h.ML[i]?=some m):YJ h (UF h k i n a m.Msg) (BE (Bc n a m.Msg).2.1 [] (Bc n a m.Msg).2.2).2.2:=by
 have hB:=hh.hb hg;obtain ⟨hok,h9,h8⟩:=hB.self hn;obtain ⟨s,hs,hA,_,v',_,g0,_,g2,hw⟩:=hh.get1 hn hi hm;obtain ⟨h1,h2,_,h6⟩:=Pq hok g0;have hB':=hB.set hn hw (h2.trans h9) h1 (fun q hq=>by rw [g2 q Om];exact hh.no k n hn q hq) (fz hok h8 a m.Msg);have hk:(h.NS.set k (Bc n a m.Msg).2.1)[k]?=some (Bc n a m.Msg).2.1:=by rw [Fw hn,if_pos rfl]
 obtain ⟨V',e,hG⟩:=xT hB' hk (Bc n a m.Msg).2.2;rw [List.set_set] at hG;refine ⟨hg.gets hh hn hi hm,?_,jT h1 (qW n a m.Msg),?_⟩
 ·rw [e];exact (qV hh hg hn hi hm).app hG
 ·have:=(nR h1 [] (Bc n a m.Msg).2.2).2;omega
theorem yR {g:Graph} (hg:Bd g=true):(dJ g).Places=B1 (DH g).NS:=by
 have h6:((DH g).NS.length:Int)=g.N:=by have:=jx hg;simp only [DH,List.length_map];exact this
 apply List.ext_getElem?;intro i;cases hn:(DH g).NS[i]? with
 | none=>
   have h1:=List.getElem?_eq_none_iff.1 hn;have h2:(dJ g).Places.length=g.N.toNat:=by simp only [dJ,List.length_map,List.length_range]
   rw [List.getElem?_eq_none (show (dJ g).Places.length≤i by omega),List.getElem?_eq_none (show (B1 (DH g).NS).length≤i by rw [dK];exact h1)]
 | some n=>
   obtain ⟨h1,rfl⟩:=ZB hn;have hl:∀(c:List Int) (k:Int) (l:List Int),AR (l.map (Dq c k))=l:=fun c k l=>by unfold AR;rw [List.filter_eq_self.2 (fun x hx=>by obtain ⟨b,_,rfl⟩:=List.mem_map.1 hx;rfl),List.map_map];exact List.map_id' l
   rw [fF hn];simp only [dJ,List.getElem?_map];rw [List.getElem?_range Om];simp only [Option.map_some,Option.some.injEq];show _=Place.mk ⟨0,[]⟩ (AR ((Be g i).map (Dq (DX g) i)));rw [hl];rfl
theorem w9 {g:Graph} (hg:Bd g=true) (E:g.N≤6) {l:List narthexlaw19_Step} (hl:l.length≤80) (hn:∀s∈l,s.Do.NE.length≤20):
  ∃r,QZ g l (dJ g).Places=some r∧r.2.1=true:=by
 obtain ⟨h6,h8⟩:=rJ hg Om;have ho:Jv g=some g:=by have:=(Dc hg).2.2.1;unfold Jv;rw [B5 _ _ Om (by simp;omega),OB,List.nil_append]
 have hA:(DH g).ML.length=0:=rfl;unfold QZ;rw [ho,OB,vN g Om,OB,if_pos hg,DT rfl,Bool.not_true,Aa,yR hg,vS h6.ok,OB,Bool.not_true];dsimp only [R0];rw [Aa];refine xL l.length (R4 l) (fun k h=>((k:Int),B1 h.NS,h)) (fun k h=>HI h∧bC h∧h.ML.length≤6000*k) (fun r=>r.2.1=true) (fun k h hk hI=>?_) (fun h hI=>?_) (DH g) ⟨h6,h8,Om⟩
 ·left;obtain ⟨i1,i2,i3⟩:=hI;obtain ⟨s,hx⟩:∃s,l[k]?=some s:=⟨_,List.getElem?_eq_getElem hk⟩
  have hsm:=hn s (List.mem_of_getElem? hx);have hB:=i1.ok.len;obtain ⟨x,V,e,hr,h9⟩:=wi (s:=s) i1 (fun x V=>YJ h x V) Om Om (fun k n h1 hP h2=>yQ i1 i2 h1 hP Om h2) (fun k i n m h1 h2 h3=>qS i1 i2 h1 h2 h3);dsimp only [R4];rw [AQ hx,Ag,Ar hx,OB,vO h i1.ok.few Om Om,OB,hr,OB];dsimp only [VX];rcases h9 with ⟨rfl,x1,⟨t1,t2,t3,t4⟩,x3,_⟩ | ⟨he,hw⟩
  ·refine ⟨x,?_,x1,t1,Om⟩;rw [DT rfl,Bool.not_true,Aa];dsimp only [Nh];rw [Aa,DT rfl,Ag,vR x1.ok t2 (fun v hv=>Nat.le_trans (t3 v hv) (by decide)) Om,OB,Bool.not_true,Aa];dsimp only [Ni];rw [AC Om]
  ·refine ⟨h,?_,i1,i2,Om⟩;rw [DN he,Bool.not_false,Ag,vW hw,OB,Bool.not_true];dsimp only [Nh];rw [Aa,DN he,Aa];dsimp only [Ni];rw [AC Om]
 ·dsimp only [R4];rw [AT,Aa];exact ⟨(h,true,B1 h.NS),rfl,rfl⟩
theorem yS (g:Graph) (l:List narthexlaw19_Step):Ra g l=some true:=by
 have yes:KH g l true=some true:=by dsimp only [KH];rw [Ag,kA];rfl
 obtain ⟨z,hz,hq⟩:=wh g l;unfold Ra;rw [kA,OB,Bool.not_true,Aa,hz,OB];cases z with
 | false=>exact yes
 | true=>
   obtain ⟨hg,hN,hl,hn⟩:=hq rfl;have ho:Jv g=some g:=by have:=(Dc hg).2.2.1;unfold Jv;rw [B5 _ _ Om (by simp;omega),OB,List.nil_append]
   dsimp only [KH];obtain ⟨r,h1,h2⟩:=w9 hg hN hl hn;rw [Bool.not_true,Aa,ho,OB,kK,if_pos hg,OB,h1,OB,h2,Ag];rfl
end NX
end Go.Proofs.YtgnjledocpbchaaGreat
namespace Go.Proofs.YtgnjledocpbchaaGreat
namespace NX
open Go Go.ChangeShapes Go.WideShapes Go.ChangeAt Go.RowKit
theorem tX:Fz Tryz.prog 70 Edge.row:=by
 intro H enc w base sp h6 fuel cs x h;obtain ⟨xs,n,_,_,hl,h8,hf⟩:=DataW.trod_struct Tryz.underlying70 h;rw [show Tryz.prog.cellsOf 70=2 from by kernel_rfl] at hl;have c0:DataW.trod enc Tryz.prog w base sp h6 n 3 ((cs.drop 0).take (Tryz.prog.cellsOf 3))=xs[0]?:=hf 0 _ rfl;rw [show Tryz.prog.cellsOf 3=1 from by kernel_rfl] at c0;have h9:0<xs.length:=by rw [h8];decide
 obtain ⟨y0,hA⟩:∃y,xs[0]?=some y:=⟨_,List.getElem?_eq_getElem h9⟩
 obtain ⟨v0,k0⟩:=(HM Tryz.underlying3) enc w _ _ _ _ _ _ (c0.trans hA);have c1:DataW.trod enc Tryz.prog w base sp h6 n 3 ((cs.drop 1).take (Tryz.prog.cellsOf 3))=xs[1]?:=hf 1 _ rfl;rw [show Tryz.prog.cellsOf 3=1 from by kernel_rfl] at c1;have hw:1<xs.length:=by rw [h8];decide
 obtain ⟨y1,hy1⟩:∃y,xs[1]?=some y:=⟨_,List.getElem?_eq_getElem hw⟩
 obtain ⟨v1,k1⟩:=(HM Tryz.underlying3) enc w _ _ _ _ _ _ (c1.trans hy1);have e:cs=(cs.drop 0).take 1++(cs.drop 1).take 1:=by
  match cs,hl with
  | [a0,a1],_=>rfl
 rw [e];exact ⟨⟨v0,v1⟩,(Dw k0 k1)⟩
theorem tT:Fz Tryz.prog 22 (Ci 2 Edge.row):=bE (n:=2) (row:=Edge.row) Tryz.underlying22 (by kernel_rfl) (by decide) (fun _=>⟨rfl,rfl,rfl⟩) tX
theorem tW:Fz Tryz.prog 24 Graph.row:=by
 intro H enc w base sp h6 fuel cs x h;obtain ⟨xs,n,_,_,hl,h8,hf⟩:=DataW.trod_struct Tryz.underlying24 h;rw [show Tryz.prog.cellsOf 24=2 from by kernel_rfl] at hl;have c0:DataW.trod enc Tryz.prog w base sp h6 n 3 ((cs.drop 0).take (Tryz.prog.cellsOf 3))=xs[0]?:=hf 0 _ rfl;rw [show Tryz.prog.cellsOf 3=1 from by kernel_rfl] at c0;have h9:0<xs.length:=by rw [h8];decide
 obtain ⟨y0,hA⟩:∃y,xs[0]?=some y:=⟨_,List.getElem?_eq_getElem h9⟩
 obtain ⟨v0,k0⟩:=(HM Tryz.underlying3) enc w _ _ _ _ _ _ (c0.trans hA);have c1:DataW.trod enc Tryz.prog w base sp h6 n 22 ((cs.drop 1).take (Tryz.prog.cellsOf 22))=xs[1]?:=hf 1 _ rfl;rw [show Tryz.prog.cellsOf 22=1 from by kernel_rfl] at c1;have hw:1<xs.length:=by rw [h8];decide
 obtain ⟨y1,hy1⟩:∃y,xs[1]?=some y:=⟨_,List.getElem?_eq_getElem hw⟩
 obtain ⟨v1,k1⟩:=tT enc w _ _ _ _ _ _ (c1.trans hy1);have e:cs=(cs.drop 0).take 1++(cs.drop 1).take 1:=by
  match cs,hl with
  | [a0,a1],_=>rfl
 rw [e];exact ⟨⟨v0,v1⟩,(Dw k0 k1)⟩
theorem tV:Fz Tryz.prog 45 (Ci 1 Am):=bE (n:=1) (row:=Am) Tryz.underlying45 (by kernel_rfl) (by decide) (fun _=>⟨rfl,rfl,rfl⟩) (HM Tryz.underlying3)
theorem tY:Fz Tryz.prog 79 Do.row:=by
 intro H enc w base sp h6 fuel cs x h;obtain ⟨xs,n,_,_,hl,h8,hf⟩:=DataW.trod_struct Tryz.underlying79 h;rw [show Tryz.prog.cellsOf 79=5 from by kernel_rfl] at hl;have c0:DataW.trod enc Tryz.prog w base sp h6 n 77 ((cs.drop 0).take (Tryz.prog.cellsOf 77))=xs[0]?:=hf 0 _ rfl;rw [show Tryz.prog.cellsOf 77=1 from by kernel_rfl] at c0;have h9:0<xs.length:=by rw [h8];decide
 obtain ⟨y0,hD⟩:∃y,xs[0]?=some y:=⟨_,List.getElem?_eq_getElem h9⟩
 obtain ⟨v0,k0⟩:=(HM Tryz.underlying77) enc w _ _ _ _ _ _ (c0.trans hD);have c1:DataW.trod enc Tryz.prog w base sp h6 n 3 ((cs.drop 1).take (Tryz.prog.cellsOf 3))=xs[1]?:=hf 1 _ rfl;rw [show Tryz.prog.cellsOf 3=1 from by kernel_rfl] at c1;have hw:1<xs.length:=by rw [h8];decide
 obtain ⟨y1,hy1⟩:∃y,xs[1]?=some y:=⟨_,List.getElem?_eq_getElem hw⟩
 obtain ⟨v1,k1⟩:=(HM Tryz.underlying3) enc w _ _ _ _ _ _ (c1.trans hy1);have c2:DataW.trod enc Tryz.prog w base sp h6 n 3 ((cs.drop 2).take (Tryz.prog.cellsOf 3))=xs[2]?:=hf 2 _ rfl;rw [show Tryz.prog.cellsOf 3=1 from by kernel_rfl] at c2;have hA:2<xs.length:=by rw [h8];decide
 obtain ⟨y2,hE⟩:∃y,xs[2]?=some y:=⟨_,List.getElem?_eq_getElem hA⟩
 obtain ⟨v2,k2⟩:=(HM Tryz.underlying3) enc w _ _ _ _ _ _ (c2.trans hE);have c3:DataW.trod enc Tryz.prog w base sp h6 n 3 ((cs.drop 3).take (Tryz.prog.cellsOf 3))=xs[3]?:=hf 3 _ rfl;rw [show Tryz.prog.cellsOf 3=1 from by kernel_rfl] at c3;have hB:3<xs.length:=by rw [h8];decide
 obtain ⟨y3,hG⟩:∃y,xs[3]?=some y:=⟨_,List.getElem?_eq_getElem hB⟩
 obtain ⟨v3,k3⟩:=(HM Tryz.underlying3) enc w _ _ _ _ _ _ (c3.trans hG);have c4:DataW.trod enc Tryz.prog w base sp h6 n 45 ((cs.drop 4).take (Tryz.prog.cellsOf 45))=xs[4]?:=hf 4 _ rfl;rw [show Tryz.prog.cellsOf 45=1 from by kernel_rfl] at c4;have hC:4<xs.length:=by rw [h8];decide
 obtain ⟨y4,hI⟩:∃y,xs[4]?=some y:=⟨_,List.getElem?_eq_getElem hC⟩
 obtain ⟨v4,k4⟩:=tV enc w _ _ _ _ _ _ (c4.trans hI);have e:cs=(cs.drop 0).take 1++(cs.drop 1).take 1++(cs.drop 2).take 1++(cs.drop 3).take 1++(cs.drop 4).take 1:=by
  match cs,hl with
  | [a0,a1,a2,a3,a4],_=>rfl
 rw [e];exact ⟨⟨v0,v1,v2,v3,v4⟩,(Dw (Dw (Dw (Dw k0 k1) k2) k3) k4)⟩
theorem tZ:Fz Tryz.prog 81 narthexlaw19_Step.row:=by
 intro H enc w base sp h6 fuel cs x h;obtain ⟨xs,n,_,_,hl,h8,hf⟩:=DataW.trod_struct Tryz.underlying81 h;rw [show Tryz.prog.cellsOf 81=8 from by kernel_rfl] at hl;have c0:DataW.trod enc Tryz.prog w base sp h6 n 4 ((cs.drop 0).take (Tryz.prog.cellsOf 4))=xs[0]?:=hf 0 _ rfl;rw [show Tryz.prog.cellsOf 4=1 from by kernel_rfl] at c0;have h9:0<xs.length:=by rw [h8];decide
 obtain ⟨y0,hC⟩:∃y,xs[0]?=some y:=⟨_,List.getElem?_eq_getElem h9⟩
 obtain ⟨v0,k0⟩:=(tU Tryz.underlying4) enc w _ _ _ _ _ _ (c0.trans hC);have c1:DataW.trod enc Tryz.prog w base sp h6 n 3 ((cs.drop 1).take (Tryz.prog.cellsOf 3))=xs[1]?:=hf 1 _ rfl;rw [show Tryz.prog.cellsOf 3=1 from by kernel_rfl] at c1;have hw:1<xs.length:=by rw [h8];decide
 obtain ⟨y1,hy1⟩:∃y,xs[1]?=some y:=⟨_,List.getElem?_eq_getElem hw⟩
 obtain ⟨v1,k1⟩:=(HM Tryz.underlying3) enc w _ _ _ _ _ _ (c1.trans hy1);have c2:DataW.trod enc Tryz.prog w base sp h6 n 3 ((cs.drop 2).take (Tryz.prog.cellsOf 3))=xs[2]?:=hf 2 _ rfl;rw [show Tryz.prog.cellsOf 3=1 from by kernel_rfl] at c2;have hA:2<xs.length:=by rw [h8];decide
 obtain ⟨y2,hD⟩:∃y,xs[2]?=some y:=⟨_,List.getElem?_eq_getElem hA⟩
 obtain ⟨v2,k2⟩:=(HM Tryz.underlying3) enc w _ _ _ _ _ _ (c2.trans hD);have c3:DataW.trod enc Tryz.prog w base sp h6 n 79 ((cs.drop 3).take (Tryz.prog.cellsOf 79))=xs[3]?:=hf 3 _ rfl;rw [show Tryz.prog.cellsOf 79=5 from by kernel_rfl] at c3;have hB:3<xs.length:=by rw [h8];decide
 obtain ⟨y3,hE⟩:∃y,xs[3]?=some y:=⟨_,List.getElem?_eq_getElem hB⟩
 obtain ⟨v3,k3⟩:=tY enc w _ _ _ _ _ _ (c3.trans hE);have e:cs=(cs.drop 0).take 1++(cs.drop 1).take 1++(cs.drop 2).take 1++(cs.drop 3).take 5:=by
  match cs,hl with
  | [a0,a1,a2,a3,a4,a5,a6,a7],_=>rfl
 rw [e];exact ⟨⟨v0,v1,v2,v3⟩,(Dw (Dw (Dw k0 k1) k2) k3)⟩
theorem yT:Fz Tryz.prog 25 (Ci 8 narthexlaw19_Step.row):=bE (n:=8) (row:=narthexlaw19_Step.row) Tryz.underlying25 (by kernel_rfl) (by decide) (fun _=>⟨rfl,rfl,rfl⟩) tZ
theorem rZ:laidOutB Tryz.prog=true:=by kernel_rfl
theorem yU:ownKnob Tryz.prog.godebug=none:=by kernel_rfl
theorem oI (H:Type) (enc:TypeId×Value→H) (W:World) (J:Nat) (args:Array Value) (U Z:List (DataW H)) (E:List MemPlace)
  (h6:∀(j:Nat) t v,Tryz.f3.params[j]?=some t→args[j]?=some v→Value.okWide Tryz.prog W .any J t v)
  (Y:DataW.Whole enc Tryz.prog Tryz.f3.params.toList Rows.modelHallSpec.vars false W args.toList U Z E):
  Calls Tryz.prog 3 args W fun e W'=>∃v,e = .returned v∧Rows.modelHallSpec.post enc Tryz.prog Tryz.f3 false true false false W args v W':=by
 have h8:=Y;obtain ⟨p,q,h9,hV,rfl,hD,hE⟩:=Y;have hA:DataW.TrodAll enc Tryz.prog W 0 (fun _=>true) true Tryz.f3.params.toList args.toList U p:=h9;rw [Tryz.params3] at hA h6;obtain ⟨v0,vs0,d0,ds0,p0,q0,hw,rfl,rfl,h0,r0⟩:=trodAll_cons hA;obtain ⟨v1,vs1,d1,ds1,p1,q1,hC,rfl,rfl,h1,r1⟩:=trodAll_cons r0;obtain ⟨hz,rfl,rfl⟩:=trodAll_nil r1;obtain rfl:args = #[v0,v1]:=by cases args;simp_all
 obtain ⟨x1,k0⟩:=nU tW Tryz.underlying24 (h6 0 24 v0 rfl rfl) h0;obtain ⟨x2,k1⟩:=nV yT Tryz.underlying25 (h6 1 25 v1 rfl rfl) h1;refine (fX (yS x1 x2) (fun k=>W.heap[k]?) W [v0,v1] (fun _ _ h=>h) (fun _ hs=>absurd hs List.not_mem_nil) ⟨v0,_,rfl,k0,⟨v1,_,rfl,k1,rfl⟩⟩).mono ?_;rintro e W' ⟨v,H',rfl,hB,_,_,hv⟩;have hv:v = .bool true:=hv;subst hv;exact ⟨_,rfl,s8 rZ (by kernel_rfl) rfl (rfl:Tryz.f3.resultTypes = #[4]) Tryz.underlying4 (fun _=>rfl) h8 hB⟩
theorem yV (os:Os) (E:os.Started) (H:Type) (enc:TypeId×Value→H):
  ReturnsInHanded {} Tryz.checked os 3 .any (Rows.modelHallSpec.pre6 enc Tryz.prog Tryz.f3 Rows.modelHallRow.domain false) (Rows.modelHallSpec.post enc Tryz.prog Tryz.f3 false true false false):=by
 refine returnsInHanded_of_change (C:=Tryz.checked) yU E (by kernel_rfl) Tryz.func3
  (ChangeSpec.witness6 (enc:=enc) (C:=Tryz.checked) false ⟨#[], #[.agg #[.int .i64 0,.slice none 0 0],.slice none 0 0],[]⟩ 8 (by kernel_rfl) (by kernel_rfl) (by kernel_rfl) (by kernel_rfl)) ?_
 intro W base args ds gs before h6 hW _ _;exact oI H enc W base args ds gs before h6 hW
theorem modelHall_holds:Rows.ModelHallSaid:=
 OpenClaim.holds_of_wide 3 Tryz.f3 rfl rfl rfl rfl rfl rfl rfl ⟨rfl,rfl,rfl,rfl,rfl⟩ rfl rfl rfl rfl rfl (by kernel_rfl) Tryz.func3 (by kernel_rfl)
  (of_decide_eq_true (by kernel_rfl)) (by unfold Func.isWrapper;first | (rw [if_pos (by decide +kernel)];kernel_rfl) | (rw [if_neg (by decide +kernel)];exact ⟨rfl,rfl⟩))
  (fun os started H enc _=>yV os started H enc)
#print axioms modelHall_holds
end NX
end Go.Proofs.YtgnjledocpbchaaGreat
