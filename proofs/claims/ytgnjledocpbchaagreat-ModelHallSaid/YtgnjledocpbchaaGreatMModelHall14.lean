/-
  Plain laws, gathered by a program of ours. No statement of the seat is proved here.
-/
import Derived.Test.YtgnjledocpbchaaGreatMModelHall13
namespace Go.Proofs.YtgnjledocpbchaaGreat
namespace NX
open Go
theorem vb (l:List Edge) (p:Edge→Option Bool) (q:Edge→Bool) (hl:l.length≤4000000000000000000) (hp:∀x∈l,p x=some (q x)):Tg l p=some (Br (l.findIdx? q)):=by
 unfold Tg;refine Kr l _ q hl (fun k x hx=>?_) ?_
 ·simp only [Xj,AQ hx,Ag,Ar hx,OB,hp x (List.mem_iff_getElem?.2 ⟨k,hx⟩),EA hx hl];cases q x<;>rfl
 ·simp only [Xj,AT,Aa,Xi,Option.map_some]
theorem ka (l:List Edge) (p:Edge→Option Bool) (q:Edge→Bool) (hl:l.length≤4000000000000000000) (hp:∀x∈l,p x=some (q x)):Oe l p=some (l.any q):=by unfold Oe;rw [vb l p q hl hp,OB,Lv,Kl]
def LZ (a b:Int):Int:=if a<b then -1 else if b<a then 1 else 0
theorem uT (a b:Int):Ms a b=some (LZ a b):=by simp only [Ms,PS,OB,LZ];by_cases h1:a<b<;>by_cases h2:b<a<;>simp [h1,h2,A0]
theorem vh (a b:Int):PQ [a,b]=some (if a≠0 then a else b):=by
 unfold PQ;rw [Bn];simp only [PR,AX,List.length_cons,List.length_nil];by_cases ha:a=0
 ·subst ha;simp [Ac];rw [show wr 1=1 from D4 Om Om,Bn];simp only [PR,AX,List.length_cons,List.length_nil];by_cases hb:b=0
  ·subst hb;simp [Ac];rw [show wr 2=2 from D4 Om Om,Bn];simp [PR,AX,UW]
  ·simp [Ac,hb]
 ·simp [Ac,ha]
def Edge.lt (x y:Edge):Bool:=decide (x.A<y.A)||(decide (x.A=y.A)&&decide (x.B<y.B))
theorem w7 (x y:Edge):∃n,Qq x y=some n∧decide (0≤n)=!x.lt y:=by
 refine ⟨if LZ x.A y.A≠0 then LZ x.A y.A else LZ x.B y.B,by simp only [Qq,uT,OB,vh],?_⟩;unfold LZ Edge.lt;by_cases h1:x.A<y.A
 ·simp [h1]
 ·by_cases h2:y.A<x.A
  ·have:x.A≠y.A:=by omega
   simp [h1,h2,this]
  ·have:x.A=y.A:=by omega
   simp [this];by_cases h3:x.B<y.B
   ·simp [h3]
   ·by_cases h4:y.B<x.B<;>simp [h3,h4]<;>omega
def Edge.ok (n:Int) (e:Edge):Bool:=decide (0≤e.A)&&(decide (e.A<e.B)&&decide (e.B<n))
def ES:List Edge→Bool
 | x::y::l=>x.lt y&&ES (y::l)
 | _=>true
theorem jU (l:List Edge):ES l=true↔∀k x y,l[k]?=some x→l[k+1]?=some y→x.lt y=true:=by
 induction l with
 | nil=>simp [ES]
 | cons a l ih=>
   cases l with
   | nil=>simp [ES]
   | cons b l=>
     simp only [ES,Bool.and_eq_true,ih];constructor
     ·rintro ⟨h1,h2⟩ k x y hx hy;cases k with
      | zero=>simp at hx hy;subst hx;subst hy;exact h1
      | succ k=>exact h2 k x y (by simpa using hx) (by simpa using hy)
     ·intro h;exact ⟨h 0 a b (by simp) (by simp),fun k x y hx hy=>h (k+1) x y (by simpa using hx) (by simpa using hy)⟩
def Bd (g:Graph):Bool:=decide (0≤g.N)&&(decide (g.N≤64)&&(decide (g.Edges.length≤400)&&(g.Edges.all (Edge.ok g.N)&&ES g.Edges)))
theorem uQ (e:Edge) (g:Graph):MU e g=some (!e.ok g.N):=by
 simp only [MU,MV,Edge.ok];by_cases h1:e.A<0
 ·have:¬0≤e.A:=by omega
  simp [h1,this]
 ·have h1':0≤e.A:=by omega
  by_cases h2:e.B≤e.A
  ·have:¬e.A<e.B:=by omega
   simp [h1,h2,this]
  ·have h2':e.A<e.B:=by omega
   by_cases h3:g.N≤e.B
   ·have:¬e.B<g.N:=by omega
    simp [h1,h2,h3,this]
   ·have:e.B<g.N:=by omega
    simp [h1,h2,h3,this,h1',h2']
theorem gv {β:Type} (l:List Edge) (body:Int→Option (Int ⊕ β)) (E no:β) (q:Edge→Bool) (_:l.length≤4000000000000000000)
  (hb:∀(k:Nat) x,l[k]?=some x→body k=some (if q x||(match k with | 0=>false | k+1=>match l[k]? with | some y=>!y.lt x | none=>false) then .inr E else .inl ((k+1:Nat):Int))) (he:body l.length=some (.inr no)):
  loop body 0=some (if l.all (fun x=>!q x)&&ES l then no else E):=by
 have Ap:∀m k,m+k=l.length→(∀j x,j<k→l[j]?=some x→q x=false)→(∀j x y,j+1<k→l[j]?=some x→l[j+1]?=some y→x.lt y=true)→loop body (k:Int)=some (if l.all (fun x=>!q x)&&ES l then no else E):=by
  intro m;induction m with
  | zero=>
    intro k hk h1 h2;have:k=l.length:=by omega
    subst this;rw [Bn,he];have a1:l.all (fun x=>!q x)=true:=by rw [List.all_eq_true];intro x hx;obtain ⟨j,hj⟩:=List.mem_iff_getElem?.1 hx;simp [h1 j x (List.getElem?_eq_some_iff.1 hj).1 hj]
    have a2:ES l=true:=by rw [jU];intro j x y hx hy;exact h2 j x y (List.getElem?_eq_some_iff.1 hy).1 hx hy
    simp [a1,a2]
  | succ m ih=>
    intro k hk h1 h2;have hlt:k<l.length:=by omega
    have hx:l[k]?=some l[k]:=List.getElem?_eq_getElem hlt;rw [Bn,hb k _ hx];by_cases hq:q l[k]=true
    ·have:l.all (fun x=>!q x)=false:=by rw [List.all_eq_false];exact ⟨l[k],List.getElem_mem hlt,by simp [hq]⟩
     simp [hq,this]
    ·have hq:q l[k]=false:=by simpa using hq
     cases k with
     | zero=>
       simp only [hq,Bool.or_false,Bool.false_eq_true,if_false];refine ih 1 Om (fun j x hj h6=>?_) (fun j x y hj=>Om);have:j=0:=by omega
       subst this;rw [hx] at h6;simp at h6;rw [←h6];exact hq
     | succ k=>
       have hy:l[k]?=some l[k]:=List.getElem?_eq_getElem Om;simp only [hq,hy,Bool.false_or];by_cases hr:l[k].lt l[k+1]=true
       ·simp only [hr,Bool.not_true,Bool.false_eq_true,if_false];refine ih (k+1+1) Om (fun j x hj h6=>?_) (fun j x y hj h6 h8=>?_)
        ·rcases Nat.lt_succ_iff_lt_or_eq.1 hj with h | rfl
         ·exact h1 j x h h6
         ·rw [hx] at h6;simp at h6;rw [←h6];exact hq
        ·rcases Nat.lt_succ_iff_lt_or_eq.1 (Nat.succ_lt_succ_iff.1 hj) with h | rfl
         ·exact h2 j x y Om h6 h8
         ·rw [hy] at h6;rw [hx] at h8;simp at h6 h8;rw [←h6,←h8];exact hr
       ·have hr:l[k].lt l[k+1]=false:=by simpa using hr
        have:ES l=false:=by
         cases h:ES l with
         | false=>rfl
         | true=>rw [jU] at h;have:=h k _ _ hy hx;rw [hr] at this;exact absurd this (by simp)
        simp [hr,this]
 exact Ap l.length 0 Om (fun j x hj=>Om) (fun j x y hj=>Om)
theorem Ly (g:Graph):Hq g=some (if Bd g then 0 else 30):=by
 simp only [Hq,KA];by_cases h1:g.N<0
 ·have:¬0≤g.N:=by omega
  simp [h1,Bd,this]
 by_cases h2:64<g.N
 ·have:¬g.N≤64:=by omega
  simp [h1,h2,Bd,this]
 by_cases h3:400<g.Edges.length
 ·have:¬g.Edges.length≤400:=by omega
  have h3':(400:Int)<ln Edge.row g.Edges:=by rw [AX];omega
  simp [h1,h2,h3',Bd,this]
 have h3':¬(400:Int)<ln Edge.row g.Edges:=by rw [AX];omega
 rw [ka g.Edges _ (fun e=>!e.ok g.N) Om (fun x _=>uQ x g)];have e1:0≤g.N:=by omega
 have e2:g.N≤64:=by omega
 have e3:g.Edges.length≤400:=by omega
 simp only [h1,h2,h3',decide_false,Aa,OB,Bd,e1,e2,e3,decide_true,Bool.true_and];by_cases h4:g.Edges.any (fun e=>!e.ok g.N)=true
 ·have h5:g.Edges.all (Edge.ok g.N)=false:=by rw [List.any_eq_true] at h4;obtain ⟨x,hx,hq⟩:=h4;rw [List.all_eq_false];exact ⟨x,hx,by simpa using hq⟩
  simp [h4,h5]
 ·have h4:g.Edges.any (fun e=>!e.ok g.N)=false:=by simpa using h4
  have h5:g.Edges.all (Edge.ok g.N)=true:=by rw [List.any_eq_false] at h4;rw [List.all_eq_true];intro x hx;simpa using h4 x hx
  simp only [h4,h5,Aa,Bool.true_and];have Ap:=gv g.Edges (MX g) 30 0 (fun _=>false) Om (fun k x hx=>by
   cases k with
   | zero=>have:=AQ (f:=Edge.row) hx;simp only [MX,this,Ag,MW];simp;exact EA hx Om
   | succ k=>
     have hk:=(List.getElem?_eq_some_iff.1 hx).1;have hy:g.Edges[k]?=some g.Edges[k]:=List.getElem?_eq_getElem Om;obtain ⟨n,h6,h8⟩:=w7 g.Edges[k] x;have h0:decide ((0:Int)<((k+1:Nat):Int))=true:=DT Om;simp only [MX,AQ hx,Ag,h0,d5 (show k≤4000000000000000000 by omega),Ar hy,Ar hx,OB,h6,h8,MW,hy,Bool.false_or];cases g.Edges[k].lt x
     ·simp
     ·simp only [Bool.not_true,Bool.false_eq_true,if_false,Aa];rw [EA hx (show g.Edges.length≤4000000000000000000 by omega)])
   (by simp only [MX,AT,Aa,V6,Option.map_some])
  rw [Ap];simp
theorem Dc {g:Graph} (h:Bd g=true):0≤g.N∧g.N≤64∧g.Edges.length≤400∧(∀e∈g.Edges,0≤e.A∧e.A<e.B∧e.B<g.N)∧ES g.Edges=true:=by simp only [Bd,Bool.and_eq_true,decide_eq_true_eq,List.all_eq_true,Edge.ok] at h;exact ⟨h.1,h.2.1,h.2.2.1,fun e he=>h.2.2.2.1 e he,h.2.2.2.2⟩
def cg (c:List Int) (i:Int):Int:=(c[i.toNat]?).getD 0
theorem Kg {c:List Int} {i:Int} (h0:0≤i) (h:i<c.length):Ac c i=some (cg c i):=by obtain ⟨x,h1,h2⟩:=Z7 h0 h;rw [h1,cg,h2];rfl
def FI (g:Graph) (c:List Int):Bool:=decide ((c.length:Int)=g.N)&&(c.all (fun x=>decide (1≤x))&&g.Edges.all (fun e=>!decide (cg c e.A=cg c e.B)))
theorem vl (g:Graph) (c:List Int) (_:c.length≤1000000):PT g c=some (Bd g&&FI g c):=by
 simp only [PT,Ly,OB,Je];cases hg:Bd g with
 | false=>simp [Ih]
 | true=>
   obtain ⟨g1,g2,g3,g4,g5⟩:=Dc hg;simp only [if_true,decide_true,Ag,Bool.true_and,AX];by_cases hl:(c.length:Int)=g.N
   ·rw [K1 c (fun z=>PU z) (fun x=>decide (x<1)) Om (fun x _=>rfl)];simp only [hl,decide_true,Ag,OB,FI,Bool.true_and];have e1:c.any (fun x=>decide (x<1))=!c.all (fun x=>decide (1≤x)):=Kf _ _ _ (fun x=>by
     by_cases h:x<1
     ·have:¬1≤x:=by omega
      simp [h,this]
     ·have:1≤x:=by omega
      simp [h,this])
    rw [e1];cases hp:c.all (fun x=>decide (1≤x)) with
    | false=>simp [Ih]
    | true=>simp only [Bool.not_true,Ih,Aa];rw [ka g.Edges _ (fun e=>decide (cg c e.A=cg c e.B)) Om (fun e he=>by obtain ⟨k1,k2,k3⟩:=g4 e he;simp only [PV,Kg (c:=c) k1 Om,Kg (c:=c) (show 0≤e.B by omega) Om,OB])];simp [nP]
   ·simp [hl,FI,Ih]
theorem vt (x y:Edge):Ro x y=some (x.lt y):=by
 simp only [Ro,Ns,Edge.lt];by_cases h1:x.A<y.A
 ·simp [h1]
 ·by_cases h2:x.A=y.A<;>simp [h1,h2]
theorem w6 (g:Graph):Rm g=some (Bd g):=by
 simp only [Rm,Nr];by_cases h1:g.N<0
 ·have:¬0≤g.N:=by omega
  simp [h1,Bd,this]
 by_cases h2:64<g.N
 ·have:¬g.N≤64:=by omega
  simp [h1,h2,Bd,this]
 by_cases h3:400<g.Edges.length
 ·have:¬g.Edges.length≤400:=by omega
  have h3':(400:Int)<ln Edge.row g.Edges:=by rw [AX];omega
  simp [h1,h2,h3',Bd,this]
 have h3':¬(400:Int)<ln Edge.row g.Edges:=by rw [AX];omega
 have e1:0≤g.N:=by omega
 have e2:g.N≤64:=by omega
 have e3:g.Edges.length≤400:=by omega
 simp only [h1,h2,h3',decide_false,Aa,Bd,e1,e2,e3,decide_true,Bool.true_and];have Ap:=gv g.Edges (Rn g) false true (fun e=>!e.ok g.N) Om (fun k x hx=>by
  have hw:wr ((k:Int)+1)=((k+1:Nat):Int):=EA hx Om;simp only [Rn,AQ hx,Ag,Ar hx,OB,Jy,hw,Edge.ok];by_cases k1:x.A<0
  ·have:¬0≤x.A:=by omega
   simp [k1,this]
  ·have k1':0≤x.A:=by omega
   by_cases k2:x.B≤x.A
   ·have:¬x.A<x.B:=by omega
    simp [k1,k2,this]
   ·have k2':x.A<x.B:=by omega
    by_cases k3:g.N≤x.B
    ·have:¬x.B<g.N:=by omega
     simp [k1,k2,k3,this]
    ·have k3':x.B<g.N:=by omega
     simp only [k1,k2,k3,k1',k2',k3',decide_false,decide_true,Aa,Bool.and_self,Bool.not_true,Bool.false_or];cases k with
     | zero=>simp
     | succ k=>have hk:=(List.getElem?_eq_some_iff.1 hx).1;have hy:g.Edges[k]?=some g.Edges[k]:=List.getElem?_eq_getElem Om;have h0:decide ((0:Int)<((k+1:Nat):Int))=true:=DT Om;simp only [h0,Ag,d5 (show k≤4000000000000000000 by omega),Ar hy,hy,OB,vt];cases g.Edges[k].lt x<;>simp)
  (by simp only [Rn,AT,Aa,Wf,Option.map_some])
 rw [Ap];have:g.Edges.all (fun x=>!!Edge.ok g.N x)=g.Edges.all (Edge.ok g.N):=by simp
 rw [this];cases g.Edges.all (Edge.ok g.N)&&ES g.Edges<;>rfl
def wT (l:List DI) (i:Nat) (x:SX):Bool:=decide (0≤x.PE)&&(decide (x.PE<l.length)&&(!decide (x.PE=i)&&(match l[x.PE.toNat]? with | some e=>(wW e i).isSome | none=>false)))
def uG (p:Option Int) (x:SX):Bool:=match p with | none=>true | some q=>decide (q<x.PE)
def bj (l:List DI) (i:Nat):Option Int→List SX→Bool
 | _,[]=>true
 | p,x::r=>uG p x&&(wT l i x&&bj l i (some x.PE) r)
def qj (i:Nat) (xs:List SX):List Edge:=(xs.filter fun x=>decide ((i:Int)<x.PE)).map fun x=>⟨i,x.PE⟩
def Ty (l:List DI):Nat→List DI→Bool
 | _,[]=>true
 | i,d::r=>decide (d.ID=i)&&(bj l i none d.SD&&Ty l (i+1) r)
def Zm:Nat→List DI→List Edge
 | _,[]=>[]
 | i,d::r=>qj i d.SD++Zm (i+1) r
def rH:Graph:=⟨0,[]⟩
def fD (l:List DI):Graph×Bool:=if Ty l 0 l&&Bd ⟨l.length,Zm 0 l⟩ then (⟨l.length,Zm 0 l⟩,true) else (rH,false)
theorem ja (l:List DI):∀(r:List DI) (i:Nat),Ty l i r=true↔∀k d,r[k]?=some d→d.ID=((i+k:Nat):Int)∧bj l (i+k) none d.SD=true
 | [],i=>by simp [Ty]
 | d::r,i=>by
   simp only [Ty,Bool.and_eq_true,decide_eq_true_eq,ja l r (i+1)];constructor
   ·rintro ⟨h1,h2,h3⟩ k e he;cases k with
    | zero=>simp at he;subst he;exact ⟨by simpa using h1,by simpa using h2⟩
    | succ k=>have:=h3 k e (by simpa using he);rw [show i+(k+1)=i+1+k by omega];exact this
   ·intro h;refine ⟨by simpa using (h 0 d (by simp)).1,by simpa using (h 0 d (by simp)).2,fun k e he=>?_⟩;have:=h (k+1) e (by simpa using he);rw [show i+1+k=i+(k+1) by omega];exact this
theorem Edge.lt_trans {x y z:Edge} (h:x.lt y=true) (k:y.lt z=true):x.lt z=true:=by simp only [Edge.lt,Bool.or_eq_true,Bool.and_eq_true,decide_eq_true_eq] at *;omega
theorem jV:∀ {l:List Edge},ES l=true→l.Pairwise fun x y=>x.lt y=true
 | [],_=>List.Pairwise.nil
 | [x],_=>by simp
 | x::y::l,h=>by
   simp only [ES,Bool.and_eq_true] at h;have ih:=jV h.2;refine List.pairwise_cons.2 ⟨?_,ih⟩;intro z hz;rcases List.mem_cons.1 hz with rfl | hz
   ·exact h.1
   ·exact Edge.lt_trans h.1 ((List.pairwise_cons.1 ih).1 z hz)
theorem tz {g:Graph} (h:Bd g=true):g.Edges.Pairwise fun x y=>x.lt y=true:=jV (Dc h).2.2.2.2
def GW (a:Int) (e:Edge):Option Int:=if a=e.A then some e.B else if a=e.B then some e.A else none
def Be (g:Graph) (a:Int):List Int:=g.Edges.filterMap (GW a)
theorem gW {g:Graph} (h:Bd g=true) (a:Int):(Be g a).Pairwise (· < ·):=by
 unfold Be;rw [List.pairwise_filterMap];obtain ⟨_,_,_,h4,_⟩:=Dc h;refine List.Pairwise.imp_of_mem ?_ (tz h);intro x y hx hy h6 b hb b' hb';have k1:=h4 x hx;have k2:=h4 y hy;simp only [Edge.lt,Bool.or_eq_true,Bool.and_eq_true,decide_eq_true_eq] at h6;unfold GW at hb hb';split at hb<;>split at hb'
 ·simp at hb hb';omega
 ·split at hb'
  ·simp at hb hb';omega
  ·simp at hb'
 ·split at hb
  ·simp at hb hb';omega
  ·simp at hb
 ·split at hb<;>split at hb'
  ·simp at hb hb';omega
  ·simp at hb'
  ·simp at hb
  ·simp at hb
theorem XI (g:Graph) (a:Int):(Be g a).length≤g.Edges.length:=List.length_filterMap_le _ _
theorem bY (g:Graph) (a:Int):Ik g a=some (if Bd g then Be g a else []):=by
 simp only [Ik,Ly,OB];cases hg:Bd g with
 | false=>rfl
 | true=>
   have h6:=(Dc hg).2.2.1;simp only [if_true,decide_true,Bool.not_true,Aa];refine D0 g.Edges _ (fun pre=>((pre.length:Int),pre.filterMap (GW a))) (Be g a) (fun pre e post h=>?_) ?_
   ·have hx:=BL h;have hm:=BG h;have hl:(pre.filterMap (GW a)).length≤pre.length:=List.length_filterMap_le _ _;dsimp only [V8];rw [AQ hx,Ag,Ar hx,OB,AW,List.filterMap_append];by_cases h1:a=e.A
    ·rw [DT h1,Ag,B5 _ _ Om (by simp only [List.length_singleton];omega),OB,Jr,AC Om];simp [GW,h1]
    ·by_cases h2:a=e.B
     ·rw [DN h1,Aa,DT h2,Ag,B5 _ _ Om (by simp only [List.length_singleton];omega),OB,Jr,AC Om];have:¬e.B=e.A:=fun e'=>h1 (h2.trans e');simp [GW,h2,this]
     ·rw [DN h1,Aa,DN h2,Aa,Jr,AC Om];simp [GW,h1,h2]
   ·dsimp only [V8];rw [AT,Aa,V7];have:(g.Edges.filterMap (GW a))=Be g a:=rfl;rw [this,wg _ (by have:=XI g a;omega) (gW hg a)];rfl
theorem XE {g:Graph} (h:Bd g=true) {a b:Int}:b∈Be g a↔(⟨a,b⟩:Edge)∈g.Edges∨(⟨b,a⟩:Edge)∈g.Edges:=by
 obtain ⟨_,_,_,h4,_⟩:=Dc h;unfold Be;rw [List.mem_filterMap];constructor
 ·rintro ⟨e,he,hb⟩;unfold GW at hb;split at hb
  ·rename_i h1;simp at hb;subst hb;subst h1;exact .inl he
  ·split at hb
   ·rename_i h2;simp at hb;subst hb;subst h2;exact .inr he
   ·simp at hb
 ·rintro (he | he)
  ·exact ⟨_,he,by simp [GW]⟩
  ·have:=h4 _ he;dsimp only at this;exact ⟨_,he,by unfold GW;rw [if_neg (by dsimp only;omega),if_pos rfl]⟩
theorem GX {g:Graph} (h:Bd g=true) {a b:Int} (hb:b∈Be g a):0≤b∧b<g.N∧b≠a∧0≤a∧a<g.N:=by
 obtain ⟨_,_,_,h4,_⟩:=Dc h;rcases (XE h).1 hb with he | he
 ·have:=h4 _ he;dsimp only at this;omega
 ·have:=h4 _ he;dsimp only at this;omega
def Dq (c:List Int) (a b:Int):SX:=⟨b,1,0,decide (cg c b<cg c a),decide (cg c b<cg c a),!decide (cg c b<cg c a),decide (cg c b<cg c a),!decide (cg c b<cg c a)⟩
def FY (g:Graph) (c:List Int) (a:Nat):DI:=⟨a,0,(Be g a).map (Dq c a)⟩
def K8 (g:Graph) (c:List Int):List DI:=(List.range g.N.toNat).map (FY g c)
theorem gL {α:Type} (f:Nat→α) (k:Nat):(List.range (k+1)).map f=(List.range k).map f++[f k]:=by simp [List.range_succ]
theorem vq (g:Graph) (hg:Bd g=true) (c:List Int) (hc:(c.length:Int)=g.N) (a:Nat) (ha:(a:Int)<g.N) (L:List DI) (E:L.length≤1000):
  loop (Sv c a L (Be g a)) (0,[])=some (.inl (((a+1:Nat):Int),L++[FY g c a])):=by
 obtain ⟨g1,g2,g3,_,_⟩:=Dc hg;have h6:=XI g a;refine D0 (Be g a) _ (fun pre=>((pre.length:Int),pre.map (Dq c a))) _ (fun pre b post h=>?_) ?_
 ·have hx:=BL h;have hm:=BG h;obtain ⟨b1,b2,_,_,_⟩:=GX hg (Di h);dsimp only [Sv];rw [AQ hx,Ag,Ar hx,OB,Kg (c:=c) (Int.natCast_nonneg a) Om,OB,Kg (c:=c) b1 Om,OB,B5 _ _ Om (by simp;omega),OB,AW,AC Om,List.map_append];rfl
 ·dsimp only [Sv];rw [AT,Aa,WS,B5 _ _ Om (by simp;omega),OB,AC Om];rfl
theorem uE {g:Graph} {c:List Int} (h:FI g c=true):(c.length:Int)=g.N:=by simp only [FI,Bool.and_eq_true,decide_eq_true_eq] at h;exact h.1
theorem vp (g:Graph) (c:List Int) (hc:c.length≤1000000):Ss g c=some (if Bd g then (if FI g c then (K8 g c,0) else ([],120)) else ([],30)):=by
 simp only [Ss,Ly,OB];cases hg:Bd g with
 | false=>rfl
 | true=>
   obtain ⟨g1,g2,_,_,_⟩:=Dc hg;simp only [if_true,decide_true,Bool.not_true,Aa,vl g c hc,hg,Bool.true_and,OB];cases hr:FI g c with
   | false=>rfl
   | true=>
     simp only [Bool.not_true,Aa,if_true];refine Kq g.N.toNat (Su g c) (fun k=>((k:Int),(List.range k).map (FY g c))) _ (fun k hk=>?_) ?_
     ·dsimp only [Su];rw [DT Om,Ag,bY,hg,if_pos rfl,OB,vq g hg c (uE hr) k Om _ (by simp;omega),gL]
     ·dsimp only [Su];rw [DN Om,Aa];rfl
theorem uF {g:Graph} (hg:Bd g=true) {c:List Int} (h:FI g c=true) {a b:Int} (hb:b∈Be g a):cg c a≠cg c b:=by
 simp only [FI,Bool.and_eq_true,List.all_eq_true,Bool.not_eq_true',decide_eq_false_iff_not] at h;rcases (XE hg).1 hb with he | he
 ·exact h.2.2 _ he
 ·exact fun e=>h.2.2 _ he e.symm
theorem xg {g:Graph} (hg:Bd g=true) (c:List Int):((K8 g c).length:Int)=g.N:=by have:=(Dc hg).1;simp [K8];omega
theorem Pu {l:List DI} (h:(fD l).2=true) {k:Nat} {d:DI} (hd:l[k]?=some d):d.ID=k:=by
 unfold fD at h;split at h
 ·rename_i h1;simp only [Bool.and_eq_true] at h1;have:=((ja l l 0).1 h1.1 k d hd).1;simpa using this
 ·simp at h
def GH (p:Nat→Bool):Nat→Nat→Nat
 | 0,k=>k
 | f+1,k=>if p k then k else GH p f (k+1)
theorem gC (p:Nat→Bool):∀(f k:Nat),p (k+f)=true→p (GH p f k)=true∧k≤GH p f k∧GH p f k≤k+f
 | 0,k,h=>⟨h,Nat.le_refl _,Nat.le_refl _⟩
 | f+1,k,h=>by
   simp only [GH];split
   ·rename_i h1;exact ⟨h1,Nat.le_refl _,Om⟩
   ·obtain ⟨h1,h2,h3⟩:=gC p f (k+1) (by rw [show k+1+f=k+(f+1) by omega];exact h);exact ⟨h1,Om,Om⟩
def H7 (c:List Int) (E:List Int) (k:Nat):Bool:=E.any fun b=>decide (cg c b=(k:Int))
def J0 (c E:List Int):Nat:=GH (fun k=>!H7 c E k) 200 1
def HV (c E:List Int) (a:Int):Bool:=decide (cg c a=0)&&!E.any fun b=>decide (cg c b=0)&&decide (a<b)
def Ee (g:Graph) (c:List Int) (a:Nat):Int:=if HV c (Be g a) a then (J0 c (Be g a):Int) else cg c a
def H4 (g:Graph) (c:List Int):List Int:=(List.range g.N.toNat).map (Ee g c)
structure ColI (g:Graph) (c:List Int):Prop where
 len:(c.length:Int)=g.N
 lo:∀x∈c,0≤x
 hi:∀x∈c,x≤100
theorem Pi {c:List Int} {a:Int} (h0:0≤a) (h:a<c.length):cg c a∈c:=by obtain ⟨x,h1,h2⟩:=Z7 h0 h;unfold cg;rw [h2];exact List.mem_iff_getElem?.2 ⟨_,h2⟩
theorem UE {g:Graph} (hg:Bd g=true) {c:List Int} (hc:ColI g c) (a:Int):H7 c (Be g a) (J0 c (Be g a))=false∧1≤J0 c (Be g a)∧J0 c (Be g a)≤201:=by have h:=gC (fun k=>!H7 c (Be g a) k) 200 1 (by simp only [Bool.not_eq_true'];unfold H7;rw [List.any_eq_false];intro b hb;obtain ⟨b1,b2,_⟩:=GX hg hb;have:=hc.hi _ (Pi (c:=c) b1 (by rw [hc.len];exact b2));simp;omega);have h1:=h.1;simp only [Bool.not_eq_true'] at h1;exact ⟨h1,h.2.1,h.2.2⟩
theorem vn (g:Graph) (hg:Bd g=true) (c:List Int) (hc:ColI g c) (a:Nat) (ha:(a:Int)<g.N) (A B:List Int) (E:A.length=a):
  loop (Mv c a (Be g a)) (A++1::B)=some (.inl (((a+1:Nat):Int),A++(J0 c (Be g a):Int)::B)):=by
 obtain ⟨g1,g2,g3,_,_⟩:=Dc hg;have h8:=XI g a;have at1:∀y:Int,Ac (A++y::B) (a:Int)=some y:=fun y=>by rw [←E];exact IU rfl
 have st1:∀y z:Int,(A++y::B).set ((a:Int)).toNat z=A++z::B:=fun y z=>by rw [←E];exact LC _ _ _ _
 have step:∀k:Nat,Fh (Be g a) (fun z=>Mu z c (A++(k:Int)::B) a)=some (H7 c (Be g a) k):=fun k=>by refine K1 (Be g a) _ (fun b=>decide (cg c b=(k:Int))) Om (fun b hb=>?_);obtain ⟨b1,b2,_⟩:=GX hg hb;simp only [Mu];rw [Kg (c:=c) b1 (by rw [hc.len];exact b2),OB,at1,OB]
 have Ap:∀f k:Nat,k+f=201→1≤k→H7 c (Be g a) 201=false→loop (Mv c a (Be g a)) (A++(k:Int)::B)=some (.inl (((a+1:Nat):Int),A++(GH (fun k=>!H7 c (Be g a) k) f k:Int)::B)):=by
  intro f;induction f with
  | zero=>
    intro k hk _ h6;have:k=201:=by omega
    subst this;rw [Bn];dsimp only [Mv];rw [step,OB,h6,Aa];dsimp only [Kt];rw [AC Om];rfl
  | succ f ih=>
    intro k hk h1 h6;rw [Bn];dsimp only [Mv];rw [step,OB];cases hu:H7 c (Be g a) k with
    | true=>rw [Ag,at1,OB,st1,AC Om];dsimp only;rw [ih (k+1) Om Om h6];simp [GH,hu]
    | false=>rw [Aa];dsimp only [Kt];rw [AC Om];simp [GH,hu]
 refine Ap 200 1 rfl (Nat.le_refl _) ?_;unfold H7;rw [List.any_eq_false];intro b hb;obtain ⟨b1,b2,_⟩:=GX hg hb;have:=hc.hi _ (Pi (c:=c) b1 (by rw [hc.len];exact b2));simp;omega
theorem oM {c:List Int} {k:Nat} (h:k<c.length):c.drop k=cg c k::c.drop (k+1):=by rw [List.drop_eq_getElem_cons h];congr 1;unfold cg;simp [h]
theorem vm (g:Graph) (hg:Bd g=true) (c:List Int) (hc:ColI g c):PW g c=some (H4 g c,0):=by
 obtain ⟨g1,g2,g3,_,_⟩:=Dc hg;have h6:=hc.len;simp only [PW,Ly,hg,if_true,decide_true,Bool.not_true,Aa,OB,AX,h6];rw [K1 c (fun z=>PX z) (fun x=>decide (x<0)) Om (fun x _=>rfl),OB];have e0:c.any (fun x=>decide (x<0))=false:=by rw [List.any_eq_false];intro x hx;have:=hc.lo x hx;simp;omega
 rw [e0];simp only [PZ,Aa,Ct];rw [B5 _ _ Om (by simp;omega),OB,List.nil_append];refine (Kq g.N.toNat (Q0 g c) (fun k=>((k:Int),(List.range k).map (Ee g c)++c.drop k)) (H4 g c,0) (fun k hk=>?_) ?_)
 ·have h8:k<c.length:=by omega
  obtain ⟨g1',_⟩:=Dc hg;dsimp only [Q0];rw [DT Om,Ag,bY,hg,if_pos rfl,OB,Kg (c:=c) (Int.natCast_nonneg k) Om,OB,oM h8,gL];have hA:((List.range k).map (Ee g c)).length=k:=by simp
  have keep:Ee g c k=cg c k→Ku c k ((List.range k).map (Ee g c)++cg c k::c.drop (k+1)) (Be g k) true=some (.inl (((k+1:Nat):Int),((List.range k).map (Ee g c)++[Ee g c k])++c.drop (k+1))):=fun e=>by dsimp only [Ku,Kt];rw [Ag,AC Om,e];simp
  by_cases h0:cg c k=0
  ·rw [DT h0,Bool.not_true,Aa];have h9:Fh (Be g k) (fun z=>Mt z c k)=some ((Be g k).any fun b=>decide (cg c b=0)&&decide ((k:Int)<b)):=by refine K1 (Be g k) _ (fun b=>decide (cg c b=0)&&decide ((k:Int)<b)) (by have:=XI g k;omega) (fun b hb=>?_);obtain ⟨b1,b2,_⟩:=GX hg hb;simp only [Mt,PY];rw [Kg (c:=c) b1 Om,OB];cases decide (cg c b=0)<;>rfl
   rw [h9,OB];cases ht:(Be g k).any fun b=>decide (cg c b=0)&&decide ((k:Int)<b) with
   | true=>refine keep ?_;unfold Ee HV;rw [ht];simp
   | false=>
     have e:Ee g c k=(J0 c (Be g k):Int):=by unfold Ee HV;rw [ht,DT h0];simp
     dsimp only [Ku];have at1:=IU (l:=(List.range k).map (Ee g c)++cg c k::c.drop (k+1)) rfl;rw [hA] at at1;have st1:=LC ((List.range k).map (Ee g c)) (c.drop (k+1)) (cg c k) 1;rw [hA] at st1;rw [Aa,at1,OB,st1,vn g hg c hc k Om _ _ hA,e];simp
  ·rw [DN h0,Bool.not_false,Ag];refine keep ?_;unfold Ee HV;rw [DN h0];simp
 ·dsimp only [Q0];rw [DN Om,Aa,List.drop_eq_nil_of_le Om,List.append_nil];rfl
theorem gB (p:Nat→Bool):∀(f k j:Nat),p j=true→k≤j→j≤k+f→GH p f k≤j
 | 0,k,j,_,h1,_=>h1
 | f+1,k,j,h,h1,h2=>by
   simp only [GH];split
   ·exact h1
   ·rename_i hp;have:k≠j:=by rintro rfl;exact hp h
    exact gB p f (k+1) j h Om Om
theorem eC {α:Type} (p q:α→Bool):∀(l:List α),(∀x∈l,p x=true→q x=true)→(∃x∈l,q x=true∧p x=false)→l.countP p<l.countP q
 | [],_,⟨x,hx,_⟩=>absurd hx (by simp)
 | y::l,h,⟨x,hx,h1,h2⟩=>by
   have hle:l.countP p≤l.countP q:=List.countP_mono_left fun z hz=>h z (List.mem_cons_of_mem _ hz);rw [List.countP_cons,List.countP_cons];rcases List.mem_cons.1 hx with rfl | hx
   ·rw [h1,h2];simp;omega
   ·have:=eC p q l (fun z hz=>h z (List.mem_cons_of_mem _ hz)) ⟨x,hx,h1,h2⟩;have hy:=h y (by simp);cases hp:p y with
    | false=>simp;omega
    | true=>rw [hy hp];simp;omega
def Ka (g:Graph) (c:List Int):Nat:=(List.range g.N.toNat).countP fun a:Nat=>decide (cg c (a:Int)=0)
theorem xz (g:Graph) (c:List Int):Ka g c≤g.N.toNat:=by have:=List.countP_le_length (p:=fun a:Nat=>decide (cg c (a:Int)=0)) (l:=List.range g.N.toNat);simpa [Ka] using this
structure ColN (g:Graph) (c:List Int) (n:Nat):Prop where
 len:(c.length:Int)=g.N
 lo:∀x∈c,0≤x
 hi:∀x∈c,x≤n
 ne:∀a b,b∈Be g a→cg c a≠0→cg c b≠0→cg c a≠cg c b
theorem ColN.I {g:Graph} {c:List Int} {n:Nat} (h:ColN g c n) (hn:n≤100):ColI g c:=⟨h.len,h.lo,fun x hx=>by have:=h.hi x hx;omega⟩
theorem Un {g:Graph} {c:List Int} {a:Int} (h0:0≤a) (h:a<g.N):cg (H4 g c) a=Ee g c a.toNat:=by unfold cg H4;rw [List.getElem?_map,List.getElem?_range Om];rfl
theorem b8 {g:Graph} (hg:Bd g=true) {a b:Int} (h:b∈Be g a):a∈Be g b:=by rw [XE hg] at *;exact h.symm
theorem cV {c E:List Int} {a:Int}:HV c E a=true↔cg c a=0∧∀b∈E,cg c b=0→b≤a:=by
 unfold HV;simp only [Bool.and_eq_true,decide_eq_true_eq,Bool.not_eq_true',List.any_eq_false,Bool.and_eq_true,decide_eq_true_eq,not_and];constructor
 ·rintro ⟨h1,h2⟩;exact ⟨h1,fun b hb h0=>by have:=h2 b hb h0;omega⟩
 ·rintro ⟨h1,h2⟩;exact ⟨h1,fun b hb h0=>by have:=h2 b hb h0;omega⟩
theorem qQ {g:Graph} {c:List Int} {n:Nat} (hc:ColN g c n) (hn:n≤100) (a:Int):J0 c (Be g a)≤n+1:=by
 refine gB _ _ _ _ ?_ Om Om;simp only [Bool.not_eq_true'];unfold H7;rw [List.any_eq_false];intro b hb;simp only [decide_eq_true_eq];intro he;by_cases h:0≤b∧b<c.length
 ·have:=hc.hi _ (Pi (c:=c) h.1 h.2);omega
 ·unfold cg at he;have h6:0≤b.toNat:=Nat.zero_le _;cases hq:c[b.toNat]? with
  | none=>rw [hq] at he;simp at he;omega
  | some y=>rw [hq] at he;have:=hc.hi y (List.mem_iff_getElem?.2 ⟨_,hq⟩);simp at he;omega
theorem XJ (g:Graph) (c:List Int) (a:Nat):(HV c (Be g a) a=true∧Ee g c a=(J0 c (Be g a):Int))∨(HV c (Be g a) a=false∧Ee g c a=cg c a):=by unfold Ee;cases HV c (Be g a) a<;>simp
theorem ColN.round {g:Graph} (hg:Bd g=true) {c:List Int} {n:Nat} (hc:ColN g c n) (hn:n≤100):ColN g (H4 g c) (n+1):=by
 obtain ⟨g1,g2,_,_,_⟩:=Dc hg;have hI:=hc.I hn;have h6:∀x∈H4 g c,0≤x∧x≤n+1:=fun x hx=>by
  obtain ⟨a,ha,rfl⟩:=List.mem_map.1 hx;have ha':=List.mem_range.1 ha;have:=qQ hc hn a;rcases XJ g c a with ⟨_,h2⟩ | ⟨_,h2⟩
  ·rw [h2];omega
  ·rw [h2];have hm:=Pi (c:=c) (a:=(a:Int)) Om (by have:=hc.len;omega);have:=hc.lo _ hm;have:=hc.hi _ hm;omega
 refine ⟨by simp [H4];omega,fun x hx=>(h6 x hx).1,fun x hx=>by have:=(h6 x hx).2;omega,fun a b hb h8 h9=>?_⟩;obtain ⟨b1,b2,b3,a1,a2⟩:=GX hg hb;have hab:=b8 hg hb;rw [Un a1 a2] at h8 ⊢;rw [Un b1 b2] at h9 ⊢;have ea:((a.toNat:Nat):Int)=a:=Int.toNat_of_nonneg a1;have eb:((b.toNat:Nat):Int)=b:=Int.toNat_of_nonneg b1;have ua:=(UE hg hI a).1;have ub:=(UE hg hI b).1;unfold H7 at ua ub;rw [List.any_eq_false] at ua ub;have ua':=ua b hb;have ub':=ub a hab;simp only [decide_eq_true_eq] at ua' ub';rcases XJ g c a.toNat with ⟨h1,h2⟩ | ⟨h1,h2⟩<;>rcases XJ g c b.toNat with ⟨k1,k2⟩ | ⟨k1,k2⟩<;>rw [ea] at h1 h2<;>rw [eb] at k1 k2
 ·rw [cV] at h1 k1;have:=h1.2 b hb k1.1;have:=k1.2 a hab h1.1;exact absurd Om b3
 ·rw [h2,k2];exact fun e=>ua' e.symm
 ·rw [h2,k2];exact ub'
 ·rw [h2,k2];rw [h2] at h8;rw [k2] at h9;exact hc.ne a b hb h8 h9
theorem gM (p:Nat→Bool):∀n:Nat,(∃a,a<n∧p a=true)→∃a,a<n∧p a=true∧∀b,b<n→p b=true→b≤a
 | 0,⟨a,h,_⟩=>absurd h Om
 | n+1,⟨a,h,hp⟩=>by
   cases hn:p n with
   | true=>exact ⟨n,Om,hn,fun b hb _=>Om⟩
   | false=>
     have:a≠n:=by rintro rfl;rw [hn] at hp;simp at hp
     obtain ⟨a',h1,h2,h3⟩:=gM p n ⟨a,Om,hp⟩;refine ⟨a',Om,h2,fun b hb hpb=>?_⟩;have:b≠n:=by rintro rfl;rw [hn] at hpb;simp at hpb
     exact h3 b Om hpb
theorem mc {g:Graph} (hg:Bd g=true) {c:List Int} {n:Nat} (hc:ColN g c n) (hn:n≤100) (h0:(0:Int)∈c):Ka g (H4 g c)<Ka g c:=by
 have hI:=hc.I hn;have ex:∃a,a<g.N.toNat∧(fun a:Nat=>decide (cg c (a:Int)=0)) a=true:=by obtain ⟨k,hk⟩:=List.mem_iff_getElem?.1 h0;have hlt:=(List.getElem?_eq_some_iff.1 hk).1;have:=hc.len;refine ⟨k,Om,?_⟩;simp [cg,hk]
 obtain ⟨a,h1,h2,h3⟩:=gM _ _ ex;simp only [decide_eq_true_eq] at h2 h3;refine eC _ _ _ (fun b hb hz=>?_) ⟨a,List.mem_range.2 h1,by simpa using h2,?_⟩
 ·have hb':=List.mem_range.1 hb;have hf:=(UE hg hI b).2.1;simp only [decide_eq_true_eq] at hz ⊢;rw [Un Om Om,Int.toNat_natCast] at hz;rcases XJ g c b with ⟨k1,k2⟩ | ⟨k1,k2⟩
  ·rw [cV] at k1;exact k1.1
  ·rw [←k2];exact hz
 ·have ht:HV c (Be g a) a=true:=by rw [cV];refine ⟨h2,fun b hb h6=>?_⟩;obtain ⟨b1,b2,_⟩:=GX hg hb;have:=h3 b.toNat Om (by rw [Int.toNat_of_nonneg b1];exact h6);omega
  have hf:=(UE hg hI a).2.1;simp only [decide_eq_false_iff_not];rw [Un Om Om,Int.toNat_natCast];unfold Ee;rw [ht];simp;omega
def IJ (g:Graph):Nat→List Int→Int→List Int×Int
 | 0,c,n=>(c,n)
 | f+1,c,n=>if (0:Int)∈c then IJ g f (H4 g c) (n+1) else (c,n)
theorem ma {g:Graph} {c:List Int} {n:Nat} (hc:ColN g c n) (h0:(0:Int)∈c):0<Ka g c:=by obtain ⟨k,hk⟩:=List.mem_iff_getElem?.1 h0;have hlt:=(List.getElem?_eq_some_iff.1 hk).1;have:=hc.len;refine List.countP_pos_iff.2 ⟨k,List.mem_range.2 Om,?_⟩;simp [cg,hk]
theorem uJ {g:Graph} (hg:Bd g=true):∀(f:Nat) (c:List Int) (n:Nat),ColN g c n→Ka g c≤f→n+f≤100→FI g (IJ g f c n).1=true∧(IJ g f c n).1.length≤64:=by
 obtain ⟨g1,g2,g3,g4,g5⟩:=Dc hg;have done:∀(c:List Int) (n:Nat),ColN g c n→(0:Int)∉c→FI g c=true∧c.length≤64:=fun c n hc h0=>by
  have hl:=hc.len;refine ⟨?_,Om⟩;unfold FI;rw [DT hl,Bool.true_and,Bool.and_eq_true,List.all_eq_true,List.all_eq_true];have nz:∀a:Int,0≤a→a<g.N→cg c a≠0:=fun a h1 h2 h=>h0 (h ▸ Pi (c:=c) h1 Om);refine ⟨fun x hx=>?_,fun e he=>?_⟩
  ·have:=hc.lo x hx;have:x≠0:=by rintro rfl;exact h0 hx
   simp;omega
  ·obtain ⟨e1,e2,e3⟩:=g4 e he;have:=hc.ne e.A e.B ((XE hg).2 (.inl he)) (nz _ e1 Om) (nz _ Om e3);simpa using this
 intro f;induction f with
 | zero=>
   intro c n hc hz _;have h0:(0:Int)∉c:=fun h=>by have:=ma hc h;omega
   exact done c n hc h0
 | succ f ih=>
   intro c n hc hz hn;simp only [IJ];split
   ·rename_i h0;have:=mc hg hc Om h0;have k:=ih (H4 g c) (n+1) (hc.round hg Om) Om Om;rwa [show ((n+1:Nat):Int)=(n:Int)+1 from rfl] at k
   ·rename_i h0;exact done c n hc h0
theorem uK {g:Graph} (hg:Bd g=true):∀(f:Nat) (c:List Int) (n:Nat),ColN g c n→Ka g c≤f→n+f≤100→loop (Mw g) (c,(n:Int))=some ((IJ g f c n).1,(IJ g f c n).2,0):=by
 obtain ⟨g1,g2,g3,g4,g5⟩:=Dc hg;have stop:∀(c:List Int) (n:Nat),ColN g c n→(0:Int)∉c→loop (Mw g) (c,(n:Int))=some (c,(n:Int),0):=fun c n hc h0=>by have hl:=hc.len;rw [Bn];dsimp only [Mw];rw [Yi c 0 Om,OB,DN h0,Aa];rfl
 intro f;induction f with
 | zero=>
   intro c n hc hz _;have h0:(0:Int)∉c:=fun h=>by have:=ma hc h;omega
   exact stop c n hc h0
 | succ f ih=>
   intro c n hc hz hn;have hl:=hc.len;simp only [IJ];by_cases h0:(0:Int)∈c
   ·rw [if_pos h0,Bn];dsimp only [Mw];rw [Yi c 0 Om,OB,DT h0,Ag,vm g hg c (hc.I Om),OB,AC Om];have:=mc hg hc Om h0;exact ih (H4 g c) (n+1) (hc.round hg Om) Om Om
   ·rw [if_neg h0];exact stop c n hc h0
def c0 (g:Graph):List Int:=List.replicate g.N.toNat 0
def DX (g:Graph):List Int:=(IJ g 64 (c0 g) 0).1
theorem oF (g:Graph) (a:Int):cg (c0 g) a=0:=by unfold cg c0;rw [List.getElem?_replicate];split<;>rfl
theorem dV {g:Graph} (hg:Bd g=true):ColN g (c0 g) 0:=by
 obtain ⟨g1,_⟩:=Dc hg;refine ⟨by simp [c0];omega,fun x hx=>?_,fun x hx=>?_,fun a b _ h _=>absurd (oF g a) h⟩
 ·have:=List.eq_of_mem_replicate hx;omega
 ·have:=List.eq_of_mem_replicate hx;omega
theorem m9 {g:Graph} (hg:Bd g=true) (c:List Int):Ka g c≤64:=by have:=xz g c;have:=(Dc hg).2.1;omega
theorem ew {g:Graph} (hg:Bd g=true):FI g (DX g)=true∧(DX g).length≤64:=by have:=uJ hg 64 (c0 g) 0 (dV hg) (m9 hg _) Om;exact this
theorem vo (g:Graph) (hg:Bd g=true):Kv g=some (DX g,(IJ g 64 (c0 g) 0).2,0):=by
 obtain ⟨g1,g2,_⟩:=Dc hg;simp only [Kv,Ly,hg,if_true,OB,decide_true,Bool.not_true,Aa];have e:Ow 8 g.N 0=some (c0 g):=by unfold Ow;rw [if_pos ⟨Om,Om⟩];rfl
 rw [e,OB];exact uK hg 64 (c0 g) 0 (dV hg) (m9 hg _) Om
def K2 (g:Graph):SN:=⟨K8 g (DX g),[]⟩
theorem vg (g:Graph):Ou g=some (if Bd g then (K2 g,0) else (⟨[],[]⟩,30)):=by
 cases hg:Bd g with
 | false=>
   have:Kv g=some ([],0,30):=by simp only [Kv,Ly,hg,OB];rfl
   simp only [Ou,this,OB];rfl
 | true=>obtain ⟨h1,h2⟩:=ew hg;simp only [Ou,vo g hg,OB,decide_true,Bool.not_true,Aa,vp g _ (show (DX g).length≤1000000 by omega),hg,h1,if_true];rfl
def Ap (d:DI):Int×List Int:=(d.ID,d.SD.map (·.PE))
def nU:Bar:=⟨[],[]⟩
def Hc (g:Graph):Bar:=⟨(K2 g).DZ.map fun d=>⟨d,0,[]⟩,[]⟩
theorem vv (g:Graph):PO g=some (if Bd g then (Hc g,0) else (nU,30)):=by
 simp only [PO,vg,OB];cases hg:Bd g with
 | false=>rfl
 | true=>
   have hl:(K2 g).DZ.length≤64:=by have:=xg hg (DX g);have:=(Dc hg).2.1;show (K8 g (DX g)).length≤64;omega
   rw [if_pos rfl,show decide ((0:Int)=0)=true from rfl,Bool.not_true,Aa,if_pos rfl];refine D0 (K2 g).DZ (PP (K2 g,0)) (fun pre=>((pre.length:Int),pre.map fun d=>(⟨d,0,[]⟩:DK))) (Hc g,0) (fun pre x post h=>?_) ?_
   ·have hx:=BL h;have hm:=BG h;dsimp only [PP];rw [AQ hx,Ag,Ar hx,OB,B5 _ _ Om (by simp;omega),OB,AC Om,AW];simp
   ·dsimp only [PP];rw [AT,Aa];rfl
theorem vj (n:NO) (h:FewN n):QX n=some n:=by
 have h1:=h.sides;have h2:=h.need;have h3:=h.told;have h4:=h.known;have h5:=h.asked;have h6:=h.book;have hb:Jw n.BK=some n.BK:=by
  unfold Jw;refine D0 n.BK.SE _ (fun pre=>((pre.length:Int),pre)) _ (fun pre x post h0=>?_) ?_
  ·have hx:=BL h0;have hm:=BG h0;have hN:=h.needs x (Di h0);dsimp only [Ng];rw [AQ hx,Ag,Ar hx,OB,B5 _ _ Om (by simp;omega),OB,List.nil_append,B5 _ _ Om (by simp;omega),OB,AC Om,AW]
  ·dsimp only [Ng,VU];rw [AT,Aa];rfl
 simp only [QX,VT,VS,hb];rw [B5 _ _ Om (by simp;omega),OB,B5 _ _ Om (by simp;omega),OB,OB,OB,B5 _ _ Om (by simp;omega),OB,B5 _ _ Om (by simp;omega),OB,B5 _ _ Om (by simp;omega),OB];rfl
def JU (d:DK):List KE:=d.DI.SD.map fun x=>⟨x.PE,x.EP⟩
def Dn (d:DK):NO:=⟨d,⟨0,[]⟩,JU d,[],[]⟩
structure NewD (d:DK):Prop where
 din:DinOK d.DI
 id:d.DI.ID<64
 th:d.TH=0
 nd:d.NE=[]
 sd:∀x∈d.DI.SD,x.PE<64∧x.EP=1∧x.SS=0
theorem gX {d:DK} (h:NewD d):(JU d).Pairwise fun x y=>x.PE<y.PE:=List.pairwise_map.2 h.din.up
theorem NewD.ok {d:DK} (h:NewD d):OkN (Dn d):=by
 refine ⟨⟨h.din,by rw [show (Dn d).DK.TH=0 from h.th];omega,by rw [show (Dn d).DK.TH=0 from h.th];omega,by rw [show (Dn d).DK.NE=[] from h.nd];exact .nil,fun _=>h.nd,by rw [show (Dn d).DK.NE=[] from h.nd];simp⟩,(by decide:Cw ⟨0,[]⟩=true),by simp [Dn],by simp [Dn],h.id,gX h,?_,?_,.nil,by simp [Dn],?_,.inl h.th,?_,by simp [Dn]⟩
 ·intro k hk;obtain ⟨x,hx,rfl⟩:=List.mem_map.1 hk;have h1:=h.sd x hx;have h2:=(h.din.side x hx).lo;dsimp only;omega
 ·intro x hx;have h1:=h.sd x hx;have h2:BR (JU d) x.PE=x.EP:=M7 (gX h) (k:=⟨x.PE,x.EP⟩) (List.mem_map.2 ⟨x,hx,rfl⟩);exact ⟨h1.1,Om,h2,fun e=>Om⟩
 ·rw [show (Dn d).DK.TH=0 from h.th];simp [I8,Dn]
 ·intro x hx hn;rw [show (Dn d).DK.NE=[] from h.nd] at hn;simp at hn
theorem vV {d:DK} (h:NewD d):Rs d=some (Dn d,0):=by
 have hl:=h.din.len;unfold Rs;refine D0 d.DI.SD _ (fun pre=>((pre.length:Int),pre.map fun x=>(⟨x.PE,x.EP⟩:KE))) _ (fun pre x post h0=>?_) ?_
 ·have hx:=BL h0;have hm:=BG h0;dsimp only [Wk];rw [AQ hx,Ag,Ar hx,OB,B5 _ _ Om (by simp;omega),OB,AC Om,AW,List.map_append];rfl
 ·dsimp only [Wk,Wi];rw [AT,Aa];have hc:Io (Dn d)=some 0:=by rw [Ym _ h.ok.few,(Y3 _).2 h.ok];rfl
  rw [show (⟨d,⟨0,[]⟩,d.DI.SD.map fun x=>(⟨x.PE,x.EP⟩:KE),[],[]⟩:NO)=Dn d from rfl,hc,OB];have hk:(JU d).length≤1000000:=by simp [JU];omega
  have ho:NM d.DI.ID d.DI.PH d.DI.SD d.TH d.NE 0 (JU d)=some (d.DI.SD,d.NE,JU d,[],[],[]):=by dsimp only [NM,WE,WF];rw [Lz _ Om,OB,Ex _ (by rw [h.nd];simp),OB,HP _ hk,OB,Ex _ (by simp),OB,HP _ (by simp),OB,OU _ (by simp),OB,Bn];rfl
  show Option.map Sum.inr (A0 (!decide ((0:Int)=0)) _ ((NM d.DI.ID d.DI.PH d.DI.SD d.TH d.NE 0 (JU d)).bind _))=_;rw [ho];rfl
theorem km (l:List ML) (p:ML→Option Bool) (q:ML→Bool) (hl:l.length≤4000000000000000000) (hp:∀x∈l,p x=some (q x)):Lj l p=some (Br (l.findIdx? q)):=by
 unfold Lj;refine Kr l _ q hl (fun k x hx=>?_) ?_
 ·simp only [Xq,AQ hx,Ag,Ar hx,OB,hp x (List.mem_iff_getElem?.2 ⟨k,hx⟩),EA hx hl];cases q x<;>rfl
 ·simp only [Xq,AT,Aa,Xp,Option.map_some]
theorem uV (l:List ML) (p:ML→Option Bool) (q:ML→Bool) (hl:l.length≤4000000000000000000) (hp:∀x∈l,p x=some (q x)):SZ l p=some (l.any q):=by unfold SZ;rw [km l p q hl hp,OB,Lv,Kl]
theorem uS (l:List ML) (h:l.length≤1000000):Ld l=some l:=by simp only [Ld];rw [B5 _ _ Om (by simp;omega),List.nil_append]
theorem bV (l:List NO) (h:l.length≤1000000):Iv l=some l:=by simp only [Iv];rw [B5 _ _ Om (by simp;omega),List.nil_append]
theorem va (n:Nat) (hn:n≤3000000):Tb n=some []:=by
 have e0:wr (0-0)=0:=D4 Om Om;have e1:wr ((n:Int)-0)=n:=by rw [D4 Om Om];omega
 simp only [Tb,Xf,Tc,e0,e1];rw [DN Om,Aa];by_cases h:0<n
 ·rw [DT Om,Ag];unfold LS;rw [if_pos ⟨Om,Om,Om⟩,OB];unfold D3;rw [if_pos ⟨Om,Om,Om⟩];simp
 ·rw [DN Om,Aa]
theorem bW (a b:List ML) (ha:a.length≤1000000) (hb:b.length≤1000000):Iw [a,b]=some (a++b):=by
 have g0:Ac [a,b] 0=some a:=rfl;have g1:Ac [a,b] (wr (0+1))=some b:=by rw [D4 Om Om];rfl
 have l0:ln (Ci 5 ML.row) [a,b]=2:=by rw [AX];rfl
 have w1:wr (0+1)=1:=D4 Om Om;have w2:wr (1+1)=2:=D4 Om Om;have s1:wr (0+ln ML.row a)=(a.length:Int):=by rw [AX,D4 Om Om];omega
 have s2:wr ((a.length:Int)+ln ML.row b)=((a.length+b.length:Nat):Int):=by rw [AX,D4 Om Om];omega
 unfold Iw;rw [Bn];dsimp only [SU];rw [l0,show decide ((0:Int)<2)=true from rfl,Ag,g0,OB,s1,DN Om,Aa];dsimp only [SR];rw [s1,w1,Bn];dsimp only [SU];rw [l0,show decide ((1:Int)<2)=true from rfl,Ag,←w1,g1,OB,s2,DN Om,Aa];dsimp only [SR];rw [s2,w1,w2,Bn];dsimp only [SU];rw [l0,show decide ((2:Int)<2)=false from rfl,Aa];dsimp only [WX];rw [va _ Om,OB];have k:loop (Oc [a,b]) (0,[])=some (a++b):=by rw [Bn];dsimp only [Oc];rw [l0,show decide ((0:Int)<2)=true from rfl,Ag,g0,OB,B5 _ _ Om (by simp;omega),OB,List.nil_append,w1];dsimp only;rw [Bn];dsimp only [Oc];rw [l0,show decide ((1:Int)<2)=true from rfl,Ag,←w1,g1,OB,B5 _ _ Om Om,OB,w1,w2];dsimp only;rw [Bn];dsimp only [Oc];rw [l0,show decide ((2:Int)<2)=false from rfl,Aa];rfl
 rw [k];rfl
def Jb:HL:=⟨[],[]⟩
structure HallOK (h:HL):Prop where
 nodes:∀(k:Nat) n,h.NS[k]?=some n→n.DK.DI.ID=k∧OkN n
 len:h.NS.length≤64
 mail:∀m∈h.ML,0≤m.From∧m.From<h.NS.length∧0≤m.To∧m.To<h.NS.length∧m.From≠m.To
 ml:h.ML.length≤1000000
theorem Fr (h:HL) (a:Int):Hs h a=some (decide (0≤a)&&decide (a<h.NS.length)):=by simp only [Hs,Qy,AX];cases decide (0≤a)<;>rfl
theorem Yl {h:HL} (hk:HallOK h):MY h=some 0:=by
 have hl:=hk.len;unfold MY;refine D0 h.NS _ (fun pre=>(pre.length:Int)) _ (fun pre x post h0=>?_) ?_
 ·have hx:=BL h0;have hm:=BG h0;obtain ⟨q1,q2⟩:=hk.nodes _ _ hx;dsimp only [Vc,Qs];rw [AQ hx,Ag,Ar hx,OB,DT q1,Bool.not_true,Aa,Ym x q2.few,(Y3 x).2 q2,if_pos rfl,OB,show (!decide ((0:Int)=0))=false by decide,Aa,AC Om,AW]
 ·dsimp only [Vc,Va];rw [AT,Aa,AX,DN Om,Aa];rw [uV h.ML _ (fun _=>false) (by have:=hk.ml;omega) (fun m hm=>by obtain ⟨a1,a2,a3,a4,a5⟩:=hk.mail m hm;dsimp only [Qr,MZ];rw [Fr,OB,DT a1,DT a2,Bool.and_true,Bool.not_true,Aa,Fr,OB,DT a3,DT a4,Bool.and_true,Bool.not_true,Aa,DN a5])];simp only [List.any_eq_false.2 (fun _ _=>Bool.false_ne_true),OB];rfl
theorem vO (h:HL) (hf:∀n∈h.NS,FewN n) (hl:h.NS.length≤1000000) (hm:h.ML.length≤1000000):QY h=some h:=by
 unfold QY;rw [B5 _ _ Om (by simp;omega),OB,List.nil_append];refine D0 h.NS _ (fun pre=>((pre.length:Int),pre)) _ (fun pre x post h0=>?_) ?_
 ·have hx:=BL h0;have hm':=BG h0;dsimp only [VW];rw [AQ hx,Ag,Ar hx,OB,vj x (hf x (Di h0)),OB,B5 _ _ Om (by simp;omega),OB,AC Om,AW]
 ·dsimp only [VW,VV];rw [AT,Aa];rfl
theorem dN {g:Graph} (hg:Bd g=true) (E:g.N≤24):∀d∈(Hc g).DS,NewD d:=by
 intro d hd;obtain ⟨e,he,rfl⟩:=List.mem_map.1 hd;obtain ⟨a,ha,rfl⟩:=List.mem_map.1 he;have ha':=List.mem_range.1 ha;have h0:=(Dc hg).1;have h6:=gW hg (a:Int);have h8:((Be g a).length:Int)≤g.N:=P6 h6 h0 fun x hx=>by have:=GX hg hx;omega
 refine ⟨⟨by dsimp only [FY];omega,by dsimp only [FY];omega,by dsimp only [FY];omega,by dsimp only [FY];rw [List.length_map];omega,List.pairwise_map.2 h6,?_⟩,by dsimp only [FY];omega,rfl,rfl,?_⟩
 ·intro x hx;obtain ⟨b,hb,rfl⟩:=List.mem_map.1 hx;have:=GX hg hb;refine ⟨this.1,this.2.2.1,by dsimp only [Dq];omega,by dsimp only [Dq];omega,by dsimp only [Dq];omega,by dsimp only [Dq];omega,fun h=>h⟩
 ·intro x hx;obtain ⟨b,hb,rfl⟩:=List.mem_map.1 hx;have:=GX hg hb;exact ⟨by dsimp only [Dq];omega,rfl,rfl⟩
theorem Ui {g:Graph} (hg:Bd g=true):((Hc g).DS.length:Int)=g.N:=by have h0:=(Dc hg).1;simp only [Hc,K2,K8,List.length_map,List.length_range];omega
theorem nV {g:Graph} {k:Nat} {d:DK} (h:(Hc g).DS[k]?=some d):d.DI.ID=k:=by simp only [Hc,K2,K8,List.getElem?_map,Option.map_eq_some_iff] at h;obtain ⟨e,⟨a,ha,rfl⟩,rfl⟩:=h;rw [List.getElem?_eq_some_iff] at ha;obtain ⟨_,ha⟩:=ha;rw [List.getElem_range] at ha;subst ha;rfl
def DH (g:Graph):HL:=⟨(Hc g).DS.map Dn,[]⟩
theorem fG {g:Graph} (hg:Bd g=true) (E:g.N≤24):HallOK (DH g):=by have hl:=Ui hg;refine ⟨fun k n hn=>?_,by simp only [DH,List.length_map];omega,by simp [DH],by simp [DH]⟩;simp only [DH,List.getElem?_map,Option.map_eq_some_iff] at hn;obtain ⟨d,hd,rfl⟩:=hn;exact ⟨nV hd,(dN hg E d (List.mem_iff_getElem?.2 ⟨k,hd⟩)).ok⟩
theorem vN (g:Graph) (E:g.N≤24):Qu g=some (if Bd g then (DH g,0) else (Jb,30)):=by
 unfold Qu;rw [vv];cases hg:Bd g with
 | false=>rw [if_neg (by simp),if_neg (by simp)];rfl
 | true=>
   rw [if_pos rfl,if_pos rfl,OB,show (!decide ((0:Int)=0))=false by decide,Aa];have hl:=Ui hg;refine D0 (Hc g).DS _ (fun pre=>((pre.length:Int),pre.map Dn)) _ (fun pre x post h0=>?_) ?_
   ·have hx:=BL h0;have hm:=BG h0;dsimp only [Vf];rw [AQ hx,Ag,Ar hx,OB,vV (dN hg E x (Di h0)),OB,show (!decide ((0:Int)=0))=false by decide,Aa,B5 _ _ Om (by simp;omega),OB,AC Om,AW,List.map_append];rfl
   ·dsimp only [Vf,Ve];rw [AT,Aa];rfl
theorem HallOK.at {h:HL} (hk:HallOK h) {n:NO} (hn:n∈h.NS):OkN n:=by obtain ⟨k,hk'⟩:=List.mem_iff_getElem?.1 hn;exact (hk.nodes k n hk').2
theorem wO (E:Int) (A:List NO) (n:NO) (hn:n.BK.SE.length≤1000000) (hs:∀s∈n.BK.SE,s.NE.length≤1000000) (r:Int×List NO ⊕ HL) (hr:Qw E A n n.BK.SE=some r):loop (Qx E A n n.BK.SE) (0,n.BK.SE)=some r:=by
 refine D0 n.BK.SE _ (fun pre=>((pre.length:Int),n.BK.SE)) _ (fun pre x post h0=>?_) ?_
 ·have hx:=BL h0;have hm:=BG h0;dsimp only [Qx,Vy];rw [AQ hx,Ag,Ar hx,OB,Ex _ (hs x (Di h0)),OB,show (⟨x.ID,x.NE,x.SS,x.Age⟩:SE)=x from rfl,Int.toNat_natCast,HS hx,AC Om,AW]
 ·dsimp only [Qx];rw [AT,Aa,hr];rfl
theorem kG {h:HL} (hk:HallOK h):N2 h=some h:=by
 have hl:=hk.len;unfold N2;rw [uS _ (by have:=hk.ml;omega),OB,bV _ Om,OB];dsimp only [Vt];refine D0 h.NS _ (fun pre=>((pre.length:Int),h.NS)) _ (fun pre x post h0=>?_) ?_
 ·have hx:=BL h0;have hm:=BG h0;have hf:=(hk.at (Di h0)).few;have hb:=hf.bk;dsimp only [Vz];rw [AQ hx,Ag,Ar hx,OB,Lz _ (by have:=hf.sides;omega),OB,Ex _ (by have:=hf.need;omega),OB];rw [show (⟨⟨⟨x.DK.DI.ID,x.DK.DI.PH,x.DK.DI.SD⟩,x.DK.TH,x.DK.NE⟩,x.BK,x.KN,x.TL,x.AK⟩:NO)=x from rfl,Int.toNat_natCast,HS hx];dsimp only [Vv];rw [Ar hx,OB,HP _ (by have:=hf.known;omega),OB,Ex _ (by have:=hf.told;omega),OB,HP _ (by have:=hf.asked;omega),OB];rw [show (⟨x.DK,x.BK,x.KN,x.TL,x.AK⟩:NO)=x from rfl,Int.toNat_natCast,HS hx];dsimp only [Vx];rw [Ar hx,OB,OU _ hb.1,OB];refine wO _ _ x hb.1 hb.2 _ ?_;dsimp only [Qw];rw [show (⟨x.DK,⟨x.BK.LA,x.BK.SE⟩,x.KN,x.TL,x.AK⟩:NO)=x from rfl,Int.toNat_natCast,HS hx,AC Om,AW]
 ·dsimp only [Vz,Vu];rw [AT,Aa];rfl
def Jc (h:HL) (k:Nat) (M:List ML) (r:NO×List ML×List EV×Int):HL×List EV×Int:=if r.2.2.2=0 then (⟨h.NS.set k r.1,M++r.2.1⟩,r.2.2.1,0) else (Jb,[],r.2.2.2)
theorem kF {h:HL} (hk:HallOK h) {k:Nat} {n:NO} (hn:h.NS[k]?=some n) {a:Do} (hp:a.KI=4→0≤a.PE∧a.PE<h.NS.length) {r:NO×List ML×List EV×Int} (hr:KK n a=some r) (hl:r.2.1.length≤1000000):
  Js h k a=some (Jc h k h.ML r):=by
 have hlt:=(List.getElem?_eq_some_iff.1 hn).1;have h6:=hk.len;have h8:=hk.ml;have hj:KB h k a false=some (Jc h k h.ML r):=by
  dsimp only [KB];rw [Aa,kG hk,OB];dsimp only [Vp,V9];rw [Ar hn,OB,hr,OB,OB];dsimp only [Vq];unfold Jc;by_cases e:r.2.2.2=0
  ·rw [DT e,Bool.not_true,Aa,bV _ Om,OB,bW _ _ Om hl,OB,if_pos e];dsimp only [Vr];rw [Ar hn];rfl
  ·rw [DN e,Bool.not_false,Ag,if_neg e];rfl
 unfold Js;rw [Yl hk,OB,show (!decide ((0:Int)=0))=false by decide,Aa,Fr,OB,DT Om,DT Om,Bool.and_true,Bool.not_true,Aa];by_cases e:a.KI=4
 ·have:=hp e;rw [DT e,Ag,Fr,OB,DT this.1,DT this.2,Bool.and_true,Bool.not_true,hj]
 ·rw [DN e,Aa,hj]
theorem kB (l:List ML) (a b:Int) (hl:l.length≤1000000):Lj l (fun z=>N0 z a b)=some (Br (l.findIdx? fun m=>decide (m.From=a)&&decide (m.To=b))):=by refine km l _ _ Om fun m _=>?_;dsimp only [N0,Qt];cases decide (m.From=a)<;>rfl
theorem vL {h:HL} (hk:HallOK h) {a:Int} (ha:0≤a∧a<h.NS.length) {k:Nat} {n:NO} (hn:h.NS[k]?=some n) {i:Nat} (hi:(h.ML.findIdx? fun m=>decide (m.From=a)&&decide (m.To=(k:Int)))=some i) {m:ML} (hm:h.ML[i]?=some m)
  {r:NO×List ML×List EV×Int} (hr:KQ n a m.Msg=some r) (hl:r.2.1.length≤1000000):Hr h a k=some (Jc h k (h.ML.take i++h.ML.drop (i+1)) r):=by
 have hlt:=(List.getElem?_eq_some_iff.1 hn).1;have h9:=(List.getElem?_eq_some_iff.1 hm).1;have h8:=hk.len;have h6:=hk.ml;unfold Hr;rw [Yl hk,OB,show (!decide ((0:Int)=0))=false by decide,Aa,Fr,OB,DT ha.1,DT ha.2,Bool.and_true,Bool.not_true,Aa,Fr,OB,DT Om,DT Om,Bool.and_true,Bool.not_true];dsimp only [N1];rw [Aa,kB _ _ _ h6,hi,OB];rw [show Br (some i)=(i:Int) from rfl];rw [DN Om,Aa,Ar hm,OB];have e1:D3 h.ML 0 (i:Int)=some (h.ML.take i):=by unfold D3;rw [if_pos ⟨Om,Om,Om⟩];simp
 have e2:D3 h.ML (wr ((i:Int)+1)) (ln ML.row h.ML)=some (h.ML.drop (i+1)):=by rw [AC Om,AX];unfold D3;rw [if_pos ⟨Om,Om,Om⟩];simp
 rw [e1,OB,e2,OB,kG hk,OB,bW _ _ (by simp;omega) (by simp;omega),OB];dsimp only [Vh,Vd];rw [Ar hn,OB,hr,OB,OB];dsimp only [Vn];unfold Jc;by_cases e:r.2.2.2=0
 ·rw [DT e,Bool.not_true,Aa,bV _ Om,OB,bW _ _ (by simp;omega) hl,OB,if_pos e];dsimp only [Vo];rw [Ar hn];rfl
 ·rw [DN e,Bool.not_false,Ag,if_neg e];rfl
theorem vM {h:HL} (hk:HallOK h) {a b:Int} (ha:0≤a∧a<h.NS.length) (hb:0≤b∧b<h.NS.length) (hi:(h.ML.findIdx? fun m=>decide (m.From=a)&&decide (m.To=b))=none):Hr h a b=some (Jb,[],192):=by have h6:=hk.ml;unfold Hr;rw [Yl hk,OB,show (!decide ((0:Int)=0))=false by decide,Aa,Fr,OB,DT ha.1,DT ha.2,Bool.and_true,Bool.not_true,Aa,Fr,OB,DT hb.1,DT hb.2,Bool.and_true,Bool.not_true];dsimp only [N1];rw [Aa,kB _ _ _ h6,hi,OB];rfl
def aA:NO:=⟨⟨⟨0,0,[]⟩,0,[]⟩,⟨0,[]⟩,[],[],[]⟩
def aB:NO:=⟨⟨⟨1,0,[]⟩,0,[]⟩,⟨0,[]⟩,[],[],[]⟩
def xA:SX:=⟨1,1,1,true,true,false,true,false⟩
def gU:NO:=⟨⟨⟨0,2,[xA]⟩,0,[]⟩,⟨0,[]⟩,[⟨1,1⟩],[1],[]⟩
def yB:SX:=⟨0,1,0,false,false,true,false,true⟩
def tg:NO:=⟨⟨⟨1,0,[yB]⟩,0,[]⟩,⟨0,[]⟩,[⟨0,1⟩],[],[]⟩
def w0:HL:=⟨[aA,aB],[]⟩
def w1:HL:=⟨[gU,aB],[⟨0,1,⟨5,1,0⟩⟩]⟩
def w2:HL:=⟨[gU,tg],[⟨1,0,⟨6,1,0⟩⟩]⟩
theorem HallOK.few {h:HL} (hk:HallOK h):∀n∈h.NS,FewN n:=fun _ hn=>(hk.at hn).few
theorem TB (n:NO):(AN n).DK.DI.ID=n.DK.DI.ID:=(Km (Bj n).DK).id.trans (bH n)
theorem lw:∀(k:Nat) (n:NO) (E:List ML) (V:List EV),OkN n→(Gl k n E V).2.1.length≤E.length+500*k∧(Gl k n E V).2.2.length≤V.length+500*k
 | 0,_,_,_,_=>by unfold Gl;exact ⟨by dsimp only;omega,by dsimp only;omega⟩
 | k+1,n,E,V,h=>by
   unfold Gl;split
   ·exact ⟨by dsimp only;omega,by dsimp only;omega⟩
   ·have:=lw k (AN n) (E++E6 n) (V++Ef n) h.once;have l1:=jp h;have l2:=jq h;rw [List.length_append,List.length_append] at this;omega
theorem bS {n:NO} (h:OkN n) (E:List ML) (V:List EV):(BE n E V).2.1.length≤E.length+4500∧(BE n E V).2.2.length≤V.length+4500:=lw 9 n E V h
theorem b7 (n:NO):(Aw n).DK.DI.ID=n.DK.DI.ID:=TB n
def U7 (id:Int) (m:ML):Prop:=m.From=id∧m.To≠id∧m.Msg.Num=0
theorem aT {n:NO} (h:OkN n) {m:ML} (hm:Ll n.DK.DI.ID n.DK.DI.SD m):U7 n.DK.DI.ID m:=by obtain ⟨h1,⟨x,hx,e⟩,h3⟩:=hm;have:=h.peer0 hx;exact ⟨h1,Om,h3⟩
theorem bt {n:NO} (h:OkN n) {m:ML} (hm:m∈E6 n):U7 n.DK.DI.ID m:=by
 have hg:=h.pre.firgra;have h6:(AL (Aw n)).DK.DI.ID=n.DK.DI.ID:=b7 n;unfold E6 at hm;rcases List.mem_append.1 hm with hm | hm
 ·unfold Gq at hm;split at hm
  ·simp at hm
  ·unfold EE at hm;obtain ⟨k,hk,rfl⟩:=List.mem_map.1 hm;have:=h.may k hk;exact ⟨rfl,by show k.PE≠_;omega,rfl⟩
 ·rcases List.mem_append.1 hm with hm | hm
  ·have:=aT h.pre (qE m hm);rw [bH] at this;exact this
  ·rcases List.mem_append.1 hm with hm | hm
   ·rw [←h6];refine aT hg ?_;unfold Dr at hm;split at hm
    ·exact cN _ _ _ _ _ (fun x hx=>hx) (by simp) m hm
    ·simp at hm
   ·rw [←h6];refine aT hg ?_;unfold EK BJ at hm;obtain ⟨x,hx,hm⟩:=List.mem_flatMap.1 hm;unfold G7 at hm;split at hm
    ·simp at hm;subst hm;exact ⟨rfl,⟨x,hx,rfl⟩,rfl⟩
    ·simp at hm
theorem jS {n:NO} (h:OkN n) {V:List EV}:∀m∈(BE n [] V).2.1,U7 n.DK.DI.ID m:=
 (Lw (P:=fun m E _=>m.DK.DI.ID=n.DK.DI.ID∧∀x∈E,U7 n.DK.DI.ID x) (fun m E V hm hP=>⟨(TB m).trans hP.1,fun v hv=>by
   rcases List.mem_append.1 hv with hv | hv
   ·exact hP.2 v hv
   ·have:=bt hm hv;rw [hP.1] at this;exact this⟩) h ⟨rfl,by simp⟩).2
theorem Ya (m:NO) (V:List EV):E7 0 m V=((BE m [] V).1,(BE m [] V).2.1,(BE m [] V).2.2,0):=rfl
theorem jy {e:Int} (h:e≠0) (m:NO) (V:List EV):E7 e m V=(XM,[],[],e):=by unfold E7;rw [if_neg h]
def CY (k e:Int) (l:List Msg):Nat:=l.countP fun m=>decide (m.KI=k)&&decide (m.EP=e)
theorem M3 (k e:Int) (a b:List Msg):CY k e (a++b)=CY k e a+CY k e b:=List.countP_append
theorem Up (k e:Int) (m:Msg) (l:List Msg):CY k e (m::l)=(if m.KI=k∧m.EP=e then 1 else 0)+CY k e l:=by unfold CY;rw [List.countP_cons];simp only [Bool.and_eq_true,decide_eq_true_eq];omega
theorem oG (k e:Int):CY k e []=0:=rfl
def Hk (k:Int):Prop:=k=1∨k=2∨k=3∨k=4
def P4 (m:Msg):Prop:=Hk m.KI∧m.Num=0
def Bq (e:Int) (l:List Msg):Prop:=∀m∈l,P4 m∧m.EP≤e
theorem Bq.mono {e f:Int} {l:List Msg} (h:Bq e l) (hf:e≤f):Bq f l:=fun m hm=>⟨(h m hm).1,Int.le_trans (h m hm).2 hf⟩
theorem Bq.app {e:Int} {a b:List Msg} (h:Bq e a) (k:Bq e b):Bq e (a++b):=fun m hm=>(List.mem_append.1 hm).elim (h m) (k m)
theorem Bq.nil (e:Int):Bq e []:=fun _ h=>by simp at h
theorem Bq.tail {e:Int} {m:Msg} {l:List Msg} (h:Bq e (m::l)):Bq e l:=fun x hx=>h x (List.mem_cons_of_mem _ hx)
theorem Bq.cnt {e f k:Int} {l:List Msg} (h:Bq e l) (hf:e<f):CY k f l=0:=by unfold CY;rw [List.countP_eq_zero];intro m hm;have:=(h m hm).2;simp only [Bool.and_eq_true,decide_eq_true_eq];omega
structure Vw where
 sd:Option SX
 kn:Int
 tl:Bool
 ak:Option Int
def HJ (x:SX):Prop:=x.FK=true∧x.TO=false∧x.BO=true∧x.Ask=false
def Fm (x y:SX) (e:Int) (ab ba:List Msg):Prop:=∀k,Hk k→bn (BF k x)+bn (BF k y)+CY k e ab+CY k e ba=1
def sY (x:SX) (e:Int) (ba:List Msg):Prop:=∀k,Hk k→bn (BF k x)+CY k e ba≤1
inductive EI (a b:Vw) (ab ba:List Msg):Prop
 | no (ha:a.sd=none) (hb:b.sd=none) (hk:b.ak=none) (hle:b.kn≤a.kn) (h1:Bq a.kn ab) (h2:Bq a.kn ba)
 | op (x:SX) (ha:a.sd=some x) (hx:x.SS=1) (hn:HJ x) (he:x.EP=a.kn) (ht:a.tl=false) (hb:b.sd=none) (hk:b.ak=none) (hlt:b.kn<a.kn) (h1:Bq (a.kn-1) ab) (h2:Bq (a.kn-1) ba)
 | nw (x:SX) (u:List Msg) (ha:a.sd=some x) (hx:x.SS=1) (hn:HJ x) (he:x.EP=a.kn) (ht:a.tl=true) (hb:b.sd=none) (hk:b.ak=none) (hlt:b.kn<a.kn) (hab:ab=u++[⟨5,a.kn,0⟩]) (h1:Bq (a.kn-1) u) (h2:Bq (a.kn-1) ba)
 | sk (x:SX) (ha:a.sd=some x) (hx:x.SS=1) (hn:HJ x) (he:x.EP=a.kn) (ht:a.tl=true) (hb:b.sd=none) (hk:b.ak=some a.kn) (hlt:b.kn<a.kn) (h1:Bq (a.kn-1) ab) (h2:Bq (a.kn-1) ba)
 | kw (x y:SX) (u w:List Msg) (ha:a.sd=some x) (hx:x.SS=1) (hn:HJ x) (he:x.EP=a.kn) (ht:a.tl=true) (hb:b.sd=some y) (hy:y.SS=0) (hf:y.EP=a.kn) (hk:b.ak=none) (hkn:b.kn=a.kn)
    (hba:ba=u++⟨6,a.kn,0⟩::w) (h1:Bq (a.kn-1) u) (h2:Bq a.kn w) (h3:Bq (a.kn-1) ab) (ho:Fm x y a.kn ab w)
 | lv (x y:SX) (ha:a.sd=some x) (hx:x.SS=0∨x.SS=2) (he:x.EP=a.kn) (hb:b.sd=some y) (hy:y.SS=0) (hf:y.EP=a.kn) (hk:b.ak=none) (hkn:b.kn=a.kn) (h1:Bq a.kn ab) (h2:Bq a.kn ba) (ho:Fm x y a.kn ab ba)
 | cl (x y:SX) (u w:List Msg) (ha:a.sd=some x) (hx:x.SS=3) (he:x.EP=a.kn) (hb:b.sd=some y) (hy:y.SS=0) (hf:y.EP=a.kn) (hk:b.ak=none) (hkn:b.kn=a.kn) (hab:ab=u++⟨7,a.kn,0⟩::w) (h1:Bq a.kn u) (h3:Bq a.kn w) (h2:Bq a.kn ba) (ho:Fm x y a.kn (u++w) ba)
 | lg (x y:SX) (ha:a.sd=some x) (hx:x.SS=3) (he:x.EP=a.kn) (hb:b.sd=some y) (hy:y.SS=2) (hf:y.EP=a.kn) (hk:b.ak=none) (hkn:b.kn=a.kn) (h1:Bq a.kn ab) (h2:Bq a.kn ba) (ho:Fm x y a.kn ab ba)
 | cd (x:SX) (u:List Msg) (ha:a.sd=some x) (hx:x.SS=3) (he:x.EP=a.kn) (hb:b.sd=none) (hk:b.ak=none) (hkn:b.kn=a.kn) (hba:ba=u++[⟨8,a.kn,0⟩]) (h1:Bq a.kn ab) (h2:Bq a.kn u) (ho:sY x a.kn u)
structure FireP (x x':SX) (o:List Msg):Prop where
 pr:x'.PE=x.PE
 ep:x'.EP=x.EP
 st:x'.SS=x.SS
 al:∀m∈o,P4 m∧m.EP=x.EP
 fl:∀k,Hk k→bn (BF k x')+CY k x.EP o=bn (BF k x)
 nw:HJ x→HJ x'∧o=[]
theorem FireP.refl (x:SX):FireP x x []:=⟨rfl,rfl,rfl,by simp,fun _ _=>rfl,fun h=>⟨h,rfl⟩⟩
theorem FireP.trans {x y z:SX} {o p:List Msg} (h:FireP x y o) (k:FireP y z p):FireP x z (o++p):=by
 refine ⟨k.pr.trans h.pr,k.ep.trans h.ep,k.st.trans h.st,fun m hm=>?_,fun q hq=>?_,fun hn=>?_⟩
 ·rcases List.mem_append.1 hm with hm | hm
  ·exact h.al m hm
  ·have:=k.al m hm;rw [h.ep] at this;exact this
 ·have h1:=h.fl q hq;have h2:=k.fl q hq;rw [h.ep] at h2;rw [M3];omega
 ·obtain ⟨h1,h2⟩:=h.nw hn;obtain ⟨h3,h4⟩:=k.nw h1;exact ⟨h3,by rw [h2,h4];rfl⟩
theorem FireP.tle {x x':SX} {o:List Msg} (h:FireP x x' o):Bq x.EP o:=fun m hm=>⟨(h.al m hm).1,by rw [(h.al m hm).2];exact Int.le_refl _⟩
inductive LsE (lo:Bool):Vw→List Msg→Vw→Prop
 | nil (v:Vw):LsE lo v [] v
 | fire (v:Vw) (x x':SX) (o:List Msg) (h:v.sd=some x) (hf:FireP x x' o):LsE lo v o ⟨some x',v.kn,v.tl,v.ak⟩
 | tell (v:Vw) (x:SX) (hl:lo=true) (h:v.sd=some x) (hs:x.SS=1) (ht:v.tl=false):LsE lo v [⟨5,x.EP,0⟩] ⟨v.sd,v.kn,true,v.ak⟩
 | leave (v:Vw) (x:SX) (hl:lo=true) (h:v.sd=some x) (hs:x.SS=2):LsE lo v [⟨7,x.EP,0⟩] ⟨some {x with SS:=3},v.kn,v.tl,v.ak⟩
 | drop (v:Vw) (x:SX) (hl:lo=false) (h:v.sd=some x) (hs:x.SS=2):LsE lo v [⟨8,x.EP,0⟩] ⟨none,v.kn,v.tl,v.ak⟩
 | answer (v:Vw) (x:SX) (e:Int) (hl:lo=false) (h:v.sd=none) (hk:v.ak=some e) (hx:x.EP=e∧x.SS=0∧x.FK=false∧x.TO=true∧x.BO=false∧x.Ask=true):LsE lo v [⟨6,e,0⟩] ⟨some x,e,v.tl,none⟩
 | trans (v v' v'':Vw) (o p:List Msg) (h:LsE lo v o v') (k:LsE lo v' p v''):LsE lo v (o++p) v''
theorem Y6 {x x' y:SX} {e:Int} {o ab ba:List Msg} (h:Fm x y e ab ba) (hf:FireP x x' o) (he:x.EP=e):Fm x' y e (ab++o) ba:=fun k hk=>by have h1:=h k hk;have h2:=hf.fl k hk;rw [he] at h2;rw [M3];omega
theorem Y7 {x y y':SX} {e:Int} {o ab ba:List Msg} (h:Fm x y e ab ba) (hf:FireP y y' o) (he:y.EP=e):Fm x y' e ab (ba++o):=fun k hk=>by have h1:=h k hk;have h2:=hf.fl k hk;rw [he] at h2;rw [M3];omega
theorem EI.lo {a b:Vw} {ab ba:List Msg} (h:EI a b ab ba) {o:List Msg} {E:Vw} (s:LsE true a o E):EI E b (ab++o) ba:=by
 induction s generalizing ab with
 | nil v=>rw [List.append_nil];exact h
 | trans v v' v'' o p _ _ ih1 ih2=>rw [←List.append_assoc];exact ih2 (ih1 h)
 | fire v x x' o h6 hf=>
   cases h with
   | no ha=>rw [ha] at h6;simp at h6
   | op z ha hx hn he ht hb hk hlt h1 h2=>rw [ha] at h6;cases h6;obtain ⟨n1,rfl⟩:=hf.nw hn;rw [List.append_nil];exact .op x' rfl (hf.st.trans hx) n1 (hf.ep.trans he) ht hb hk hlt h1 h2
   | nw z u ha hx hn he ht hb hk hlt hab h1 h2=>rw [ha] at h6;cases h6;obtain ⟨n1,rfl⟩:=hf.nw hn;rw [List.append_nil];exact .nw x' u rfl (hf.st.trans hx) n1 (hf.ep.trans he) ht hb hk hlt hab h1 h2
   | sk z ha hx hn he ht hb hk hlt h1 h2=>rw [ha] at h6;cases h6;obtain ⟨n1,rfl⟩:=hf.nw hn;rw [List.append_nil];exact .sk x' rfl (hf.st.trans hx) n1 (hf.ep.trans he) ht hb hk hlt h1 h2
   | kw z y u w ha hx hn he ht hb hy h8 hk hkn hba h1 h2 h3 ho=>rw [ha] at h6;cases h6;have ho':=Y6 ho hf he;obtain ⟨n1,rfl⟩:=hf.nw hn;rw [List.append_nil] at ho' ⊢;exact .kw x' y u w rfl (hf.st.trans hx) n1 (hf.ep.trans he) ht hb hy h8 hk hkn hba h1 h2 h3 ho'
   | lv z y ha hx he hb hy h8 hk hkn h1 h2 ho=>rw [ha] at h6;cases h6;have ht:=hf.tle;rw [he] at ht;exact .lv x' y rfl (by rw [hf.st];exact hx) (hf.ep.trans he) hb hy h8 hk hkn (h1.app ht) h2 (Y6 ho hf he)
   | cl z y u w ha hx he hb hy h8 hk hkn hab h1 h3 h2 ho=>rw [ha] at h6;cases h6;have ht:=hf.tle;rw [he] at ht;exact .cl x' y u (w++o) rfl (hf.st.trans hx) (hf.ep.trans he) hb hy h8 hk hkn (by rw [hab];simp) h1 (h3.app ht) h2 (by rw [←List.append_assoc];exact Y6 ho hf he)
   | lg z y ha hx he hb hy h8 hk hkn h1 h2 ho=>rw [ha] at h6;cases h6;have ht:=hf.tle;rw [he] at ht;exact .lg x' y rfl (hf.st.trans hx) (hf.ep.trans he) hb hy h8 hk hkn (h1.app ht) h2 (Y6 ho hf he)
   | cd z u ha hx he hb hk hkn hba h1 h2 ho=>rw [ha] at h6;cases h6;have ht:=hf.tle;rw [he] at ht;exact .cd x' u rfl (hf.st.trans hx) (hf.ep.trans he) hb hk hkn hba (h1.app ht) h2 (fun k hk'=>by have:=ho k hk';have:=hf.fl k hk';show bn (BF k x')+CY k v.kn u≤1;omega)
 | tell v x _ h6 hs h9=>
   cases h with
   | no ha=>rw [ha] at h6;simp at h6
   | op z ha hx hn he ht hb hk hlt h1 h2=>rw [ha] at h6;cases h6;exact .nw x ab ha hx hn he rfl hb hk hlt (by rw [he]) h1 h2
   | nw z u ha hx hn he ht=>rw [ht] at h9;simp at h9
   | sk z ha hx hn he ht=>rw [ht] at h9;simp at h9
   | kw z y u w ha hx hn he ht=>rw [ht] at h9;simp at h9
   | lv z y ha hx=>rw [ha] at h6;cases h6;omega
   | cl z y u w ha hx=>rw [ha] at h6;cases h6;omega
   | lg z y ha hx=>rw [ha] at h6;cases h6;omega
   | cd z u ha hx=>rw [ha] at h6;cases h6;omega
 | leave v x _ h6 hs=>
   cases h with
   | no ha=>rw [ha] at h6;simp at h6
   | op z ha hx=>rw [ha] at h6;cases h6;omega
   | nw z u ha hx=>rw [ha] at h6;cases h6;omega
   | sk z ha hx=>rw [ha] at h6;cases h6;omega
   | kw z y u w ha hx=>rw [ha] at h6;cases h6;omega
   | lv z y ha hx he hb hy h8 hk hkn h1 h2 ho=>rw [ha] at h6;cases h6;exact .cl {x with SS:=3} y ab [] rfl rfl he hb hy h8 hk hkn (by rw [he]) h1 (Bq.nil _) h2 (by rw [List.append_nil];exact ho)
   | cl z y u w ha hx=>rw [ha] at h6;cases h6;omega
   | lg z y ha hx=>rw [ha] at h6;cases h6;omega
   | cd z u ha hx=>rw [ha] at h6;cases h6;omega
 | drop v x hl=>simp at hl
 | answer v x e hl=>simp at hl
theorem EI.hi {a b:Vw} {ab ba:List Msg} (h:EI a b ab ba) {o:List Msg} {E:Vw} (s:LsE false b o E):EI a E ab (ba++o):=by
 induction s generalizing ba with
 | nil v=>rw [List.append_nil];exact h
 | trans v v' v'' o p _ _ ih1 ih2=>rw [←List.append_assoc];exact ih2 (ih1 h)
 | fire v x x' o h6 hf=>
   cases h with
   | no ha hb=>rw [hb] at h6;simp at h6
   | op z ha hx hn he ht hb=>rw [hb] at h6;simp at h6
   | nw z u ha hx hn he ht hb=>rw [hb] at h6;simp at h6
   | sk z ha hx hn he ht hb=>rw [hb] at h6;simp at h6
   | kw z y u w ha hx hn he ht hb hy h8 hk hkn hba h1 h2 h3 ho=>rw [hb] at h6;cases h6;have ht':=hf.tle;rw [h8] at ht';exact .kw z x' u (w++o) ha hx hn he ht rfl (hf.st.trans hy) (hf.ep.trans h8) hk hkn (by rw [hba];simp) h1 (h2.app ht') h3 (Y7 ho hf h8)
   | lv z y ha hx he hb hy h8 hk hkn h1 h2 ho=>rw [hb] at h6;cases h6;have ht':=hf.tle;rw [h8] at ht';exact .lv z x' ha hx he rfl (hf.st.trans hy) (hf.ep.trans h8) hk hkn h1 (h2.app ht') (Y7 ho hf h8)
   | cl z y u w ha hx he hb hy h8 hk hkn hab h1 h3 h2 ho=>rw [hb] at h6;cases h6;have ht':=hf.tle;rw [h8] at ht';exact .cl z x' u w ha hx he rfl (hf.st.trans hy) (hf.ep.trans h8) hk hkn hab h1 h3 (h2.app ht') (Y7 ho hf h8)
   | lg z y ha hx he hb hy h8 hk hkn h1 h2 ho=>rw [hb] at h6;cases h6;have ht':=hf.tle;rw [h8] at ht';exact .lg z x' ha hx he rfl (hf.st.trans hy) (hf.ep.trans h8) hk hkn h1 (h2.app ht') (Y7 ho hf h8)
   | cd z u ha hx he hb=>rw [hb] at h6;simp at h6
 | tell v x hl=>simp at hl
 | leave v x hl=>simp at hl
 | drop v x _ h6 hs=>
   cases h with
   | no ha hb=>rw [hb] at h6;simp at h6
   | op z ha hx hn he ht hb=>rw [hb] at h6;simp at h6
   | nw z u ha hx hn he ht hb=>rw [hb] at h6;simp at h6
   | sk z ha hx hn he ht hb=>rw [hb] at h6;simp at h6
   | kw z y u w ha hx hn he ht hb hy=>rw [hb] at h6;cases h6;omega
   | lv z y ha hx he hb hy=>rw [hb] at h6;cases h6;omega
   | cl z y u w ha hx he hb hy=>rw [hb] at h6;cases h6;omega
   | lg z y ha hx he hb hy h8 hk hkn h1 h2 ho=>rw [hb] at h6;cases h6;exact .cd z ba ha hx he rfl hk hkn (by rw [h8]) h1 h2 (fun k hk'=>by have:=ho k hk';omega)
   | cd z u ha hx he hb=>rw [hb] at h6;simp at h6
 | answer v x e _ h6 h9 hx'=>
   cases h with
   | no ha hb hk=>rw [hk] at h9;simp at h9
   | op z ha hx hn he ht hb hk=>rw [hk] at h9;simp at h9
   | nw z u ha hx hn he ht hb hk=>rw [hk] at h9;simp at h9
   | sk z ha hx hn he ht hb hk hlt h1 h2=>rw [hk] at h9;cases h9;obtain ⟨q1,q2,q3,q4,q5,q6⟩:=hx';obtain ⟨n1,n2,n3,n4⟩:=hn;refine .kw z x ba [] ha hx ⟨n1,n2,n3,n4⟩ he ht rfl q2 q1 rfl rfl rfl h2 (Bq.nil _) h1 (fun k hk'=>?_);rw [h1.cnt Om,oG];rcases hk' with rfl | rfl | rfl | rfl<;>simp [BF,bn,n1,n2,n3,n4,q3,q4,q5,q6]
   | kw z y u w ha hx hn he ht hb hy h8 hk=>rw [hk] at h9;simp at h9
   | lv z y ha hx he hb hy h8 hk=>rw [hk] at h9;simp at h9
   | cl z y u w ha hx he hb hy h8 hk=>rw [hk] at h9;simp at h9
   | lg z y ha hx he hb hy h8 hk=>rw [hk] at h9;simp at h9
   | cd z u ha hx he hb hk=>rw [hk] at h9;simp at h9
inductive GtE (lo:Bool) (v:Vw) (m:Msg):Vw→Prop
 | fit (x:SX) (ht:P4 m) (h:v.sd=some x) (he:x.EP=m.EP) (hl:BF m.KI x=false):GtE lo v m ⟨some (CP m.KI x),v.kn,v.tl,v.ak⟩
 | old (ht:P4 m) (h:∀x,v.sd=some x→x.EP≠m.EP):GtE lo v m v
 | new (hl:lo=false) (hm:m.KI=5∧m.Num=0) (h:v.sd=none) (hk:v.kn<m.EP) (ha:v.ak=none):GtE lo v m ⟨none,v.kn,v.tl,some m.EP⟩
 | known (x:SX) (hl:lo=true) (hm:m.KI=6∧m.Num=0) (h:v.sd=some x) (he:x.EP=m.EP) (hs:x.SS=1) (ht:v.tl=true):GtE lo v m ⟨some {x with SS:=0},v.kn,false,v.ak⟩
 | close (x:SX) (hl:lo=false) (hm:m.KI=7∧m.Num=0) (h:v.sd=some x) (he:x.EP=m.EP) (hs:x.SS=0):GtE lo v m ⟨some {x with SS:=2},v.kn,v.tl,v.ak⟩
 | closed (x:SX) (hl:lo=true) (hm:m.KI=8∧m.Num=0) (h:v.sd=some x) (he:x.EP=m.EP) (hs:x.SS=3):GtE lo v m ⟨none,v.kn,v.tl,v.ak⟩
theorem ZI {k j:Int} (hk:Hk k) (hj:Hk j) (x:SX) (h:BF k x=false):bn (BF j (CP k x))=bn (BF j x)+(if k=j then 1 else 0):=by rcases hk with rfl | rfl | rfl | rfl<;>rcases hj with rfl | rfl | rfl | rfl<;>simp_all [BF,CP,bn]
theorem I9 (k:Int) (x:SX):(CP k x).PE=x.PE∧(CP k x).EP=x.EP∧(CP k x).SS=x.SS:=by
 unfold CP;split
 ·exact ⟨rfl,rfl,rfl⟩
 ·split
  ·exact ⟨rfl,rfl,rfl⟩
  ·split<;>exact ⟨rfl,rfl,rfl⟩
theorem M4 {m:Msg} {l:List Msg} {k e:Int} (he:m.EP=e):CY k e (m::l)=(if m.KI=k then 1 else 0)+CY k e l:=by rw [Up];simp [he]
theorem Zi {m:Msg} {l:List Msg} {k e:Int} (he:m.EP≠e):CY k e (m::l)=CY k e l:=by rw [Up,if_neg (fun h=>he h.2)];omega
theorem Zc {b:Bool} (h:bn b=0):b=false:=by cases b<;>simp_all [bn]
theorem Lt {x y:SX} {e:Int} {m:Msg} {ab ba:List Msg} (h:Fm x y e (m::ab) ba) (ht:P4 m):(m.EP=e→BF m.KI y=false∧Fm x (CP m.KI y) e ab ba)∧(m.EP≠e→Fm x y e ab ba):=by
 refine ⟨fun he=>?_,fun he k hk=>by have:=h k hk;rw [Zi he] at this;exact this⟩;have h0:BF m.KI y=false:=by have:=h m.KI ht.1;rw [M4 he,if_pos rfl] at this;exact Zc Om
 refine ⟨h0,fun k hk=>?_⟩;have:=h k hk;rw [M4 he] at this;rw [ZI ht.1 hk y h0];omega
theorem OL {x y:SX} {e:Int} {m:Msg} {ab ba:List Msg} (h:Fm x y e ab (m::ba)) (ht:P4 m):(m.EP=e→BF m.KI x=false∧Fm (CP m.KI x) y e ab ba)∧(m.EP≠e→Fm x y e ab ba):=by
 refine ⟨fun he=>?_,fun he k hk=>by have:=h k hk;rw [Zi he] at this;exact this⟩;have h0:BF m.KI x=false:=by have:=h m.KI ht.1;rw [M4 he,if_pos rfl] at this;exact Zc Om
 refine ⟨h0,fun k hk=>?_⟩;have:=h k hk;rw [M4 he] at this;rw [ZI ht.1 hk x h0];omega
theorem EI.getHi {a b:Vw} {m:Msg} {ab ba:List Msg} (h:EI a b (m::ab) ba):∃b',GtE false b m b'∧EI a b' ab ba:=by
 cases h with
 | no ha hb hk hle h1 h2=>exact ⟨b,.old (h1 m (by simp)).1 (by rw [hb];simp),.no ha hb hk hle h1.tail h2⟩
 | op z ha hx hn he ht hb hk hlt h1 h2=>exact ⟨b,.old (h1 m (by simp)).1 (by rw [hb];simp),.op z ha hx hn he ht hb hk hlt h1.tail h2⟩
 | nw z u ha hx hn he ht hb hk hlt hab h1 h2=>
   cases u with
   | nil=>simp only [List.nil_append,List.cons.injEq] at hab;obtain ⟨rfl,rfl⟩:=hab;exact ⟨_,.new rfl ⟨rfl,rfl⟩ hb hlt hk,.sk z ha hx hn he ht rfl rfl hlt (Bq.nil _) h2⟩
   | cons q u=>simp only [List.cons_append,List.cons.injEq] at hab;obtain ⟨rfl,rfl⟩:=hab;exact ⟨b,.old (h1 m (by simp)).1 (by rw [hb];simp),.nw z u ha hx hn he ht hb hk hlt rfl h1.tail h2⟩
 | sk z ha hx hn he ht hb hk hlt h1 h2=>exact ⟨b,.old (h1 m (by simp)).1 (by rw [hb];simp),.sk z ha hx hn he ht hb hk hlt h1.tail h2⟩
 | kw z y u w ha hx hn he ht hb hy h6 hk hkn hba h1 h2 h3 ho=>have hm:=h3 m (by simp);refine ⟨b,.old hm.1 (fun x hx'=>?_),.kw z y u w ha hx hn he ht hb hy h6 hk hkn hba h1 h2 h3.tail ((Lt ho hm.1).2 Om)⟩;rw [hb] at hx';cases hx';omega
 | lv z y ha hx he hb hy h6 hk hkn h1 h2 ho=>
   have hm:=h1 m (by simp);by_cases hq:m.EP=a.kn
   ·obtain ⟨o1,o2⟩:=(Lt ho hm.1).1 hq;obtain ⟨c1,c2,c3⟩:=I9 m.KI y;exact ⟨_,.fit y hm.1 hb Om o1,.lv z _ ha hx he rfl (c3.trans hy) (c2.trans h6) hk hkn h1.tail h2 o2⟩
   ·refine ⟨b,.old hm.1 (fun x hx'=>?_),.lv z y ha hx he hb hy h6 hk hkn h1.tail h2 ((Lt ho hm.1).2 hq)⟩;rw [hb] at hx';cases hx';omega
 | cl z y u w ha hx he hb hy h6 hk hkn hab h1 h3 h2 ho=>
   cases u with
   | nil=>simp only [List.nil_append,List.cons.injEq] at hab;obtain ⟨rfl,rfl⟩:=hab;exact ⟨_,.close y rfl ⟨rfl,rfl⟩ hb h6 hy,.lg z {y with SS:=2} ha hx he rfl rfl h6 hk hkn h3 h2 ho⟩
   | cons q u=>
     simp only [List.cons_append,List.cons.injEq] at hab;obtain ⟨rfl,rfl⟩:=hab;have hm:=h1 m (by simp);by_cases hq:m.EP=a.kn
     ·obtain ⟨o1,o2⟩:=(Lt ho hm.1).1 hq;obtain ⟨c1,c2,c3⟩:=I9 m.KI y;exact ⟨_,.fit y hm.1 hb Om o1,.cl z _ u w ha hx he rfl (c3.trans hy) (c2.trans h6) hk hkn rfl h1.tail h3 h2 o2⟩
     ·refine ⟨b,.old hm.1 (fun x hx'=>?_),.cl z y u w ha hx he hb hy h6 hk hkn rfl h1.tail h3 h2 ((Lt ho hm.1).2 hq)⟩;rw [hb] at hx';cases hx';omega
 | lg z y ha hx he hb hy h6 hk hkn h1 h2 ho=>
   have hm:=h1 m (by simp);by_cases hq:m.EP=a.kn
   ·obtain ⟨o1,o2⟩:=(Lt ho hm.1).1 hq;obtain ⟨c1,c2,c3⟩:=I9 m.KI y;exact ⟨_,.fit y hm.1 hb Om o1,.lg z _ ha hx he rfl (c3.trans hy) (c2.trans h6) hk hkn h1.tail h2 o2⟩
   ·refine ⟨b,.old hm.1 (fun x hx'=>?_),.lg z y ha hx he hb hy h6 hk hkn h1.tail h2 ((Lt ho hm.1).2 hq)⟩;rw [hb] at hx';cases hx';omega
 | cd z u ha hx he hb hk hkn hba h1 h2 ho=>exact ⟨b,.old (h1 m (by simp)).1 (by rw [hb];simp),.cd z u ha hx he hb hk hkn hba h1.tail h2 ho⟩
theorem EI.getLo {a b:Vw} {m:Msg} {ab ba:List Msg} (h:EI a b ab (m::ba)):∃a',GtE true a m a'∧EI a' b ab ba:=by
 cases h with
 | no ha hb hk hle h1 h2=>exact ⟨a,.old (h2 m (by simp)).1 (by rw [ha];simp),.no ha hb hk hle h1 h2.tail⟩
 | op z ha hx hn he ht hb hk hlt h1 h2=>have hm:=h2 m (by simp);exact ⟨a,.old hm.1 (fun x hx'=>by rw [ha] at hx';cases hx';omega),.op z ha hx hn he ht hb hk hlt h1 h2.tail⟩
 | nw z u ha hx hn he ht hb hk hlt hab h1 h2=>have hm:=h2 m (by simp);exact ⟨a,.old hm.1 (fun x hx'=>by rw [ha] at hx';cases hx';omega),.nw z u ha hx hn he ht hb hk hlt hab h1 h2.tail⟩
 | sk z ha hx hn he ht hb hk hlt h1 h2=>have hm:=h2 m (by simp);exact ⟨a,.old hm.1 (fun x hx'=>by rw [ha] at hx';cases hx';omega),.sk z ha hx hn he ht hb hk hlt h1 h2.tail⟩
 | kw z y u w ha hx hn he ht hb hy h6 hk hkn hba h1 h2 h3 ho=>
   cases u with
   | nil=>simp only [List.nil_append,List.cons.injEq] at hba;obtain ⟨rfl,rfl⟩:=hba;exact ⟨_,.known z rfl ⟨rfl,rfl⟩ ha he hx ht,.lv {z with SS:=0} y rfl (.inl rfl) he hb hy h6 hk hkn (h3.mono (by show a.kn-1≤a.kn;omega)) h2 ho⟩
   | cons q u=>simp only [List.cons_append,List.cons.injEq] at hba;obtain ⟨rfl,rfl⟩:=hba;have hm:=h1 m (by simp);exact ⟨a,.old hm.1 (fun x hx'=>by rw [ha] at hx';cases hx';omega),.kw z y u w ha hx hn he ht hb hy h6 hk hkn rfl h1.tail h2 h3 ho⟩
 | lv z y ha hx he hb hy h6 hk hkn h1 h2 ho=>
   have hm:=h2 m (by simp);by_cases hq:m.EP=a.kn
   ·obtain ⟨o1,o2⟩:=(OL ho hm.1).1 hq;obtain ⟨c1,c2,c3⟩:=I9 m.KI z;exact ⟨_,.fit z hm.1 ha Om o1,.lv _ y rfl (by rw [c3];exact hx) (c2.trans he) hb hy h6 hk hkn h1 h2.tail o2⟩
   ·refine ⟨a,.old hm.1 (fun x hx'=>?_),.lv z y ha hx he hb hy h6 hk hkn h1 h2.tail ((OL ho hm.1).2 hq)⟩;rw [ha] at hx';cases hx';omega
 | cl z y u w ha hx he hb hy h6 hk hkn hab h1 h3 h2 ho=>
   have hm:=h2 m (by simp);by_cases hq:m.EP=a.kn
   ·obtain ⟨o1,o2⟩:=(OL ho hm.1).1 hq;obtain ⟨c1,c2,c3⟩:=I9 m.KI z;exact ⟨_,.fit z hm.1 ha Om o1,.cl _ y u w rfl (c3.trans hx) (c2.trans he) hb hy h6 hk hkn hab h1 h3 h2.tail o2⟩
   ·refine ⟨a,.old hm.1 (fun x hx'=>?_),.cl z y u w ha hx he hb hy h6 hk hkn hab h1 h3 h2.tail ((OL ho hm.1).2 hq)⟩;rw [ha] at hx';cases hx';omega
 | lg z y ha hx he hb hy h6 hk hkn h1 h2 ho=>
   have hm:=h2 m (by simp);by_cases hq:m.EP=a.kn
   ·obtain ⟨o1,o2⟩:=(OL ho hm.1).1 hq;obtain ⟨c1,c2,c3⟩:=I9 m.KI z;exact ⟨_,.fit z hm.1 ha Om o1,.lg _ y rfl (c3.trans hx) (c2.trans he) hb hy h6 hk hkn h1 h2.tail o2⟩
   ·refine ⟨a,.old hm.1 (fun x hx'=>?_),.lg z y ha hx he hb hy h6 hk hkn h1 h2.tail ((OL ho hm.1).2 hq)⟩;rw [ha] at hx';cases hx';omega
 | cd z u ha hx he hb hk hkn hba h1 h2 ho=>
   cases u with
   | nil=>simp only [List.nil_append,List.cons.injEq] at hba;obtain ⟨rfl,rfl⟩:=hba;exact ⟨_,.closed z rfl ⟨rfl,rfl⟩ ha he hx,.no rfl hb hk (by show b.kn≤a.kn;omega) h1 (Bq.nil _)⟩
   | cons q u=>
     simp only [List.cons_append,List.cons.injEq] at hba;obtain ⟨rfl,rfl⟩:=hba;have hm:=h2 m (by simp);by_cases hq:m.EP=a.kn
     ·have h0:BF m.KI z=false:=by have:=ho m.KI hm.1.1;rw [M4 hq,if_pos rfl] at this;exact Zc Om
      obtain ⟨c1,c2,c3⟩:=I9 m.KI z;refine ⟨_,.fit z hm.1 ha Om h0,.cd _ u rfl (c3.trans hx) (c2.trans he) hb hk hkn rfl h1 h2.tail (fun k hk'=>?_)⟩;have:=ho k hk';rw [M4 hq] at this;show bn (BF k (CP m.KI z))+CY k a.kn u≤1;rw [ZI hm.1.1 hk' z h0];omega
     ·refine ⟨a,.old hm.1 (fun x hx'=>?_),.cd z u ha hx he hb hk hkn rfl h1 h2.tail (fun k hk'=>?_)⟩
      ·rw [ha] at hx';cases hx';omega
      ·have:=ho k hk';rw [Zi hq] at this;exact this
theorem EI.add {a b:Vw} {ab ba:List Msg} (h:EI a b ab ba) (hs:a.sd=none) {x:SX} (hx:x.SS=1∧HJ x∧x.EP=a.kn+1):EI ⟨some x,a.kn+1,false,a.ak⟩ b ab ba:=by
 cases h with
 | no ha hb hk hle h1 h2=>exact .op x rfl hx.1 hx.2.1 hx.2.2 rfl hb hk (by show b.kn<a.kn+1;omega) (h1.mono (by show _≤a.kn+1-1;omega)) (h2.mono (by show _≤a.kn+1-1;omega))
 | op z ha=>rw [ha] at hs;simp at hs
 | nw z u ha=>rw [ha] at hs;simp at hs
 | sk z ha=>rw [ha] at hs;simp at hs
 | kw z y u w ha=>rw [ha] at hs;simp at hs
 | lv z y ha=>rw [ha] at hs;simp at hs
 | cl z y u w ha=>rw [ha] at hs;simp at hs
 | lg z y ha=>rw [ha] at hs;simp at hs
 | cd z u ha=>rw [ha] at hs;simp at hs
theorem EI.shut {a b:Vw} {ab ba:List Msg} (h:EI a b ab ba) {x:SX} (hs:a.sd=some x) (hx:x.SS=0):EI ⟨some {x with SS:=2},a.kn,a.tl,a.ak⟩ b ab ba:=by
 cases h with
 | no ha=>rw [ha] at hs;simp at hs
 | op z ha hx'=>rw [ha] at hs;cases hs;omega
 | nw z u ha hx'=>rw [ha] at hs;cases hs;omega
 | sk z ha hx'=>rw [ha] at hs;cases hs;omega
 | kw z y u w ha hx'=>rw [ha] at hs;cases hs;omega
 | lv z y ha hx' he hb hy h6 hk hkn h1 h2 ho=>rw [ha] at hs;cases hs;exact .lv _ y rfl (.inr rfl) he hb hy h6 hk hkn h1 h2 ho
 | cl z y u w ha hx'=>rw [ha] at hs;cases hs;omega
 | lg z y ha hx'=>rw [ha] at hs;cases hs;omega
 | cd z u ha hx'=>rw [ha] at hs;cases hs;omega
theorem EI.one {a b:Vw} {ab ba:List Msg} (h:EI a b ab ba) {x y:SX} (hx:a.sd=some x) (hy:b.sd=some y):x.EP=y.EP∧∀k,Hk k→bn (BF k x)+bn (BF k y)+CY k x.EP ab+CY k x.EP ba=1:=by
 cases h with
 | no ha=>rw [ha] at hx;simp at hx
 | op z ha _ _ _ _ hb=>rw [hb] at hy;simp at hy
 | nw z u ha _ _ _ _ hb=>rw [hb] at hy;simp at hy
 | sk z ha _ _ _ _ hb=>rw [hb] at hy;simp at hy
 | kw z z' u w ha hx' hn he ht hb hy' h6 hk hkn hba h1 h2 h3 ho=>rw [ha] at hx;cases hx;rw [hb] at hy;cases hy;refine ⟨Om,fun k hk'=>?_⟩;have:=ho k hk';rw [he,hba,M3,Up,h1.cnt Om,if_neg (by rintro ⟨q,_⟩;rcases hk' with rfl | rfl | rfl | rfl<;>simp at q)];omega
 | lv z z' ha hx' he hb hy' h6 hk hkn h1 h2 ho=>rw [ha] at hx;cases hx;rw [hb] at hy;cases hy;exact ⟨Om,by rw [he];exact ho⟩
 | cl z z' u w ha hx' he hb hy' h6 hk hkn hab h1 h3 h2 ho=>rw [ha] at hx;cases hx;rw [hb] at hy;cases hy;refine ⟨Om,fun k hk'=>?_⟩;have:=ho k hk';rw [M3] at this;rw [he,hab,M3,Up,if_neg (by rintro ⟨q,_⟩;rcases hk' with rfl | rfl | rfl | rfl<;>simp at q)];omega
 | lg z z' ha hx' he hb hy' h6 hk hkn h1 h2 ho=>rw [ha] at hx;cases hx;rw [hb] at hy;cases hy;exact ⟨Om,by rw [he];exact ho⟩
 | cd z u ha _ _ hb=>rw [hb] at hy;simp at hy
def B7 (S:List SX) (p:Int):Option SX:=S.find? fun x=>decide (x.PE=p)
def DC (A:List KE) (p:Int):Option Int:=(A.find? fun k=>decide (k.PE=p)).map (·.EP)
def Az (n:NO) (p:Int):Vw:=⟨B7 n.DK.DI.SD p,BR n.KN p,decide (p∈n.TL),DC n.AK p⟩
def Ce (p:Int) (E:List ML):List Msg:=(E.filter fun m=>decide (m.To=p)).map (·.Msg)
theorem HU (p:Int) (a b:List ML):Ce p (a++b)=Ce p a++Ce p b:=by simp [Ce]
theorem K3 (x:SX) (S:List SX) (p:Int):B7 (x::S) p=if x.PE=p then some x else B7 S p:=by unfold B7;rw [List.find?_cons];by_cases h:x.PE=p<;>simp [h]
theorem IK {S:List SX} {p:Int} {x:SX} (h:B7 S p=some x):x∈S∧x.PE=p:=by unfold B7 at h;exact ⟨List.mem_of_find?_eq_some h,by simpa using List.find?_some h⟩
theorem Ey {S:List SX} {p:Int}:B7 S p=none↔∀x∈S,x.PE≠p:=by unfold B7;rw [List.find?_eq_none];simp
theorem Gk {S:List SX} (hu:S.Pairwise fun x y=>x.PE<y.PE) {x:SX} (hx:x∈S):B7 S x.PE=some x:=by
 cases h:B7 S x.PE with
 | none=>exact absurd rfl (Ey.1 h x hx)
 | some y=>obtain ⟨h1,h2⟩:=IK h;rw [LH hu h1 hx h2]
theorem kY {g:SX→SX} (hg:∀x,(g x).PE=x.PE) (S:List SX) (p:Int):B7 (S.map g) p=(B7 S p).map g:=by
 induction S with
 | nil=>rfl
 | cons x S ih=>rw [List.map_cons,K3,K3,hg,ih];split<;>rfl
theorem wo {g:SX→Option SX} (hg:∀x y,g x=some y→y.PE=x.PE) {S:List SX} (hu:S.Pairwise fun x y=>x.PE<y.PE) (p:Int):B7 (S.filterMap g) p=(B7 S p).bind g:=by
 induction S with
 | nil=>rfl
 | cons x S ih=>
   obtain ⟨h1,h2⟩:=List.pairwise_cons.1 hu;have ih:=ih h2;rw [K3,List.filterMap_cons];cases hx:g x with
   | none=>
     dsimp only;rw [ih];split
     ·rename_i e;rw [OB,hx,Ey.2 (fun y hy e2=>by have:=h1 y hy;omega)];rfl
     ·rfl
   | some y=>
     dsimp only;rw [K3,hg x y hx,ih];split
     ·rw [OB,hx]
     ·rfl
theorem kZ {S:List SX} {x:SX} (hn:∀y∈S,y.PE≠x.PE) (p:Int):B7 (Cy S x) p=if p=x.PE then some x else B7 S p:=by
 unfold Cy;have e:∀l,B7 (S.take (AH S (·.PE) x.PE)++l) p=(B7 (S.take (AH S (·.PE) x.PE)) p).or (B7 l p):=fun l=>List.find?_append ..;rw [e,K3];by_cases h:p=x.PE
 ·rw [if_pos h,if_pos h.symm,Ey.2 (fun y hy=>by rw [h];exact hn y (List.mem_of_mem_take hy))];rfl
 ·rw [if_neg h,if_neg (fun q=>h q.symm),←e,List.take_append_drop]
theorem cT {f:SX→List ML} (hf:∀x,∀m∈f x,m.To=x.PE) {S:List SX} (hu:S.Pairwise fun x y=>x.PE<y.PE) (p:Int):Ce p (S.flatMap f)=match B7 S p with | some x=>(f x).map (·.Msg) | none=>[]:=by
 induction S with
 | nil=>rfl
 | cons x S ih=>
   obtain ⟨h1,h2⟩:=List.pairwise_cons.1 hu;rw [List.flatMap_cons,HU,ih h2,K3];by_cases e:x.PE=p
   ·rw [if_pos e,Ey.2 (fun y hy e2=>by have:=h1 y hy;omega)];dsimp only;rw [List.append_nil];unfold Ce;rw [List.filter_eq_self.2 (fun m hm=>by simpa using (hf x m hm).trans e)]
   ·rw [if_neg e];have:Ce p (f x)=[]:=by unfold Ce;rw [List.filter_eq_nil_iff.2 (fun m hm=>by rw [hf x m hm];simpa using e)];rfl
    rw [this,List.nil_append]
theorem dz (k:KE) (A:List KE) (p:Int):DC (k::A) p=if k.PE=p then some k.EP else DC A p:=by unfold DC;rw [List.find?_cons];by_cases h:k.PE=p<;>simp [h]
theorem dA {A:List KE} {p:Int}:DC A p=none↔∀k∈A,k.PE≠p:=by unfold DC;rw [Option.map_eq_none_iff,List.find?_eq_none];simp
theorem nO {A:List KE} {p e:Int} (h:DC A p=some e):∃k∈A,k.PE=p∧k.EP=e:=by unfold DC at h;obtain ⟨k,h1,h2⟩:=Option.map_eq_some_iff.1 h;exact ⟨k,List.mem_of_find?_eq_some h1,by simpa using List.find?_some h1,h2⟩
theorem dH (p:Int):∀(A:List KE) (S:List SX) (K:List KE) (id:Int),(∀k∈A,∀x∈S,x.PE≠k.PE)→(A.map (·.PE)).Nodup→(K.Pairwise fun x y=>x.PE<y.PE)→
  (B7 (D6 S A) p=match DC A p with | some e=>some (Cg ⟨p,e⟩) | none=>B7 S p)∧(BR (DU K A) p=match DC A p with | some e=>e | none=>BR K p)∧(Ce p (EE id A)=match DC A p with | some e=>[⟨6,e,0⟩] | none=>[])
 | [],S,K,id,_,_,_=>⟨rfl,rfl,rfl⟩
 | k::A,S,K,id,h1,h2,h3=>by
   rw [List.map_cons,List.nodup_cons] at h2;have h6:∀y∈S,y.PE≠(Cg k).PE:=fun y hy=>h1 k (by simp) y hy;obtain ⟨a1,a2,a3⟩:=dH p A (Cy S (Cg k)) (D9 K k.PE k.EP) id (fun q hq x hx=>by
    rcases Fk.1 hx with rfl | hx
    ·intro e;exact h2.1 (List.mem_map.2 ⟨q,hq,e.symm⟩)
    ·exact h1 q (List.mem_cons_of_mem _ hq) x hx) h2.2 (UP h3 _ _)
   rw [dz];have e1:D6 S (k::A)=D6 (Cy S (Cg k)) A:=rfl;have e2:DU K (k::A)=DU (D9 K k.PE k.EP) A:=rfl;have e3:Ce p (EE id (k::A))=(if k.PE=p then [⟨6,k.EP,0⟩] else [])++Ce p (EE id A):=by unfold EE Ce;rw [List.map_cons,List.filter_cons];by_cases e:k.PE=p<;>simp [e]
   rw [e1,e2,e3,a1,a2,a3,kZ h6,Uw h3];by_cases e:k.PE=p
   ·have hA:DC A p=none:=dA.2 fun q hq e'=>h2.1 (List.mem_map.2 ⟨q,hq,e'.trans e.symm⟩);rw [hA,if_pos e];dsimp only;refine ⟨?_,?_,?_⟩
    ·rw [if_pos (show p=(Cg k).PE from e.symm)];unfold Cg;rw [e]
    ·rw [if_pos e.symm]
    ·rw [if_pos e];rfl
   ·rw [if_neg e];cases hA:DC A p with
    | some q=>exact ⟨rfl,rfl,by rw [if_neg e];rfl⟩
    | none=>exact ⟨by dsimp only;rw [if_neg (show ¬p=(Cg k).PE from fun q=>e q.symm)],by dsimp only;rw [if_neg (fun q=>e q.symm)],by rw [if_neg e];rfl⟩
theorem cn {n:NO} (h:OkN n) (p:Int):LsE (decide (n.DK.DI.ID<p)) (Az n p) (Ce p (Gq n)) (Az (AZ n) p):=by
 unfold AZ Gq;split
 ·exact .nil _
 ·obtain ⟨a1,a2,a3⟩:=dH p n.AK n.DK.DI.SD n.KN n.DK.DI.ID (fun k hk=>(h.may k hk).1) h.dis h.kup;unfold Az;dsimp only;rw [a1,a2,a3];cases hA:DC n.AK p with
  | none=>exact .nil _
  | some e=>obtain ⟨k,hk,rfl,rfl⟩:=nO hA;have hm:=h.may k hk;exact .answer _ (Cg ⟨k.PE,k.EP⟩) _ (by simp;omega) (Ey.2 hm.1) rfl ⟨rfl,rfl,rfl,rfl,rfl,rfl⟩
theorem fj (ph:Int) (x:SX) (id:Int):FireP x (BV ph x) ((Cn id ph x).map (·.Msg)):=by
 obtain ⟨h1,h2,h3⟩:=eW ph x;refine ⟨h1,h2,h3,fun m hm=>?_,fun k hk=>?_,fun hn=>?_⟩
 ·unfold Cn at hm;rw [List.map_append,List.mem_append] at hm;rcases hm with hm | hm
  ·split at hm<;>simp at hm;subst hm;exact ⟨⟨.inl rfl,rfl⟩,rfl⟩
  ·split at hm<;>simp at hm;subst hm;exact ⟨⟨.inr (.inl rfl),rfl⟩,rfl⟩
 ·obtain ⟨a,b,c,f,d,t,bo,ak⟩:=x;unfold Cn BV DG;by_cases e1:ph=1<;>by_cases e2:ph=2<;>rcases hk with rfl | rfl | rfl | rfl<;>cases f<;>cases d<;>cases t<;>simp [BF,bn,CY,e1,e2]
 ·obtain ⟨n1,n2,n3,n4⟩:=hn;have e1:DG ph x=x:=by unfold DG;rw [if_neg (by simp [n2])]
  unfold Cn BV;rw [e1];simp [n2,HJ,n1,n3,n4]
theorem qL (nd:Bool) (th:Int) (x:SX) (id:Int):FireP x (Ca nd th x) ((CG id nd th x).map (·.Msg)):=by
 obtain ⟨h1,h2,h3,_⟩:=Pf nd th x;refine ⟨h1,h2,h3,fun m hm=>?_,fun k hk=>?_,fun hn=>?_⟩
 ·unfold CG at hm;rw [List.map_append,List.mem_append] at hm;rcases hm with hm | hm
  ·split at hm<;>simp at hm;subst hm;exact ⟨⟨.inr (.inr (.inl rfl)),rfl⟩,rfl⟩
  ·split at hm<;>simp at hm;subst hm;exact ⟨⟨.inr (.inr (.inr rfl)),rfl⟩,rfl⟩
 ·obtain ⟨a,b,c,f,d,t,bo,ak⟩:=x;unfold CG Ca DW;generalize Fb nd th ⟨a,b,c,f,d,t,bo,ak⟩=kp;by_cases e1:th=1<;>rcases hk with rfl | rfl | rfl | rfl<;>cases nd<;>cases kp<;>cases bo<;>cases ak<;>simp [BF,bn,CY,e1]
 ·obtain ⟨n1,n2,n3,n4⟩:=hn;have e1:DW nd th x=x:=by unfold DW;rw [if_neg (by simp [n4])]
  unfold CG Ca;rw [e1];simp [HJ,n1,n2,n3,n4]
theorem qN (x:SX):FireP x (IX x) []:=⟨rfl,rfl,rfl,by simp,fun k _=>rfl,fun h=>⟨h,rfl⟩⟩
theorem qM (d:DI) (x:SX) (id:Int):FireP x (Cl d x) ((Cn id d.PH x).map (·.Msg)):=by
 unfold Cl;split
 ·have:=(fj d.PH x id).trans (qN _);rwa [List.append_nil] at this
 ·exact fj _ _ _
theorem wv {d:DK} (hu:d.DI.SD.Pairwise fun x y=>x.PE<y.PE) (p:Int):
  (∀x,B7 d.DI.SD p=some x→∃x',B7 (AY d).DI.SD p=some x'∧FireP x x' (Ce p (Dp d)))∧(B7 d.DI.SD p=none→B7 (AY d).DI.SD p=none∧Ce p (Dp d)=[]):=by
 have h6:(Bo d).SD=d.DI.SD:=rfl;have g1:∀x,(LF d x).PE=x.PE:=fun x=>congrArg (·.1) (TW d x);have g2:∀x,(Cl (Bo d) x).PE=x.PE:=fun x=>(M8 _ x).1;have eS:B7 (AY d).DI.SD p=(B7 d.DI.SD p).map (LF d):=by rw [TA,kY g1]
 have m1:Ce p (I4 (Bo d))=match B7 d.DI.SD p with | some x=>(Cn (Bo d).ID (Bo d).PH x).map (·.Msg) | none=>[]:=by unfold I4;rw [h6,cT (fun x m hm=>(?_:m.To=x.PE)) hu];unfold Cn at hm;rcases List.mem_append.1 hm with hm | hm<;>split at hm<;>simp at hm<;>rw [hm]
 have h8:(Cb (Bo d)).SD.Pairwise fun x y=>x.PE<y.PE:=by rw [Hf,h6];exact OQ (by rw [List.map_map];exact List.map_congr_left fun x _=>g2 x) hu
 have m2:Ce p ((Cb (Bo d)).SD.flatMap fun x=>CG d.DI.ID (Cu d x) d.TH x)=match B7 d.DI.SD p with | some x=>(CG d.DI.ID (Cu d (Cl (Bo d) x)) d.TH (Cl (Bo d) x)).map (·.Msg) | none=>[]:=by rw [cT (fun x m hm=>(dR hm).2.1) h8,Hf,kY g2,h6];cases B7 d.DI.SD p<;>rfl
 unfold Dp;rw [eS,HU,m1,m2];constructor
 ·intro x hx;rw [hx];refine ⟨LF d x,rfl,?_⟩;dsimp only;have nd:Cu d (Cl (Bo d) x)=Cu d x:=by unfold Cu;rw [g2]
  rw [nd];exact (qM (Bo d) x _).trans (qL _ _ _ _)
 ·intro hx;rw [hx];exact ⟨rfl,rfl⟩
theorem l5 (p:Int):∀(k:Nat) (d:DK) (out:List ML),(d.DI.SD.Pairwise fun x y=>x.PE<y.PE)→∃E,(Cm k d out).2=out++E∧
  (∀x,B7 d.DI.SD p=some x→∃x',B7 (Cm k d out).1.DI.SD p=some x'∧FireP x x' (Ce p E))∧(B7 d.DI.SD p=none→B7 (Cm k d out).1.DI.SD p=none∧Ce p E=[])
 | 0,d,out,_=>⟨[],by simp [Cm],fun x hx=>⟨x,hx,FireP.refl x⟩,fun h=>⟨h,rfl⟩⟩
 | k+1,d,out,hu=>by
   unfold Cm;split
   ·exact ⟨[],by simp,fun x hx=>⟨x,hx,FireP.refl x⟩,fun h=>⟨h,rfl⟩⟩
   ·have hu':(AY d).DI.SD.Pairwise fun x y=>x.PE<y.PE:=by rw [TA];exact OQ (by rw [List.map_map];exact List.map_congr_left fun x _=>congrArg (·.1) (TW d x)) hu
    obtain ⟨E,h1,h2,h3⟩:=l5 p k (AY d) (out++Dp d) hu';obtain ⟨a1,a2⟩:=wv hu p;refine ⟨Dp d++E,by rw [h1,List.append_assoc],fun x hx=>?_,fun hx=>?_⟩
    ·obtain ⟨y,hy,f1⟩:=a1 x hx;obtain ⟨z,hz,f2⟩:=h2 y hy;exact ⟨z,hz,by rw [HU];exact f1.trans f2⟩
    ·obtain ⟨b1,b2⟩:=a2 hx;obtain ⟨c1,c2⟩:=h3 b1;exact ⟨c1,by rw [HU,b2,c2];rfl⟩
theorem co {n:NO} (hu:n.DK.DI.SD.Pairwise fun x y=>x.PE<y.PE) (lo:Bool) (p:Int):LsE lo (Az n p) (Ce p (Bv n.DK).2) (Az (BI n) p):=by
 obtain ⟨E,h1,h2,h3⟩:=l5 p 300 n.DK [] hu;rw [List.nil_append] at h1;have e:Bv n.DK=Cm 300 n.DK []:=rfl;unfold BI Az;dsimp only;rw [e,h1];cases hs:B7 n.DK.DI.SD p with
 | none=>obtain ⟨c1,c2⟩:=h3 hs;rw [c1,c2];exact .nil _
 | some x=>obtain ⟨x',c1,c2⟩:=h2 x hs;rw [c1];exact .fire _ x x' _ rfl c2
theorem cq (id p:Int):∀(S:List SX) (T:List Int),(S.Pairwise fun x y=>x.PE<y.PE)→Ce p (Cr id S T []).2=match B7 S p with | some x=>if x.SS=1∧p∉T then [⟨5,x.EP,0⟩] else [] | none=>[]
 | [],T,_=>rfl
 | x::S,T,hu=>by
   obtain ⟨h1,h2⟩:=List.pairwise_cons.1 hu;have ub:CK T x=true↔x.SS=1∧x.PE∉T:=by unfold CK ER;rw [Bool.and_eq_true,decide_eq_true_eq,Bool.not_eq_true',decide_eq_false_iff_not]
   rw [K3];unfold Cr;cases hu':CK T x with
   | true=>
     rw [if_pos rfl,U0,HU,cq id p S _ h2];have hx:=ub.1 hu';by_cases e:x.PE=p
     ·rw [if_pos e,Ey.2 (fun y hy e2=>by have:=h1 y hy;omega)];dsimp only;rw [if_pos ⟨hx.1,e ▸ hx.2⟩];simp [Ce,e]
     ·rw [if_neg e];have:Ce p ([]++[(⟨id,x.PE,⟨5,x.EP,0⟩⟩:ML)])=[]:=by simp [Ce,e]
      rw [this,List.nil_append];have hs:=(DO (T++[x.PE])).2 p;have hq:p∈Bm (T++[x.PE])↔p∈T:=by rw [hs,List.mem_append,List.mem_singleton];exact ⟨fun h=>h.elim id' (fun q=>absurd q.symm e),.inl⟩
      cases B7 S p with
      | none=>rfl
      | some y=>simp only [hq]
   | false=>
     rw [if_neg (by simp),cq id p S T h2];by_cases e:x.PE=p
     ·rw [if_pos e,Ey.2 (fun y hy e2=>by have:=h1 y hy;omega)];dsimp only;rw [if_neg (fun h=>by have:=ub.2 ⟨h.1,e ▸ h.2⟩;rw [hu'] at this;simp at this)]
     ·rw [if_neg e]
where id' {a:Prop} (h:a):a:=h
theorem ww {n:NO} (h:OkN n) (p:Int):LsE (decide (n.DK.DI.ID<p)) (Az n p) (Ce p (Dr n).2) (Az (CI n) p):=by
 have hm:=YD n p;unfold CI Az;dsimp only;unfold Dr at hm ⊢;by_cases hP:n.DK.DI.PH=2
 ·rw [if_pos hP] at hm ⊢;rw [cq _ p _ _ h.dr.din.up];cases hs:B7 n.DK.DI.SD p with
  | none=>
    have:p∈(Cr n.DK.DI.ID n.DK.DI.SD n.TL []).1↔p∈n.TL:=by rw [hm];exact ⟨fun q=>q.elim (fun q=>q) (fun ⟨_,x,hx,_,e⟩=>absurd e (Ey.1 hs x hx)),.inl⟩
    rw [decide_eq_decide.2 this];exact .nil _
  | some x=>
    obtain ⟨h1,h2⟩:=IK hs;dsimp only;by_cases hc:x.SS=1∧p∉n.TL
    ·rw [if_pos hc,DT (hm.2 (.inr ⟨hP,x,h1,hc.1,h2⟩)),DN hc.2];have:=(h.sd x h1).2.2.2 (.inl hc.1);have:=(h.peer0 h1).2.2;exact .tell _ x (by simp;omega) rfl hc.1 rfl
    ·rw [if_neg hc];have:p∈(Cr n.DK.DI.ID n.DK.DI.SD n.TL []).1↔p∈n.TL:=by rw [hm];refine ⟨fun q=>q.elim (fun q=>q) (fun ⟨_,y,hy,hs',e⟩=>?_),.inl⟩;have:y=x:=LH h.dr.din.up hy h1 Om;subst this;exact Classical.byContradiction fun q=>hc ⟨hs',q⟩
     rw [decide_eq_decide.2 this];exact .nil _
 ·rw [if_neg hP];exact .nil _
theorem wu {n:NO} (h:OkN n) (p:Int):LsE (decide (n.DK.DI.ID<p)) (Az n p) (Ce p (EK n)) (Az (Ec n) p):=by
 have t1:∀x,∀m∈G7 n.DK.DI.ID n.DK.TH n.DK.NE x,m.To=x.PE:=fun x m hm=>by unfold G7 at hm;split at hm<;>simp at hm;rw [hm]
 have t2:∀x y,DJ n.DK.DI.ID n.DK.TH n.DK.NE x=some y→y.PE=x.PE:=fun x y hy=>by
  unfold DJ at hy;split at hy
  ·split at hy<;>simp at hy;rw [←hy]
  ·simp at hy;rw [←hy]
 unfold Ec EK Az B0 BJ;dsimp only;rw [cT t1 h.dr.din.up,wo t2 h.dr.din.up]
 ·cases hs:B7 n.DK.DI.SD p with
  | none=>exact .nil _
  | some x=>
    obtain ⟨h1,h2⟩:=IK hs;have hne:=(h.peer0 h1).2.2;rw [OB];dsimp only;unfold DJ G7;cases hg:C1 n.DK.TH n.DK.NE x with
    | false=>exact .nil _
    | true=>
      have h6:=UG hg;by_cases hi:n.DK.DI.ID<x.PE
      ·rw [if_pos rfl,if_pos hi,if_pos rfl,if_pos hi];exact .leave _ x (by simp;omega) rfl h6
      ·rw [if_pos rfl,if_neg hi,if_pos rfl,if_neg hi];exact .drop _ x (by simp;omega) rfl h6
theorem l6 {n:NO} (h:OkN n) (p:Int):LsE (decide (n.DK.DI.ID<p)) (Az n p) (Ce p (E6 n)) (Az (AN n) p):=by
 have h1:=cn h p;have e2:Az (Bj n) p=Az (AZ n) p:=by
  have:(BM (AZ n)).DK.DI=(AZ n).DK.DI:=by
   unfold BM CJ;dsimp only;split
   ·split<;>rfl
   ·rfl
  unfold Bj BB Az;dsimp only;rw [this];rfl
 have h9:(Bj n).DK.DI.ID=n.DK.DI.ID:=bH n;have h3:=co (n:=Bj n) h.pre.dr.din.up (decide (n.DK.DI.ID<p)) p;have hg:=h.pre.firgra;have h6:(AL (BI (Bj n))).DK.DI.ID=n.DK.DI.ID:=(Km (Bj n).DK).id.trans h9;have h4:=ww hg p;have h5:=wu hg.tel p;have h8:(CI (AL (BI (Bj n)))).DK.DI.ID=n.DK.DI.ID:=h6;rw [h6] at h4;rw [h8] at h5;have e4:Az (AL (BI (Bj n))) p=Az (BI (Bj n)) p:=rfl;unfold AN E6 Aw;rw [HU,HU,HU];rw [←e2] at h1;rw [e4] at h4;exact .trans _ _ _ _ _ h1 (.trans _ _ _ _ _ h3 (.trans _ _ _ _ _ h4 h5))
theorem l7 {n:NO} (h:OkN n) (V:List EV) (p:Int):LsE (decide (n.DK.DI.ID<p)) (Az n p) (Ce p (BE n [] V).2.1) (Az (BE n [] V).1 p):=(Lw (P:=fun m E _=>m.DK.DI.ID=n.DK.DI.ID∧LsE (decide (n.DK.DI.ID<p)) (Az n p) (Ce p E) (Az m p)) (fun m E V hm hP=>by have:=l6 hm p;rw [hP.1] at this;exact ⟨(TB m).trans hP.1,by rw [HU];exact .trans _ _ _ _ _ hP.2 this⟩) h ⟨rfl,.nil _⟩).2
theorem wn {S S':List SX} (E:S'.Pairwise fun x y=>x.PE<y.PE) {p:Int} (h:∀x,x.PE=p→(x∈S↔x∈S')):B7 S p=B7 S' p:=by
 cases hs:B7 S p with
 | none=>symm;rw [Ey];intro x hx e;exact Ey.1 hs x ((h x e).2 hx) e
 | some x=>obtain ⟨h1,h2⟩:=IK hs;have:=Gk E ((h x h2).1 h1);rw [h2] at this;exact this.symm
theorem Yq {S:List SX} (hu:S.Pairwise fun x y=>x.PE<y.PE) {j:Nat} {x y:SX} (hj:S[j]?=some x) (hy:y.PE=x.PE) (q:Int):B7 (S.set j y) q=if q=x.PE then some y else B7 S q:=by
 have hm:∀z,z∈S.set j y↔z=y∨z∈S∧z.PE≠x.PE:=fun z=>K5 hu hj y;cases hs:B7 (S.set j y) q with
 | none=>have h0:=Ey.1 hs;have hq:q≠x.PE:=fun e=>h0 y ((hm y).2 (.inl rfl)) (by rw [hy,e]);rw [if_neg hq];symm;rw [Ey];intro z hz e;exact h0 z ((hm z).2 (.inr ⟨hz,by rw [e];exact hq⟩)) e
 | some z=>
   obtain ⟨h1,h2⟩:=IK hs;rcases (hm z).1 h1 with rfl | ⟨hz,hne⟩
   ·rw [if_pos (by rw [←h2,hy])]
   ·rw [if_neg (by rw [←h2];exact hne),←h2,Gk hu hz]
theorem TV {n:NO} (hu:n.DK.DI.SD.Pairwise fun x y=>x.PE<y.PE) {p:Int} {x:SX} (h:B7 n.DK.DI.SD p=some x):∃j,BQ n p=some (j,x)∧n.DK.DI.SD[j]?=some x∧x.PE=p:=by
 obtain ⟨h1,h2⟩:=IK h;cases hs:BQ n p with
 | none=>exact absurd h2 (bG (cB hs) x h1)
 | some q=>obtain ⟨j,y⟩:=q;obtain ⟨_,h4,h5⟩:=K6 hs;have:y=x:=LH hu (List.mem_of_getElem? h4) h1 Om;subst this;exact ⟨j,rfl,h4,h2⟩
theorem wX {n:NO} {p:Int} (h:B7 n.DK.DI.SD p=none):BQ n p=none:=by
 cases hs:BQ n p with
 | none=>rfl
 | some q=>obtain ⟨j,y⟩:=q;obtain ⟨_,h4,h5⟩:=K6 hs;exact absurd h5 (Ey.1 h y (List.mem_of_getElem? h4))
theorem nN {A:List KE} {k:KE} (h:DC A k.PE=none) (q:Int):DC (A++[k]) q=if q=k.PE then some k.EP else DC A q:=by
 unfold DC at h ⊢;rw [List.find?_append];by_cases e:q=k.PE
 ·rw [if_pos e];subst e;rw [Option.map_eq_none_iff] at h;rw [h];simp
 ·rw [if_neg e];have:([k].find? fun z=>decide (z.PE=q))=none:=by simp;exact fun q'=>e q'.symm
  rw [this,Option.or_none]
theorem wq {n:NO} (h:OkN n) {p:Int} {m:Msg} {v':Vw} (hp:0≤p∧p≠n.DK.DI.ID) (he:m.EP≤65535) (g:GtE (decide (n.DK.DI.ID<p)) (Az n p) m v'):
  (Bc n p m).1=0∧Az (Bc n p m).2.1 p=v'∧∀q,q≠p→Az (Bc n p m).2.1 q=Az n q:=by
 have hu:=h.dr.din.up;cases g with
 | fit x ht hs hq hl=>
   obtain ⟨j,h1,h2,h3⟩:=TV hu hs;have hk:Eb m=true:=by unfold Eb;exact DT ht.1
   have hf:Hg (BQ n p) m=true:=by rw [h1];exact DT hq
   have hl':BF m.KI (xO (BQ n p))=false:=by rw [h1];exact hl
   have eg:Bc n p m=(0,Jh n j x m.KI,[]):=by unfold Bc;rw [if_neg (by rw [ht.2];simp),if_pos hk,if_pos hf,if_neg (by rw [hl'];simp),h1];rfl
   have es:=Yq hu h2 (I9 m.KI x).1;rw [eg];refine ⟨rfl,?_,fun q hq'=>?_⟩
   ·unfold Jh Az;dsimp only;rw [es,if_pos h3.symm]
   ·unfold Jh Az;dsimp only;rw [es,if_neg (by rw [h3];exact hq')]
 | old ht hs=>
   have hk:Eb m=true:=by unfold Eb;exact DT ht.1
   have hf:Hg (BQ n p) m=false:=by
    cases h9:B7 n.DK.DI.SD p with
    | none=>rw [wX h9];rfl
    | some x=>obtain ⟨j,h1,_,_⟩:=TV hu h9;rw [h1];exact DN (hs x h9)
   have eg:Bc n p m=(0,n,[]):=by unfold Bc;rw [if_neg (by rw [ht.2];simp),if_pos hk,if_neg (by rw [hf];simp)]
   rw [eg];exact ⟨rfl,rfl,fun _ _=>rfl⟩
 | new h6 hm hs hkn hA=>
   have hk:Eb m=false:=by unfold Eb;rw [hm.1];decide
   have hlt:p<n.DK.DI.ID:=by simp at h6;omega
   have hB:Fj n ⟨p,m.EP⟩=true:=(aW _ _).2 ⟨Ey.1 hs,hp.1,hlt,hkn,he⟩;have hd:EG (n.AK++[⟨p,m.EP⟩])=true:=by unfold EG;rw [decide_eq_true_eq,List.map_append,List.nodup_append];refine ⟨h.dis,by simp,fun a ha b hb=>?_⟩;obtain ⟨k,hk',rfl⟩:=List.mem_map.1 ha;simp at hb;rw [hb];exact dA.1 hA k hk'
   have eg:Bc n p m=(0,LT n ⟨p,m.EP⟩,[]):=by unfold Bc;rw [if_neg (by rw [hm.2];simp),if_neg (by rw [hk];simp),if_pos hm.1,if_pos ⟨hB,hd⟩]
   have ea:=nN (k:=⟨p,m.EP⟩) hA;rw [eg];refine ⟨rfl,?_,fun q hq'=>?_⟩
   ·unfold LT Az;dsimp only;rw [ea,if_pos rfl,show B7 n.DK.DI.SD p=none from hs]
   ·unfold LT Az;dsimp only;rw [ea,if_neg hq']
 | known x h6 hm hs hq h8 hC=>
   obtain ⟨j,h1,h2,h3⟩:=TV hu hs;have hk:Eb m=false:=by unfold Eb;rw [hm.1];decide
   have hi:E0 (BQ n p) m 1=true:=by rw [h1];unfold E0;simp [hq,h8]
   have htl':p∈n.TL:=by simpa [Az] using hC
   have eg:Bc n p m=(0,Ig n j x,[⟨6,n.DK.DI.ID,0,p,[]⟩]):=by unfold Bc;rw [if_neg (by rw [hm.2];simp),if_neg (by rw [hk];simp),if_neg (by rw [hm.1];decide),if_pos hm.1,if_pos ⟨hi,htl'⟩,h1];rfl
   have es:=Yq hu h2 (y:= {x with SS:=0}) rfl;have hw:∀q,q∈(Bm n.TL).filter (fun z=>!decide (z∈ [x.PE]))↔q∈n.TL∧q≠p:=fun q=>by rw [List.mem_filter,(DO n.TL).2];simp [h3]
   rw [eg];refine ⟨rfl,?_,fun q hq'=>?_⟩
   ·unfold Ig Az;dsimp only;rw [es,if_pos h3.symm,DN (fun e=>((hw p).1 e).2 rfl)]
   ·unfold Ig Az;dsimp only;rw [es,if_neg (by rw [h3];exact hq'),decide_eq_decide.2 ((hw q).trans ⟨fun e=>e.1,fun e=>⟨e,hq'⟩⟩)]
 | close x h6 hm hs hq h8=>
   obtain ⟨j,h1,h2,h3⟩:=TV hu hs;have hk:Eb m=false:=by unfold Eb;rw [hm.1];decide
   have hi:E0 (BQ n p) m 0=true:=by rw [h1];unfold E0;simp [hq,h8]
   have hlt:p<n.DK.DI.ID:=by simp at h6;omega
   have eg:Bc n p m=(0,Bp n j x,Ez n p):=by unfold Bc;rw [if_neg (by rw [hm.2];simp),if_neg (by rw [hk];simp),if_neg (by rw [hm.1];decide),if_neg (by rw [hm.1];decide),if_pos hm.1,if_pos ⟨hi,hlt⟩,h1];rfl
   have es:=Yq hu h2 (y:= {x with SS:=2}) rfl;rw [eg];have esd:(Bp n j x).DK.DI.SD=n.DK.DI.SD.set j {x with SS:=2}:=by unfold Bp;split<;>rfl
   refine ⟨rfl,?_,fun q hq'=>?_⟩
   ·unfold Az;dsimp only;rw [esd,es,if_pos h3.symm];rfl
   ·unfold Az;dsimp only;rw [esd,es,if_neg (by rw [h3];exact hq')];rfl
 | closed x h6 hm hs hq h8=>
   obtain ⟨j,h1,h2,h3⟩:=TV hu hs;have hk:Eb m=false:=by unfold Eb;rw [hm.1];decide
   have hi:E0 (BQ n p) m 3=true:=by rw [h1];unfold E0;simp [hq,h8]
   have eg:Bc n p m=(0,I3 n p,[⟨8,n.DK.DI.ID,0,p,[]⟩]):=by unfold Bc;rw [if_neg (by rw [hm.2];simp),if_neg (by rw [hk];simp),if_neg (by rw [hm.1];decide),if_neg (by rw [hm.1];decide),if_neg (by rw [hm.1];decide),if_pos hm.1,if_pos hi]
   rw [eg];refine ⟨rfl,?_,fun q hq'=>?_⟩
   ·unfold I3 Az;dsimp only;rw [Ey.2 (fun z hz=>by simpa using (List.mem_filter.1 hz).2)]
   ·unfold I3 Az;dsimp only;rw [wn hu (p:=q) fun z hz=>by rw [List.mem_filter];simp [hz,hq']]
def me (id:Int) (a:Do) (q:Int) (v v':Vw):Prop:=v'=v∨(id<q∧(a.KI=4∧a.PE=q)∧v.sd=none∧∃x,x.SS=1∧HJ x∧x.EP=v.kn+1∧v'=⟨some x,v.kn+1,false,v.ak⟩)∨((id<q∧a.PE=q)∧∃x,v.sd=some x∧x.SS=0∧v'=⟨some {x with SS:=2},v.kn,v.tl,v.ak⟩)
theorem cm {n:NO} (h:OkN n) {a:Do} (h0:(B9 n a).1=0) (q:Int):me n.DK.DI.ID a q (Az n q) (Az (B9 n a).2.1 q):=by
 have hu:=h.dr.din.up;revert h0;unfold B9;split
 ·intro h0;left;unfold CF
  (repeat' split)<;>rfl
 ·split
  ·rename_i h8;split
   ·rename_i hp;cases h6:C7 n.DK.DI.SD a.PE with
    | some j=>intro h0;simp at h0
    | none=>
      dsimp only;split
      ·intro _;have hn:=bG h6;have es:B7 (Cy n.DK.DI.SD (addS n a.PE)) q=if q=a.PE then some (addS n a.PE) else B7 n.DK.DI.SD q:=kZ hn q
       have ek:BR (D9 n.KN (addS n a.PE).PE (addS n a.PE).EP) q=if q=a.PE then BR n.KN a.PE+1 else BR n.KN q:=Uw h.kup a.PE (BR n.KN a.PE+1) q
       by_cases e:q=a.PE
       ·subst e;right;left;refine ⟨hp.1,⟨h8,rfl⟩,Ey.2 hn,addS n a.PE,rfl,⟨rfl,rfl,rfl,rfl⟩,rfl,?_⟩;unfold HM Az;dsimp only;rw [es,ek,if_pos rfl,if_pos rfl,DN (fun ht=>by obtain ⟨x,hx,_,e⟩:=h.tin a.PE ht;exact hn x hx e)]
       ·left;unfold HM Az;dsimp only;rw [es,ek,if_neg e,if_neg e]
      ·intro h0;simp at h0
   ·intro h0;simp at h0
  ·split
   ·split
    ·rename_i hp;cases h6:C7 n.DK.DI.SD a.PE with
     | none=>intro h0;simp at h0
     | some j=>
       obtain ⟨x,hx,hw⟩:=Lu h6;dsimp only;rw [hx];dsimp only;split
       ·rename_i h9;intro _;have es:=Yq hu hx (y:= {x with SS:=2}) rfl q;have esd:(Bp n j x).DK.DI.SD=n.DK.DI.SD.set j {x with SS:=2}:=by unfold Bp;split<;>rfl
        by_cases e:q=x.PE
        ·right;right;refine ⟨Om,x,?_,h9,?_⟩
         ·rw [e];exact Gk hu (List.mem_of_getElem? hx)
         ·unfold Az;dsimp only;rw [esd,es,if_pos e];rfl
        ·left;unfold Az;dsimp only;rw [esd,es,if_neg e];rfl
       ·intro h0;simp at h0
    ·intro h0;simp at h0
   ·intro h0;simp at h0
theorem LsE.still {lo:Bool} {v v':Vw} {o:List Msg} (s:LsE lo v o v') (h:v.sd=none∧v.ak=none):o=[]∧v'.sd=none∧v'.ak=none:=by
 induction s with
 | nil v=>exact ⟨rfl,h⟩
 | fire v x x' o hs=>rw [h.1] at hs;simp at hs
 | tell v x _ hs=>rw [h.1] at hs;simp at hs
 | leave v x _ hs=>rw [h.1] at hs;simp at hs
 | drop v x _ hs=>rw [h.1] at hs;simp at hs
 | answer v x e _ _ hk=>rw [h.2] at hk;simp at hk
 | trans v v' v'' o p _ _ ih1 ih2=>obtain ⟨a1,a2⟩:=ih1 h;obtain ⟨b1,b2⟩:=ih2 a2;exact ⟨by rw [a1,b1];rfl,b2⟩
def CQ (M:List ML) (a b:Int):List Msg:=(M.filter fun m=>decide (m.From=a)&&decide (m.To=b)).map (·.Msg)
theorem Tr (M L:List ML) (a b:Int):CQ (M++L) a b=CQ M a b++CQ L a b:=by simp [CQ]
theorem gR {L:List ML} {k:Int} (h:∀m∈L,m.From=k) (a b:Int):CQ L a b=if a=k then Ce b L else []:=by
 unfold CQ Ce;by_cases e:a=k
 ·rw [if_pos e];congr 1;apply List.filter_congr;intro m hm;rw [h m hm,e];simp
 ·rw [if_neg e,List.filter_eq_nil_iff.2 (fun m hm=>by rw [h m hm];simp;intro e';exact absurd e'.symm e)];rfl
def PI (N:List NO) (M:List ML):Prop:=∀(i k:Nat) (a b:NO),i<k→N[i]?=some a→N[k]?=some b→EI (Az a k) (Az b i) (CQ M i k) (CQ M k i)
def YR (N:List NO):Prop:=∀(i:Nat) (a:NO),N[i]?=some a→∀q:Int,¬(0≤q∧q<N.length)→(Az a q).sd=none∧(Az a q).ak=none
structure HI (h:HL):Prop where
 ok:HallOK h
 pi:PI h.NS h.ML
 no:YR h.NS
theorem Fw {α:Type} {N:List α} {k:Nat} {n:α} (hn:N[k]?=some n) (m:α) (i:Nat):(N.set k m)[i]?=if i=k then some m else N[i]?:=by
 have hlt:=(List.getElem?_eq_some_iff.1 hn).1;rw [List.getElem?_set];by_cases e:k=i
 ·subst e;simp [hlt]
 ·rw [if_neg e,if_neg (fun q=>e q.symm)]
theorem PI.move {N:List NO} {M:List ML} (h:PI N M) {k:Nat} {n m:NO} {L:List ML} (hn:N[k]?=some n) (E:∀x∈L,x.From=(k:Int)) (hs:∀q:Int,LsE (decide ((k:Int)<q)) (Az n q) (Ce q L) (Az m q)):PI (N.set k m) (M++L):=by
 intro i j a b h6 ha hb;rw [Fw hn] at ha hb;rw [Tr,Tr,gR E,gR E];by_cases e1:i=k
 ·subst e1;rw [if_pos rfl] at ha;cases ha;rw [if_neg Om] at hb;rw [if_pos rfl,if_neg Om,List.append_nil];have h1:=h i j n b h6 hn hb;have h2:=hs j;rw [DT Om] at h2;exact h1.lo h2
 ·rw [if_neg e1] at ha;by_cases e2:j=k
  ·subst e2;rw [if_pos rfl] at hb;cases hb;rw [if_neg Om,if_pos rfl,List.append_nil];have h1:=h i j a n h6 ha hn;have h2:=hs i;rw [DN Om] at h2;exact h1.hi h2
  ·rw [if_neg e2] at hb;rw [if_neg Om,if_neg Om,List.append_nil,List.append_nil];exact h i j a b h6 ha hb
theorem PI.rest {N:List NO} {M:List ML} {k:Nat} {n m:NO} (hn:N[k]?=some n) (h:PI (N.set k m) M) (hm:OkN m) (h6:m.DK.DI.ID=k) (V:List EV):PI (N.set k (BE m [] V).1) (M++(BE m [] V).2.1):=by have h1:=h.move (k:=k) (n:=m) (m:=(BE m [] V).1) (L:=(BE m [] V).2.1) (by rw [Fw hn,if_pos rfl]) (fun x hx=>by rw [←h6];exact (jS hm x hx).1) (fun q=>by have:=l7 hm V q;rw [h6] at this;exact this);rw [List.set_set] at h1;exact h1
theorem EI.ep {a b:Vw} {ab ba:List Msg} (h:EI a b ab ba):(∀m∈ab,m.EP≤a.kn)∧∀m∈ba,m.EP≤a.kn:=by
 have le1:∀ {l:List Msg},Bq (a.kn-1) l→∀m∈l,m.EP≤a.kn:=fun hl m hm=>by have:=(hl m hm).2;omega
 have le0:∀ {l:List Msg},Bq a.kn l→∀m∈l,m.EP≤a.kn:=fun hl m hm=>(hl m hm).2;cases h with
 | no ha hb hk hle h1 h2=>exact ⟨le0 h1,le0 h2⟩
 | op x ha hx hn he ht hb hk hlt h1 h2=>exact ⟨le1 h1,le1 h2⟩
 | nw x u ha hx hn he ht hb hk hlt hab h1 h2=>
   refine ⟨fun m hm=>?_,le1 h2⟩;rw [hab,List.mem_append,List.mem_singleton] at hm;rcases hm with hm | rfl
   ·exact le1 h1 m hm
   ·exact Int.le_refl _
 | sk x ha hx hn he ht hb hk hlt h1 h2=>exact ⟨le1 h1,le1 h2⟩
 | kw x y u w ha hx hn he ht hb hy hf hk hkn hba h1 h2 h3 ho=>
   refine ⟨le1 h3,fun m hm=>?_⟩;rw [hba,List.mem_append,List.mem_cons] at hm;rcases hm with hm | rfl | hm
   ·exact le1 h1 m hm
   ·exact Int.le_refl _
   ·exact le0 h2 m hm
 | lv x y ha hx he hb hy hf hk hkn h1 h2 ho=>exact ⟨le0 h1,le0 h2⟩
 | cl x y u w ha hx he hb hy hf hk hkn hab h1 h3 h2 ho=>
   refine ⟨fun m hm=>?_,le0 h2⟩;rw [hab,List.mem_append,List.mem_cons] at hm;rcases hm with hm | rfl | hm
   ·exact le0 h1 m hm
   ·exact Int.le_refl _
   ·exact le0 h3 m hm
 | lg x y ha hx he hb hy hf hk hkn h1 h2 ho=>exact ⟨le0 h1,le0 h2⟩
 | cd x u ha hx he hb hk hkn hba h1 h2 ho=>
   refine ⟨le0 h1,fun m hm=>?_⟩;rw [hba,List.mem_append,List.mem_singleton] at hm;rcases hm with hm | rfl
   ·exact le0 h2 m hm
   ·exact Int.le_refl _
theorem PI.both {N:List NO} {M:List ML} (h:PI N M) {i k:Nat} {a b:NO} {x y:SX} (h6:i≠k) (ha:N[i]?=some a) (hb:N[k]?=some b) (hx:B7 a.DK.DI.SD k=some x) (hy:B7 b.DK.DI.SD i=some y):
  x.EP=y.EP∧∀q,Hk q→bn (BF q x)+bn (BF q y)+CY q x.EP (CQ M i k)+CY q x.EP (CQ M k i)=1:=by
 rcases Nat.lt_or_gt_of_ne h6 with hlt | hlt
 ·exact (h i k a b hlt ha hb).one hx hy
 ·obtain ⟨e,h1⟩:=(h k i b a hlt hb ha).one hy hx;refine ⟨e.symm,fun q hq=>?_⟩;have:=h1 q hq;rw [e] at this;omega
theorem gQ {M:List ML} {a b:Int} {i:Nat} (hi:(M.findIdx? fun m=>decide (m.From=a)&&decide (m.To=b))=some i) {m:ML} (hm:M[i]?=some m):
  m.From=a∧m.To=b∧CQ M a b=m.Msg::CQ (M.take i++M.drop (i+1)) a b∧∀c d:Int,¬(c=a∧d=b)→CQ M c d=CQ (M.take i++M.drop (i+1)) c d:=by
 rw [List.findIdx?_eq_some_iff_getElem] at hi;obtain ⟨h6,hp,hq⟩:=hi;have em:M[i]=m:=by rw [List.getElem?_eq_getElem h6] at hm;exact Option.some.inj hm
 rw [em] at hp;simp only [Bool.and_eq_true,decide_eq_true_eq] at hp;have eM:M=M.take i++m::M.drop (i+1):=by rw [←em,List.getElem_cons_drop,List.take_append_drop]
 have e0:∀c d,CQ M c d=CQ (M.take i) c d++CQ (m::M.drop (i+1)) c d:=fun c d=>by rw [←Tr,←eM]
 have e1:∀c d,CQ (m::M.drop (i+1)) c d=(if m.From=c∧m.To=d then [m.Msg] else [])++CQ (M.drop (i+1)) c d:=fun c d=>by
  unfold CQ;rw [List.filter_cons];by_cases e:m.From=c∧m.To=d
  ·simp [e]
  ·rw [if_neg (by simpa using e),if_neg e];rfl
 have e2:CQ (M.take i) a b=[]:=by
  unfold CQ;rw [List.filter_eq_nil_iff.2]
  ·rfl
  ·intro x hx;obtain ⟨j,hj⟩:=List.mem_iff_getElem?.1 hx;rw [List.getElem?_take] at hj;split at hj
   ·rename_i h8;have:=hq j h8;rw [List.getElem?_eq_getElem Om] at hj;rw [←Option.some.inj hj];simpa using this
   ·simp at hj
 refine ⟨hp.1,hp.2,?_,fun c d h9=>?_⟩
 ·rw [e0,e1,if_pos hp,e2,Tr,e2];rfl
 ·rw [e0,e1,if_neg (fun e=>h9 ⟨e.1.symm.trans hp.1,e.2.symm.trans hp.2⟩),Tr];rfl
theorem uC {n:NO} (h:OkN n) (V:List EV):(BE n [] V).1.DK.DI.ID=n.DK.DI.ID:=Lw (P:=fun m _ _=>m.DK.DI.ID=n.DK.DI.ID) (fun m _ _ _ hP=>(TB m).trans hP) h rfl
theorem HI.rest {h:HL} {M:List ML} {k:Nat} {n m:NO} {V:List EV} (hk:HallOK h) (hB:YR h.NS) (hn:h.NS[k]?=some n) (hC:PI (h.NS.set k m) M) (hm:OkN m) (h9:m.DK.DI.ID=k)
  (hw:∀q:Int,¬(0≤q∧q<h.NS.length)→(Az m q).sd=none∧(Az m q).ak=none) (hM:∀x∈M,x∈h.ML) (hl:h.ML.length+6000≤1000000) (hD:M.length≤h.ML.length):
  HI ⟨h.NS.set k (BE m [] V).1,M++(BE m [] V).2.1⟩∧(BE m [] V).2.1.length≤6000:=by
 have hlt:=(List.getElem?_eq_some_iff.1 hn).1;have hA:=(bS hm [] V).1;simp only [List.length_nil] at hA;have h6:=fun q=>l7 hm V q;refine ⟨⟨⟨fun i x hx=>?_,by dsimp only;rw [List.length_set];exact hk.len,fun x hx=>?_,by dsimp only;rw [List.length_append];omega⟩,hC.rest hn hm h9 V,fun i x hx q hq=>?_⟩,Om⟩
 ·dsimp only at hx;rw [Fw hn] at hx;split at hx
  ·rename_i e;cases hx;exact ⟨by rw [uC hm,h9,e],uD hm [] V⟩
  ·exact hk.nodes i x hx
 ·dsimp only at hx ⊢;rw [List.length_set];rcases List.mem_append.1 hx with hx | hx
  ·exact hk.mail x (hM x hx)
  ·obtain ⟨h1,h2,_⟩:=jS hm x hx;have h3:0≤x.To∧x.To<h.NS.length:=Classical.byContradiction fun hq=>by have:=((h6 x.To).still (hw x.To hq)).1;have h8:x.Msg∈Ce x.To (BE m [] V).2.1:=List.mem_map.2 ⟨x,List.mem_filter.2 ⟨hx,by simp⟩,rfl⟩;rw [this] at h8;simp at h8
   omega
 ·dsimp only at hx hq;rw [List.length_set] at hq;rw [Fw hn] at hx;split at hx
  ·cases hx;exact ((h6 q).still (hw q hq)).2
  ·exact hB i x hx q hq
theorem PI.act {N:List NO} {M:List ML} (h:PI N M) {k:Nat} {n:NO} {a:Do} (hn:N[k]?=some n) (hok:OkN n) (h9:n.DK.DI.ID=k) (h0:(B9 n a).1=0):PI (N.set k (B9 n a).2.1) M:=by
 have h6:=fun q=>cm hok h0 q;rw [h9] at h6;intro i j x y h8 hx hy;rw [Fw hn] at hx hy;by_cases e1:i=k
 ·subst e1;rw [if_pos rfl] at hx;cases hx;rw [if_neg Om] at hy;have hE:=h i j n y h8 hn hy;rcases h6 j with e | ⟨_,_,hs,z,hz,hw,hA,e⟩ | ⟨_,z,hs,hz,e⟩
  ·rw [e];exact hE
  ·rw [e];exact hE.add hs ⟨hz,hw,hA⟩
  ·rw [e];exact hE.shut hs hz
 ·rw [if_neg e1] at hx;by_cases e2:j=k
  ·subst e2;rw [if_pos rfl] at hy;cases hy;have hE:=h i j x n h8 hx hn;rcases h6 i with e | ⟨hlt,_⟩ | ⟨hlt,_⟩
   ·rw [e];exact hE
   ·omega
   ·omega
  ·rw [if_neg e2] at hy;exact h i j x y h8 hx hy
theorem HI.act {h:HL} (hh:HI h) {k:Nat} {n:NO} {a:Do} (hn:h.NS[k]?=some n) (E:a.KI=4→0≤a.PE∧a.PE<h.NS.length) (h0:(B9 n a).1=0) (hl:h.ML.length+6000≤1000000):
  HI ⟨h.NS.set k (BE (B9 n a).2.1 [] (B9 n a).2.2).1,h.ML++(BE (B9 n a).2.1 [] (B9 n a).2.2).2.1⟩∧(BE (B9 n a).2.1 [] (B9 n a).2.2).2.1.length≤6000:=by
 obtain ⟨h8,hok⟩:=hh.ok.nodes k n hn;obtain ⟨h1,h2,_,_,_,h6⟩:=Pa hok h0;have h9:=fun q=>cm hok h0 q;rw [h8] at h9;refine HI.rest hh.ok hh.no hn (hh.pi.act hn hok h8 h0) h1 (h2.trans h8) (fun q hq=>?_) (fun _ hx=>hx) hl (Nat.le_refl _)
 ·have h0':=hh.no k n hn q hq;rcases h9 q with e | ⟨_,⟨h4,hp⟩,_⟩ | ⟨_,z,hs,_⟩
  ·rw [e];exact h0'
  ·exact absurd (hp ▸ E h4) hq
  ·rw [h0'.1] at hs;simp at hs
theorem HI.get1 {h:HL} (hh:HI h) {a:Int} {k i:Nat} {n:NO} {m:ML} (hn:h.NS[k]?=some n) (hi:(h.ML.findIdx? fun m=>decide (m.From=a)&&decide (m.To=(k:Int)))=some i) (hm:h.ML[i]?=some m):
  ∃s:Nat,a=s∧s<h.NS.length∧s≠k∧∃v',GtE (decide ((k:Int)<s)) (Az n s) m.Msg v'∧(Bc n a m.Msg).1=0∧Az (Bc n a m.Msg).2.1 s=v'∧(∀q:Int,q≠s→Az (Bc n a m.Msg).2.1 q=Az n q)∧PI (h.NS.set k (Bc n a m.Msg).2.1) (h.ML.take i++h.ML.drop (i+1)):=by
 obtain ⟨hA,hok⟩:=hh.ok.nodes k n hn;obtain ⟨hf,ht,e1,e2⟩:=gQ hi hm;obtain ⟨m1,m2,m3,m4,m5⟩:=hh.ok.mail m (List.mem_of_getElem? hm);obtain ⟨s,hs⟩:∃s:Nat,a=s:=⟨a.toNat,Om⟩
 subst hs;obtain ⟨b,hb⟩:∃b,h.NS[s]?=some b:=⟨_,List.getElem?_eq_getElem Om⟩
 obtain ⟨hD,h9⟩:=hh.ok.nodes s b hb;have hw:s≠k:=by omega
 have Ap:∃v',GtE (decide ((k:Int)<s)) (Az n s) m.Msg v'∧m.Msg.EP≤65535∧(∀n':NO,Az n' s=v'→(∀q:Int,q≠s→Az n' q=Az n q)→PI (h.NS.set k n') (h.ML.take i++h.ML.drop (i+1))):=by
  have rest:∀(v':Vw) (n':NO),Az n' s=v'→(∀q:Int,q≠s→Az n' q=Az n q)→
    (s<k→EI (Az b k) v' (CQ (h.ML.take i++h.ML.drop (i+1)) s k) (CQ (h.ML.take i++h.ML.drop (i+1)) k s))→
    (k<s→EI v' (Az b k) (CQ (h.ML.take i++h.ML.drop (i+1)) k s) (CQ (h.ML.take i++h.ML.drop (i+1)) s k))→PI (h.NS.set k n') (h.ML.take i++h.ML.drop (i+1)):=by
   intro v' n' hv hq c1 c2 x y u w h6 hx hy;rw [Fw hn] at hx hy;by_cases ex:x=k
   ·subst ex;rw [if_pos rfl] at hx;cases hx;rw [if_neg Om] at hy;by_cases ey:y=s
    ·subst ey;rw [hb] at hy;cases hy;rw [hv];exact c2 h6
    ·rw [hq y Om,←e2 x y Om,←e2 y x Om];exact hh.pi x y n w h6 hn hy
   ·rw [if_neg ex] at hx;by_cases ey:y=k
    ·subst ey;rw [if_pos rfl] at hy;cases hy;by_cases ex2:x=s
     ·subst ex2;rw [hb] at hx;cases hx;rw [hv];exact c1 h6
     ·rw [hq x Om,←e2 x y Om,←e2 y x Om];exact hh.pi x y u n h6 hx hn
    ·rw [if_neg ey] at hy;rw [←e2 x y Om,←e2 y x Om];exact hh.pi x y u w h6 hx hy
  rcases Nat.lt_or_gt_of_ne hw with hlt | hlt
  ·have hE:=hh.pi s k b n hlt hb hn;have h8:=hE.ep.1;rw [e1] at hE h8;rw [e2 k s Om] at hE;obtain ⟨v',hg,hE'⟩:=hE.getHi;refine ⟨v',by rw [DN Om];exact hg,?_,fun n' hv hq=>rest v' n' hv hq (fun _=>hE') (fun hc=>Om)⟩;have:=h8 m.Msg (by simp);have:=(Pp h9.kup (fun x hx=>(h9.kr x hx).2.2) k).2;exact Int.le_trans ‹m.Msg.EP≤_› this
  ·have hE:=hh.pi k s n b hlt hn hb;have h8:=hE.ep.2;rw [e1] at hE h8;rw [e2 k s Om] at hE;obtain ⟨v',hg,hE'⟩:=hE.getLo;refine ⟨v',by rw [DT Om];exact hg,?_,fun n' hv hq=>rest v' n' hv hq (fun hc=>Om) (fun _=>hE')⟩;have:=h8 m.Msg (by simp);have:=(Pp hok.kup (fun x hx=>(hok.kr x hx).2.2) s).2;exact Int.le_trans ‹m.Msg.EP≤_› this
 obtain ⟨v',hg,hB,hC⟩:=Ap;have hg':=hg;rw [←hA] at hg;obtain ⟨g0,g1,g2⟩:=wq hok (p:=s) Om hB hg;exact ⟨s,rfl,Om,hw,v',hg',g0,g1,g2,hC _ g1 g2⟩
theorem HI.get {h:HL} (hh:HI h) {a:Int} {k i:Nat} {n:NO} {m:ML} (hn:h.NS[k]?=some n) (hi:(h.ML.findIdx? fun m=>decide (m.From=a)&&decide (m.To=(k:Int)))=some i) (hm:h.ML[i]?=some m) (hl:h.ML.length+6000≤1000000):
  (Bc n a m.Msg).1=0∧HI ⟨h.NS.set k (BE (Bc n a m.Msg).2.1 [] (Bc n a m.Msg).2.2).1,(h.ML.take i++h.ML.drop (i+1))++(BE (Bc n a m.Msg).2.1 [] (Bc n a m.Msg).2.2).2.1⟩∧
    (BE (Bc n a m.Msg).2.1 [] (Bc n a m.Msg).2.2).2.1.length≤6000:=by
 obtain ⟨h8,hok⟩:=hh.ok.nodes k n hn;obtain ⟨s,rfl,hs,_,v',_,g0,g1,g2,h9⟩:=hh.get1 hn hi hm;obtain ⟨h1,h2,_,h6⟩:=Pq hok g0;refine ⟨g0,?_⟩;refine HI.rest hh.ok hh.no hn h9 h1 (h2.trans h8) (fun q hq=>?_) (fun x hx=>?_) hl (by simp;omega)
 ·rw [g2 q Om];exact hh.no k n hn q hq
 ·rcases List.mem_append.1 hx with hx | hx
  ·exact List.mem_of_mem_take hx
  ·exact List.mem_of_mem_drop hx
theorem Pr {d:DK} (hg:BZ d) {D:DI} (E:∀x∈D.SD,x.PE∈d.NE→x.BO=true∨∃y∈d.DI.SD,y.PE=x.PE∧y.BO=x.BO):BZ ⟨D,d.TH,d.NE⟩:=fun h2 x hx hn=>by
 rcases E x hx hn with e | ⟨y,hy,e1,e2⟩
 ·exact e
 ·rw [←e2];exact hg h2 y hy (by rw [e1];exact hn)
theorem Zy {n:NO} (h:OkN n) (hg:BZ n.DK) {j:Nat} {x y:SX} (hx:n.DK.DI.SD[j]?=some x) (hp:y.PE=x.PE) (hb:x.BO=true→y.BO=true) (D:DI) (E:D.SD=n.DK.DI.SD.set j y):BZ ⟨D,n.DK.TH,n.DK.NE⟩:=fun h2 z hz hn=>by
 dsimp only at hz hn;rw [E] at hz;rcases (K5 h.dr.din.up hx y).1 hz with rfl | ⟨hz,_⟩
 ·exact hb (hg h2 x (List.mem_of_getElem? hx) (by rw [←hp];exact hn))
 ·exact hg h2 z hz hn
theorem fC {n:NO} (h:OkN n) (hg:BZ n.DK) {j:Nat} {x:SX} (hx:n.DK.DI.SD[j]?=some x):BZ (Bp n j x).DK:=by
 unfold Bp;dsimp only;split
 ·intro h2;simp at h2
 ·exact Zy h hg hx (y:= {x with SS:=2}) rfl (fun e=>e) _ rfl
theorem fx {n:NO} (h:OkN n) (hg:BZ n.DK) (a:Do):BZ (B9 n a).2.1.DK:=by
 have hc:∀b,BZ (IW n b).DK:=fun b h2=>by simp [IW] at h2
 unfold B9;split
 ·unfold CF
  (repeat' split)<;>first | exact hg | exact hc _
 ·split
  ·split
   ·cases h6:C7 n.DK.DI.SD a.PE with
    | some j=>exact hg
    | none=>
      dsimp only;split
      ·refine Pr hg fun x hx _=>?_;have hx:x∈Cy n.DK.DI.SD (addS n a.PE):=hx;rcases Fk.1 hx with rfl | hx
       ·exact .inl rfl
       ·exact .inr ⟨x,hx,rfl,rfl⟩
      ·exact hg
   ·exact hg
  ·split
   ·split
    ·cases h6:C7 n.DK.DI.SD a.PE with
     | none=>exact hg
     | some j=>
       obtain ⟨x,hx,_⟩:=Lu h6;dsimp only;rw [hx];dsimp only;split
       ·exact fC h hg hx
       ·exact hg
    ·exact hg
   ·exact hg
theorem fz {n:NO} (h:OkN n) (hg:BZ n.DK) (p:Int) (m:Msg):BZ (Bc n p m).2.1.DK:=by
 have h6:∀ {j:Nat} {x:SX},BQ n p=some (j,x)→n.DK.DI.SD[j]?=some x:=fun hs=>(K6 hs).2.1;unfold Bc;split
 ·exact hg
 ·split
  ·split
   ·rename_i hf;split
    ·exact hg
    ·cases hs:BQ n p with
     | none=>rw [hs] at hf;simp [Hg] at hf
     | some q=>
       obtain ⟨j,x⟩:=q;refine Zy h hg (h6 hs) (y:=CP m.KI x) (I9 _ _).1 (fun e=>?_) _ rfl;unfold CP
       (repeat' split)<;>first | exact e | rfl
   ·exact hg
  ·split
   ·split<;>exact hg
   ·split
    ·split
     ·rename_i hi;obtain ⟨j,x,hs,_⟩:=Gx hi.1;rw [hs];exact Zy h hg (h6 hs) (y:= {x with SS:=0}) rfl (fun e=>e) _ rfl
     ·exact hg
    ·split
     ·split
      ·rename_i hi;obtain ⟨j,x,hs,_⟩:=Gx hi.1;rw [hs];exact fC h hg (h6 hs)
      ·exact hg
     ·split
      ·split
       ·exact Pr hg fun x hx _=>.inr ⟨x,(List.mem_filter.1 hx).1,rfl,rfl⟩
       ·exact hg
      ·exact hg
theorem fA {n:NO} (h:OkN n) (hg:BZ n.DK):BZ (AN n).DK:=by
 have h1:BZ (AZ n).DK:=by
  unfold AZ;split
  ·exact hg
  ·refine Pr hg fun x hx hn=>?_;rcases Pc.1 hx with hx | ⟨k,hk,rfl⟩
   ·exact .inr ⟨x,hx,rfl,rfl⟩
   ·obtain ⟨z,hz,e⟩:=h.dr.has _ hn;exact absurd e ((h.may k hk).1 z hz)
 have h2:BZ (Bj n).DK:=by
  have:BZ (BM (AZ n)).DK:=by
   unfold BM CJ;dsimp only;split
   ·split
    ·intro h2;simp at h2
    ·exact h1
   ·exact h1
  exact this
 have h3:BZ (Aw n).DK:=fy h2;have h4:BZ (CI (AL (Aw n))).DK:=h3;unfold AN Ec;refine Pr h4 fun x hx _=>?_;obtain ⟨y,hy,hc⟩:=Tp hx;rcases hc with ⟨rfl,_⟩ | ⟨_,_,rfl⟩
 ·exact .inr ⟨x,hy,rfl,rfl⟩
 ·exact .inr ⟨y,hy,rfl,rfl⟩
theorem fB {n:NO} (h:OkN n) (hg:BZ n.DK) (V:List EV):BZ (BE n [] V).1.DK:=Lw (P:=fun m _ _=>BZ m.DK) (fun _ _ _ hm hP=>fA hm hP) h hg
def Eh (h:HL):Prop:=∀n∈h.NS,BZ n.DK
theorem Eh.set {h:HL} (hg:Eh h) {k:Nat} {m:NO} (hm:BZ m.DK) (M:List ML):Eh ⟨h.NS.set k m,M⟩:=fun n hn=>by
 rcases List.mem_or_eq_of_mem_set hn with hn | rfl
 ·exact hg n hn
 ·exact hm
def UK (n:NO) (q:Int):Prop:=∃s l,n.BK.SE=s::l∧s.SS=1∧q∈s.NE
theorem UL {n:NO} (h:OkN n) (hg:BZ n.DK) {q:Int} (hq:UK n q):∃x,B7 n.DK.DI.SD q=some x∧x.BO=true:=by obtain ⟨s,l,hs,h1,hn⟩:=hq;have h2:n.DK.TH=2:=h.th.2 ((F8 n).2 ⟨s,l,hs,h1⟩);obtain ⟨s',l',hs',_,he⟩:=h.drinks h2;rw [hs] at hs';obtain ⟨rfl,rfl⟩:=List.cons.inj hs';rw [he] at hn;obtain ⟨x,hx,e⟩:=h.dr.has q hn;refine ⟨x,?_,hg h2 x hx (by rw [e];exact hn)⟩;rw [←e];exact Gk h.dr.din.up hx
theorem HI.apart {h:HL} (hh:HI h) (hg:Eh h) {i k:Nat} {a b:NO} (h6:i<k) (ha:h.NS[i]?=some a) (hb:h.NS[k]?=some b) (h1:UK a k) (h2:UK b i):False:=by obtain ⟨x,hx,bx⟩:=UL (hh.ok.nodes i a ha).2 (hg a (List.mem_of_getElem? ha)) h1;obtain ⟨y,hy,by'⟩:=UL (hh.ok.nodes k b hb).2 (hg b (List.mem_of_getElem? hb)) h2;have:=(hh.pi i k a b h6 ha hb).one hx hy;have:=this.2 3 (.inr (.inr (.inl rfl)));simp [BF,bx,by',bn] at this;omega
theorem ZB {g:Graph} {k:Nat} {n:NO} (h:(DH g).NS[k]?=some n):(k:Int)<g.N∧n=Dn ⟨FY g (DX g) k,0,[]⟩:=by simp only [DH,Hc,K2,K8,List.getElem?_map,Option.map_eq_some_iff] at h;obtain ⟨d,⟨e,⟨a,ha,rfl⟩,rfl⟩,rfl⟩:=h;rw [List.getElem?_eq_some_iff] at ha;obtain ⟨hl,ha⟩:=ha;rw [List.getElem_range] at ha;simp only [List.length_range] at hl;subst ha;exact ⟨Om,rfl⟩
theorem l3 (c:List Int) (k:Int):∀(l:List Int) (p:Int),B7 (l.map (Dq c k)) p=if p∈l then some (Dq c k p) else none
 | [],p=>rfl
 | b::l,p=>by
   rw [List.map_cons,K3,l3 c k l p];by_cases e:b=p
   ·subst e;rw [if_pos (show (Dq c k b).PE=b from rfl),if_pos (by simp)]
   ·rw [if_neg (show ¬(Dq c k b).PE=p from e)];by_cases h:p∈l
    ·rw [if_pos h,if_pos (List.mem_cons_of_mem _ h)]
    ·rw [if_neg h,if_neg (by simp;exact ⟨fun q=>e q.symm,h⟩)]
theorem cY {g:Graph} (hg:Bd g=true) (E:g.N≤24) {k:Nat} {n:NO} (h:(DH g).NS[k]?=some n) (p:Int):
  Az n p=if p∈Be g k then ⟨some (Dq (DX g) k p),1,false,none⟩ else ⟨none,0,false,none⟩:=by
 have hok:=((fG hg E).nodes k n h).2;obtain ⟨hk,rfl⟩:=ZB h;unfold Az;have e1:B7 (Dn ⟨FY g (DX g) k,0,[]⟩).DK.DI.SD p=if p∈Be g k then some (Dq (DX g) k p) else none:=l3 _ _ _ _
 have e2:BR (Dn ⟨FY g (DX g) k,0,[]⟩).KN p=if p∈Be g k then 1 else 0:=by
  by_cases hp:p∈Be g k
  ·rw [if_pos hp];have hm:(⟨p,1⟩:KE)∈(Dn ⟨FY g (DX g) k,0,[]⟩).KN:=List.mem_map.2 ⟨Dq (DX g) k p,List.mem_map.2 ⟨p,hp,rfl⟩,rfl⟩;exact M7 hok.kup hm
  ·rw [if_neg hp];refine Uv fun q hq=>?_;obtain ⟨x,hx,rfl⟩:=List.mem_map.1 hq;obtain ⟨b,hb,rfl⟩:=List.mem_map.1 hx;intro e;have e:b=p:=e;exact hp (e ▸ hb)
 rw [e1,e2];by_cases hp:p∈Be g k
 ·simp only [if_pos hp];rfl
 ·simp only [if_neg hp];rfl
theorem rJ {g:Graph} (hg:Bd g=true) (E:g.N≤24):HI (DH g)∧Eh (DH g):=by
 have hk:=fG hg E;have h8:((DH g).NS.length:Int)=g.N:=by have:=Ui hg;simp only [DH,List.length_map];exact this
 refine ⟨⟨hk,fun i k a b h9 ha hb=>?_,fun i a ha q hq=>?_⟩,fun n hn=>?_⟩
 ·rw [cY hg E ha,cY hg E hb];have h6:(k:Int)∈Be g i↔(i:Int)∈Be g k:=⟨b8 hg,b8 hg⟩
  by_cases h:(k:Int)∈Be g i
  ·rw [if_pos h,if_pos (h6.1 h)];have hne:=uF hg (ew hg).1 h;refine .lv (Dq (DX g) i k) (Dq (DX g) k i) rfl (.inl rfl) rfl rfl rfl rfl rfl rfl (Bq.nil _) (Bq.nil _) (fun q hq=>?_);show bn (BF q (Dq (DX g) i k))+bn (BF q (Dq (DX g) k i))+0+0=1;rcases Int.lt_or_lt_of_ne hne with hc | hc
   ·rcases hq with rfl | rfl | rfl | rfl<;>simp [BF,Dq,bn,hc,Int.not_lt.2 (Int.le_of_lt hc)]
   ·rcases hq with rfl | rfl | rfl | rfl<;>simp [BF,Dq,bn,hc,Int.not_lt.2 (Int.le_of_lt hc)]
  ·rw [if_neg h,if_neg (fun e=>h (h6.2 e))];exact .no rfl rfl rfl (Int.le_refl _) (Bq.nil _) (Bq.nil _)
 ·rw [cY hg E ha,if_neg (fun h=>by have:=GX hg h;omega)];exact ⟨rfl,rfl⟩
 ·obtain ⟨k,hk'⟩:=List.mem_iff_getElem?.1 hn;obtain ⟨_,rfl⟩:=ZB hk';intro h2;simp [Dn] at h2
def bh (e:Int):Prop:=(170≤e∧e≤186)∨e=188∨e=191∨e=192
theorem tP (b:BK) (id:Int) (need:List Int):(DA b id need).2=0∨(170≤(DA b id need).2∧(DA b id need).2≤186):=by
 unfold DA
 (repeat' split)<;>simp
theorem qp (b:BK) (id E:Int):(C6 b id E).2=0∨(170≤(C6 b id E).2∧(C6 b id E).2≤186):=by
 unfold C6
 (repeat' split)<;>simp
theorem nG (n:NO) (a:Do):(B9 n a).1=0∨bh (B9 n a).1:=by
 have o1:=tP n.BK a.ID a.NE;have o2:=fun w=>qp n.BK a.ID w;unfold B9;split
 ·unfold CF;split
  ·split
   ·split
    ·exact .inl rfl
    ·exact .inr (.inl Om)
   ·rcases o1 with o1 | o1
    ·rename_i h;exact absurd o1 h
    ·exact .inr (.inl o1)
  ·split
   ·split
    ·exact .inl rfl
    ·rename_i h;rcases o2 1 with o | o
     ·exact absurd o h
     ·exact .inr (.inl o)
   ·split
    ·split
     ·exact .inl rfl
     ·rename_i h;rcases o2 0 with o | o
      ·exact absurd o h
      ·exact .inr (.inl o)
    ·split
     ·split<;>exact .inl rfl
     ·exact .inl rfl
 ·split
  ·split
   ·cases C7 n.DK.DI.SD a.PE with
    | some j=>exact .inr (.inl (by dsimp only;omega))
    | none=>
      dsimp only;split
      ·exact .inl rfl
      ·exact .inr (.inl (by dsimp only;omega))
   ·exact .inr (.inl (by dsimp only;omega))
  ·split
   ·split
    ·cases C7 n.DK.DI.SD a.PE with
     | none=>exact .inr (.inl (by dsimp only;omega))
     | some j=>
       dsimp only;split
       ·exact .inr (.inl (by dsimp only;omega))
       ·split
        ·exact .inl rfl
        ·exact .inr (.inl (by dsimp only;omega))
    ·exact .inr (.inl (by dsimp only;omega))
   ·exact .inr (.inr (.inl rfl))
def mK (h:HL) (T:HL→List EV→Prop) (x:HL) (V:List EV) (e:Int):Prop:=(e=0∧HI x∧T x V∧x.ML.length≤h.ML.length+6000∧x.NS.length=h.NS.length)∨(e≠0∧bh e)
def Ue (h:HL) (k:Nat) (n:NO) (a:Do):HL:=⟨h.NS.set k (BE (B9 n a).2.1 [] (B9 n a).2.2).1,h.ML++(BE (B9 n a).2.1 [] (B9 n a).2.2).2.1⟩
def UF (h:HL) (k i:Nat) (n:NO) (a:Int) (m:Msg):HL:=⟨h.NS.set k (BE (Bc n a m).2.1 [] (Bc n a m).2.2).1,(h.ML.take i++h.ML.drop (i+1))++(BE (Bc n a m).2.1 [] (Bc n a m).2.2).2.1⟩
theorem wi {h:HL} {s:narthexlaw19_Step} (hh:HI h) (T:HL→List EV→Prop) (hl:h.ML.length+6000≤1000000) (ha:s.Do.NE.length≤1000)
  (E:∀(k:Nat) (n:NO),h.NS[k]?=some n→(s.Do.KI=4→0≤s.Do.PE∧s.Do.PE<h.NS.length)→(B9 n s.Do).1=0→T (Ue h k n s.Do) (BE (B9 n s.Do).2.1 [] (B9 n s.Do).2.2).2.2)
  (J:∀(k i:Nat) (n:NO) (m:ML),h.NS[k]?=some n→(h.ML.findIdx? fun m=>decide (m.From=s.A)&&decide (m.To=(k:Int)))=some i→h.ML[i]?=some m→T (UF h k i n s.A m.Msg) (BE (Bc n s.A m.Msg).2.1 [] (Bc n s.A m.Msg).2.2).2.2):
  ∃x V e,Jx h s=some (x,V,e)∧mK h T x V e:=by
 have hk:=hh.ok;have hc:=Yl hk;cases hs:s.ML with
 | false=>
   have e0:Jx h s=(Js h s.A s.Do).bind fun x5=>some (x5.1,x5.2.1,x5.2.2):=by unfold Jx;rw [hs,Aa,B5 _ _ Om (by simp;omega),OB,List.nil_append]
   rw [e0];by_cases hA:0≤s.A∧s.A<h.NS.length
   ·by_cases hP:s.Do.KI=4→0≤s.Do.PE∧s.Do.PE<h.NS.length
    ·obtain ⟨k,rfl'⟩:∃k:Nat,s.A=k:=⟨s.A.toNat,Om⟩
     obtain ⟨n,hn⟩:∃n,h.NS[k]?=some n:=⟨_,List.getElem?_eq_getElem Om⟩
     obtain ⟨h6,hok⟩:=hk.nodes k n hn;have hr:=uL n s.Do hok ha;obtain ⟨e,m,V,hq⟩:∃e m V,B9 n s.Do=(e,m,V):=⟨_,_,_,rfl⟩
     have q1:(B9 n s.Do).1=e:=by rw [hq]
     have q2:(B9 n s.Do).2.1=m:=by rw [hq]
     have q3:(B9 n s.Do).2.2=V:=by rw [hq]
     rw [hq] at hr;dsimp only at hr;by_cases he:e=0
     ·subst he;obtain ⟨i1,i2⟩:=hh.act hn hP q1 hl;have i3:=E k n hn hP q1;unfold Ue at i3;rw [q2,q3] at i1 i2 i3;rw [rfl',kF hk hn hP hr (by rw [Ya];dsimp only;omega),OB];unfold Jc;rw [Ya];refine ⟨_,_,_,rfl,.inl ⟨rfl,i1,i3,by simp;omega,by simp⟩⟩
     ·rw [rfl',kF hk hn hP hr (by rw [jy he];simp),OB];unfold Jc;rw [jy he,if_neg he];refine ⟨_,_,_,rfl,.inr ⟨he,?_⟩⟩;rcases nG n s.Do with o | o
      ·rw [q1] at o;exact absurd o he
      ·rw [q1] at o;exact o
    ·refine ⟨Jb,[],191,?_,.inr ⟨by decide,.inr (.inr (.inl rfl))⟩⟩;unfold Js;have h8:s.Do.KI=4:=Classical.byContradiction fun h=>hP fun h'=>absurd h' h;rw [hc,OB,show (!decide ((0:Int)=0))=false by decide,Aa,Fr,OB,DT hA.1,DT hA.2,Bool.and_true,Bool.not_true,Aa,DT h8,Ag,Fr,OB,
      show (!(decide (0≤s.Do.PE)&&decide (s.Do.PE<(h.NS.length:Int))))=true by rw [Bool.not_eq_true',←Bool.not_eq_true];intro hh;simp at hh;exact hP fun _=>hh]
     rfl
   ·refine ⟨Jb,[],191,?_,.inr ⟨by decide,.inr (.inr (.inl rfl))⟩⟩;unfold Js;rw [hc,OB,show (!decide ((0:Int)=0))=false by decide,Aa,Fr,OB,show (!(decide (0≤s.A)&&decide (s.A<(h.NS.length:Int))))=true by rw [Bool.not_eq_true',←Bool.not_eq_true];intro hh;simp at hh;exact hA hh];rfl
 | true=>
   have e0:Jx h s=(Hr h s.A s.B).bind fun x5=>some (x5.1,x5.2.1,x5.2.2):=by unfold Jx;rw [hs,Ag]
   rw [e0];by_cases hA:0≤s.A∧s.A<h.NS.length
   ·by_cases hB:0≤s.B∧s.B<h.NS.length
    ·cases hi:(h.ML.findIdx? fun m=>decide (m.From=s.A)&&decide (m.To=s.B)) with
     | none=>exact ⟨Jb,[],192,by rw [vM hk hA hB hi];rfl,.inr ⟨by decide,.inr (.inr (.inr rfl))⟩⟩
     | some i=>
       obtain ⟨k,rfl'⟩:∃k:Nat,s.B=k:=⟨s.B.toNat,Om⟩
       obtain ⟨n,hn⟩:∃n,h.NS[k]?=some n:=⟨_,List.getElem?_eq_getElem Om⟩
       have h9:i<h.ML.length:=by rw [List.findIdx?_eq_some_iff_getElem] at hi;exact hi.1
       obtain ⟨m,hm'⟩:∃m,h.ML[i]?=some m:=⟨_,List.getElem?_eq_getElem h9⟩
       obtain ⟨h6,hok⟩:=hk.nodes k n hn;have hr:=v7 n s.A m.Msg hok;rw [rfl'] at hi;obtain ⟨g0,i1,i2⟩:=hh.get hn hi hm' hl;have i3:=J k i n m hn hi hm';unfold UF at i3;rw [g0] at hr;rw [rfl',vL hk hA hn hi hm' hr (by rw [Ya];dsimp only;omega),OB];unfold Jc;rw [Ya];refine ⟨_,_,_,rfl,.inl ⟨rfl,i1,i3,by simp;omega,by simp⟩⟩
    ·refine ⟨Jb,[],191,?_,.inr ⟨by decide,.inr (.inr (.inl rfl))⟩⟩;unfold Hr;rw [hc,OB,show (!decide ((0:Int)=0))=false by decide,Aa,Fr,OB,DT hA.1,DT hA.2,Bool.and_true,Bool.not_true,Aa,Fr,OB,show (!(decide (0≤s.B)&&decide (s.B<(h.NS.length:Int))))=true by rw [Bool.not_eq_true',←Bool.not_eq_true];intro hh;simp at hh;exact hB hh];rfl
   ·refine ⟨Jb,[],191,?_,.inr ⟨by decide,.inr (.inr (.inl rfl))⟩⟩;unfold Hr;rw [hc,OB,show (!decide ((0:Int)=0))=false by decide,Aa,Fr,OB,show (!(decide (0≤s.A)&&decide (s.A<(h.NS.length:Int))))=true by rw [Bool.not_eq_true',←Bool.not_eq_true];intro hh;simp at hh;exact hA hh];rfl
theorem Eh.acts {h:HL} (hg:Eh h) (hh:HI h) {k:Nat} {n:NO} {a:Do} (hn:h.NS[k]?=some n) (h0:(B9 n a).1=0):Eh (Ue h k n a):=by have hok:=(hh.ok.nodes k n hn).2;exact hg.set (fB (Pa hok h0).1 (fx hok (hg n (List.mem_of_getElem? hn)) a) _) _
theorem Eh.gets {h:HL} (hg:Eh h) (hh:HI h) {k i:Nat} {n:NO} {m:ML} {a:Int} (hn:h.NS[k]?=some n) (hi:(h.ML.findIdx? fun m=>decide (m.From=a)&&decide (m.To=(k:Int)))=some i) (hm:h.ML[i]?=some m):Eh (UF h k i n a m.Msg):=by have hok:=(hh.ok.nodes k n hn).2;obtain ⟨s,rfl,_,_,_,_,g0,_⟩:=hh.get1 hn hi hm;exact hg.set (fB (Pq hok g0).1 (fz hok (hg n (List.mem_of_getElem? hn)) _ m.Msg) _) _
theorem gu {σ τ β:Type} (n:Nat) (body:τ→Option (τ ⊕ β)) (st:Nat→σ→τ) (I:Nat→σ→Prop) (Q:β→Prop)
  (hb:∀k s,k<n→I k s→(∃s',body (st k s)=some (.inl (st (k+1) s'))∧I (k+1) s')∨∃r,body (st k s)=some (.inr r)∧Q r) (he:∀s,I n s→∃r,body (st n s)=some (.inr r)∧Q r):
  ∀s,I 0 s→∃r,loop body (st 0 s)=some r∧Q r:=by
 have Ap:∀m k s,m+k=n→I k s→∃r,loop body (st k s)=some r∧Q r:=by
  intro m;induction m with
  | zero=>
    intro k s hk hs;have:k=n:=by omega
    subst this;obtain ⟨r,h1,h2⟩:=he s hs;exact ⟨r,by rw [Bn,h1],h2⟩
  | succ m ih=>
    intro k s hk hs;rcases hb k s Om hs with ⟨s1,h1,h2⟩ | ⟨r,h1,h2⟩
    ·obtain ⟨r,h3,h4⟩:=ih (k+1) s1 Om h2;exact ⟨r,by rw [Bn,h1];exact h3,h4⟩
    ·exact ⟨r,by rw [Bn,h1],h2⟩
 exact fun s hs=>Ap n 0 s rfl hs
theorem vW {e:Int} (h:bh e):R9 e=some true:=by
 unfold R9;rcases h with ⟨h1,h2⟩ | rfl | rfl | rfl
 ·rw [DT h1,Ag,DT h2];rfl
 ·rfl
 ·rfl
 ·rfl
theorem wh (g:Graph) (l:List narthexlaw19_Step):∃z,R5 g l=some z∧(z=true→Bd g=true∧g.N≤6∧l.length≤80∧∀s∈l,s.Do.NE.length≤20):=by
 have fin:∀k:Nat,(∀(i:Nat) s,i<k→l[i]?=some s→s.Do.NE.length≤20)→(l.length≤k∨81≤k)→∃z,R6 g l ()=some z∧(z=true→Bd g=true∧g.N≤6∧l.length≤80∧∀s∈l,s.Do.NE.length≤20):=by
  intro k hk hl;have all:l.length≤80→∀s∈l,s.Do.NE.length≤20:=fun h8 s hs=>by obtain ⟨i,hi⟩:=List.mem_iff_getElem?.1 hs;have:=(List.getElem?_eq_some_iff.1 hi).1;exact hk i s Om hi
  dsimp only [R6];rw [w6,OB,AX];cases hg:Bd g with
  | false=>exact ⟨false,rfl,fun e=>by simp at e⟩
  | true=>
    rw [Ag];by_cases h6:g.N≤6
    ·rw [DT h6,Ag];exact ⟨_,rfl,fun e=>by have e:=of_decide_eq_true e;exact ⟨rfl,h6,Om,all Om⟩⟩
    ·rw [DN h6];exact ⟨false,rfl,fun e=>by simp at e⟩
 unfold R5;refine gu (σ:=Unit) 81 (R8 g l) (fun k _=>(k:Int)) (fun k _=>∀(i:Nat) s,i<k→l[i]?=some s→s.Do.NE.length≤20) (fun z=>z=true→Bd g=true∧g.N≤6∧l.length≤80∧∀s∈l,s.Do.NE.length≤20) (fun k _ hk hI=>?_) (fun _ hI=>?_) () (fun i s hi=>Om)
 ·dsimp only [R8];cases hx:l[k]? with
  | none=>right;have hle:=List.getElem?_eq_none_iff.1 hx;obtain ⟨z,hz,hq⟩:=fin k hI (.inl hle);refine ⟨z,?_,hq⟩;rw [AX,DN Om,Aa];dsimp only [GS];rw [Aa,hz];rfl
  | some s=>
    rw [AQ hx,Ag,DT Om];dsimp only [GS];rw [Ag,Ar hx,OB,AX];by_cases hn:(20:Int)<s.Do.NE.length
    ·right;exact ⟨false,by rw [DT hn];rfl,fun e=>by simp at e⟩
    ·left;refine ⟨(),by rw [DN hn,Aa,AC Om],fun i q hi hq=>?_⟩;by_cases e:i=k
     ·subst e;rw [hx] at hq;cases hq;omega
     ·exact hI i q Om hq
 ·obtain ⟨z,hz,hq⟩:=fin 81 hI (.inr Om);refine ⟨z,?_,hq⟩;dsimp only [R8];have:∀b,GS g l ((81:Nat):Int) false=some (.inr z)∧A0 b (GS g l ((81:Nat):Int) (decide (((81:Nat):Int)<81))) (GS g l ((81:Nat):Int) false)=some (.inr z):=fun b=>by
   have h1:GS g l ((81:Nat):Int) false=some (.inr z):=by dsimp only [GS];rw [Aa,hz];rfl
   refine ⟨h1,?_⟩;rw [DN Om];cases b
   ·rw [Aa,h1]
   ·rw [Ag,h1]
  exact (this _).2
end NX
end Go.Proofs.YtgnjledocpbchaaGreat
