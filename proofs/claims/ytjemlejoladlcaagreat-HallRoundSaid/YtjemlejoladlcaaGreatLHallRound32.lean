/-
  Plain laws: who Mg ahead in a hall, by ranks. No statement of the seat is proved here.
-/
import Derived.Test.YtjemlejoladlcaaGreatRows
import Derived.Test.YtjemlejoladlcaaGreatLHallRound31
set_option maxRecDepth 100000
set_option maxHeartbeats 40000000
namespace Go.Proofs.YtjemlejoladlcaaGreat
namespace NX
open Go
noncomputable section
def Fq (x y:SX) (ab ba:List Msg) (E J:Int):Prop:=
 (x.FK=true→(x.DY=true→E<J)∧(x.DY=false→J<E))∧(y.FK=true→(y.DY=true→J<E)∧(y.DY=false→E<J))∧
   (0<Bq 1 x.EP ab→E<J)∧(0<Bq 1 x.EP ba→J<E)
theorem Fq.symm {x y:SX} {ab ba:List Msg} {E J:Int} (h:Fq x y ab ba E J) (e:x.EP=y.EP):Fq y x ba ab J E:=⟨h.2.1,h.1,by rw [←e];exact h.2.2.2,by rw [←e];exact h.2.2.1⟩
def FS (N:List NO) (M:List ML) (r:Nat→Int):Prop:=∀(i k:Nat) (a b:NO) (x y:SX),i≠k→N[i]?=some a→N[k]?=some b→Ao a.DK.DI.SD k=some x→Ao b.DK.DI.SD i=some y→
 Fq x y (B2 M i k) (B2 M k i) (r i) (r k)
theorem PI.fork {N:List NO} {M:List ML} (h:PI N M) {i k:Nat} {a b:NO} {x y:SX} (h6:i≠k) (ha:N[i]?=some a) (hb:N[k]?=some b) (hx:Ao a.DK.DI.SD k=some x) (hy:Ao b.DK.DI.SD i=some y) (hf:x.FK=true):
  y.FK=false∧Bq 1 x.EP (B2 M i k)=0∧Bq 1 x.EP (B2 M k i)=0:=by
 have:=(h.both h6 ha hb hx hy).2 1 (.inl rfl);have e1:bn (Bc 1 x)=1:=by simp [Bc,hf,bn]
 rw [e1] at this;have e2:bn (Bc 1 y)=0:=by omega
 refine ⟨?_,Om,Om⟩;have:=UI e2;simpa [Bc] using this
def M8 (n:NO):Prop:=n.DK.DI.PH=2→∀x∈n.DK.DI.SD,x.FK=true∧x.DY=true
def Pl (n:NO):Prop:=∀p,p∈n.TL→n.DK.DI.PH=2
structure RH (N:List NO) (M:List ML):Prop where
 pi:PI N M
 rk:∃r,FS N M r
 eat:∀(i:Nat) a,N[i]?=some a→M8 a∧Pl a
theorem bG (r:Nat→Int):∀n:Nat,∃lo:Int,∀j,j<n→lo<r j
 | 0=>⟨0,fun j hj=>absurd hj (Nat.not_lt_zero _)⟩
 | n+1=>by
   obtain ⟨lo,h⟩:=bG r n;refine ⟨min lo (r n-1),fun j hj=>?_⟩;rcases Nat.lt_succ_iff_lt_or_eq.1 hj with hj | rfl
   ·have:=h j hj;omega
   ·omega
theorem FS.low {N:List NO} {M:List ML} {r:Nat→Int} (h:FS N M r) (hp:PI N M) (A:Nat→Prop) [DecidablePred A] (E:∀(i:Nat) a,A i→N[i]?=some a→∀x∈a.DK.DI.SD,x.FK=true∧x.DY=true) {lo:Int} (hd:∀j,j<N.length→lo<r j):
  FS N M (fun j=>if A j then lo else r j):=by
 have Af:∀(i k:Nat) (a b:NO) (x y:SX),i≠k→N[i]?=some a→N[k]?=some b→Ao a.DK.DI.SD k=some x→Ao b.DK.DI.SD i=some y→A i→
   Fq x y (B2 M i k) (B2 M k i) (if A i then lo else r i) (if A k then lo else r k):=by
  intro i k a b x y h6 ha hb hx hy h9;obtain ⟨f1,d1⟩:=E i a h9 ha x (E8 hx).1;obtain ⟨g1,g2,g3⟩:=hp.fork h6 ha hb hx hy f1;have h8:¬A k:=fun h8=>by have:=(E k b h8 hb y (E8 hy).1).1;rw [g1] at this;simp at this
  rw [if_pos h9,if_neg h8];have:=hd k (List.getElem?_eq_some_iff.1 hb).1;exact ⟨fun _=>⟨fun _=>this,fun e=>by rw [d1] at e;simp at e⟩,fun e=>by rw [g1] at e;simp at e,fun e=>Om,fun e=>Om⟩
 intro i k a b x y h6 ha hb hx hy;by_cases h1:A i
 ·exact Af i k a b x y h6 ha hb hx hy h1
 ·by_cases h2:A k
  ·exact (Af k i b a y x (fun e=>h6 e.symm) hb ha hy hx h2).symm (hp.both h6 ha hb hx hy).1.symm
  ·show Fq x y _ _ (if A i then lo else r i) (if A k then lo else r k);rw [if_neg h1,if_neg h2];exact h i k a b x y h6 ha hb hx hy
theorem FS.step {N:List NO} {M M':List ML} {r r':Nat→Int} {k:Nat} {n m:NO} (hn:N[k]?=some n) (h:FS N M r) (hp:PI (N.set k m) M') (hr:∀j,j≠k→r' j=r j)
  (hm:∀i j:Nat,i≠k→j≠k→B2 M' i j=B2 M i j)
  (hk:∀(j:Nat) (b:NO) (x' y:SX),j≠k→N[j]?=some b→Ao m.DK.DI.SD j=some x'→Ao b.DK.DI.SD k=some y→Fq x' y (B2 M' k j) (B2 M' j k) (r' k) (r j)):FS (N.set k m) M' r':=by
 intro i j a b x y h6 ha hb hx hy;have h8:=hp.both h6 ha hb hx hy;rw [Ea hn] at ha hb;by_cases e1:i=k
 ·subst e1;rw [if_pos rfl] at ha;cases ha;rw [if_neg (fun e=>h6 e.symm)] at hb;rw [hr j (fun e=>h6 e.symm)];exact hk j b x y (fun e=>h6 e.symm) hb hx hy
 ·rw [if_neg e1] at ha;by_cases e2:j=k
  ·subst e2;rw [if_pos rfl] at hb;cases hb;rw [hr i e1];exact (hk i a y x e1 ha hy hx).symm h8.1.symm
  ·rw [if_neg e2] at hb;rw [hr i e1,hr j e2,hm i j e1 e2,hm j i e2 e1];exact h i j a b x y h6 ha hb hx hy
theorem Hy {M L:List ML} {k:Nat} (E:∀m∈L,m.From=(k:Int)) (i j:Nat):B2 (M++L) i j=B2 M i j++if i=k then BN j L else []:=by
 rw [OF,cG E];by_cases e:i=k
 ·rw [if_pos Om,if_pos e]
 ·rw [if_neg Om,if_neg e]
theorem RH.node {N:List NO} {M M':List ML} (h:RH N M) {k:Nat} {n m:NO} (hn:N[k]?=some n) (hp:PI (N.set k m) M') (hr:∃r,FS (N.set k m) M' r) (he:M8 m∧Pl m):RH (N.set k m) M':=
 ⟨hp,hr,fun i a ha=>by
   rw [Ea hn] at ha;split at ha
   ·cases ha;exact he
   ·exact h.eat i a ha⟩
theorem RH.calm {N:List NO} {M:List ML} (h:RH N M) {k:Nat} {n m:NO} {L:List ML} (hn:N[k]?=some n) (E:∀x∈L,x.From=(k:Int)) (hp:PI (N.set k m) (M++L))
  (hs:∀(q:Int) x',Ao m.DK.DI.SD q=some x'→∃x,Ao n.DK.DI.SD q=some x∧x'.FK=x.FK∧x'.DY=x.DY∧x'.EP=x.EP) (ho:∀(q e:Int),Bq 1 e (BN q L)=0) (he:M8 m∧Pl m):RH (N.set k m) (M++L):=by
 obtain ⟨r,hr⟩:=h.rk;refine h.node hn hp ⟨r,hr.step hn hp (fun _ _=>rfl) (fun i j hi hj=>by rw [Hy E,if_neg hi,List.append_nil]) (fun j b x' y hj hb hx' hy=>?_)⟩ he;obtain ⟨x,hx,f1,f2,f3⟩:=hs j x' hx';have h0:=hr k j n b x y (fun e=>hj e.symm) hn hb hx hy;rw [Hy E,if_pos rfl,Hy E,if_neg hj,List.append_nil];unfold Fq at h0 ⊢;rw [f1,f2,f3,Ha,ho,Nat.add_zero];exact h0
theorem RH.ans {N:List NO} {M:List ML} (h:RH N M) {k:Nat} {n:NO} (hn:N[k]?=some n) (hok:OkN n) (hd:n.DK.DI.ID=k) (E:∀m∈DH n,m.From=(k:Int)):RH (N.set k (AM n)) (M++DH n):=by
 have hp:PI (N.set k (AM n)) (M++DH n):=h.pi.move hn E (fun q=>by have:=mQ hok q;rw [hd] at this;exact this);by_cases hP:n.DK.DI.PH=2
 ·have e1:AM n=n:=by unfold AM;rw [if_pos hP]
  have e2:DH n=[]:=by unfold DH;rw [if_pos hP]
  rw [e1,e2,List.append_nil] at hp ⊢;refine h.calm (L:=[]) hn (by simp) (by rw [List.append_nil];exact hp) (fun q x' hx'=>⟨x',hx',rfl,rfl,rfl⟩) (fun _ _=>rfl) (h.eat k n hn) |> fun z=>by rw [List.append_nil] at z;exact z
 ·obtain ⟨r,hr⟩:=h.rk;obtain ⟨lo,h6⟩:=bG r N.length;have ask:∀(j:Nat) (b:NO),(CI n.AK j).isSome=true→N[j]?=some b→b.DK.DI.PH=2:=by
   intro j b hj hb;cases hA:CI n.AK j with
   | none=>rw [hA] at hj;simp at hj
   | some e=>
     obtain ⟨q,hq,e1,_⟩:=ZI hA;have hm:=hok.may q hq;have hE:=h.pi j k b n Om hb hn;have ht:(Ap b k).tl=true:=by
      cases hE with
      | sk z ha hx hn' he ht=>exact ht
      | no _ _ hk=>rw [show (Ap n j).ak=some e from hA] at hk;simp at hk
      | op _ _ _ _ _ _ _ hk=>rw [show (Ap n j).ak=some e from hA] at hk;simp at hk
      | nw _ _ _ _ _ _ _ _ hk=>rw [show (Ap n j).ak=some e from hA] at hk;simp at hk
      | kw _ _ _ _ _ _ _ _ _ _ _ _ hk=>rw [show (Ap n j).ak=some e from hA] at hk;simp at hk
      | lv _ _ _ _ _ _ _ _ hk=>rw [show (Ap n j).ak=some e from hA] at hk;simp at hk
      | cl _ _ _ _ _ _ _ _ _ _ hk=>rw [show (Ap n j).ak=some e from hA] at hk;simp at hk
      | lg _ _ _ _ _ _ _ _ hk=>rw [show (Ap n j).ak=some e from hA] at hk;simp at hk
      | cd _ _ _ _ _ _ hk=>rw [show (Ap n j).ak=some e from hA] at hk;simp at hk
     exact (h.eat j b hb).2 k (by simpa [Ap] using ht)
  have h8:=hr.low h.pi (fun j:Nat=>(CI n.AK j).isSome=true) (fun i a hi ha=>(h.eat i a ha).1 (ask i a hi ha)) h6;have hw:¬(CI n.AK k).isSome=true:=fun e=>by
   cases hA:CI n.AK (k:Int) with
   | none=>rw [hA] at e;simp at e
   | some q=>obtain ⟨z,hz,e1,_⟩:=ZI hA;have:=(hok.may z hz).2.2.1;omega
  have h9:=fun p:Int=>ZK p n.AK n.DK.DI.SD n.KN n.DK.DI.ID (fun k hk=>(hok.may k hk).1) hok.dis hok.kup;have eS:(AM n).DK.DI.SD=CW n.DK.DI.SD n.AK:=by unfold AM;rw [if_neg hP]
  have eM:DH n=Eo n.DK.DI.ID n.AK:=by unfold DH;rw [if_neg hP]
  refine h.node hn hp ⟨_,h8.step hn hp (fun _ _=>rfl) (fun i j hi hj=>by rw [Hy E,if_neg hi,List.append_nil]) (fun j b x' y hj hb hx' hy=>?_)⟩ ⟨fun e=>?_,fun p hp'=>?_⟩
  ·have hB:k≠j:=fun e=>hj e.symm;obtain ⟨s1,_,s3⟩:=h9 j;have hb':(N.set k (AM n))[j]?=some b:=by rw [Ea hn,if_neg hj];exact hb
   have hk':(N.set k (AM n))[k]?=some (AM n):=by rw [Ea hn,if_pos rfl]
   cases hA:CI n.AK (j:Int) with
   | none=>rw [hA] at s1 s3;dsimp only at s1 s3;rw [eS,s1] at hx';have h0:=h8 k j n b x' y hB hn hb hx' hy;rw [Hy E,if_pos rfl,Hy E,if_neg hj,List.append_nil,eM,s3,List.append_nil];dsimp only at h0;rw [hA] at h0;exact h0
   | some e=>
     rw [hA] at s1;dsimp only at s1;have hC:(CI n.AK j).isSome=true:=by rw [hA];rfl
     obtain ⟨f1,f2⟩:=(h.eat j b hb).1 (ask j b hC hb) y (E8 hy).1;obtain ⟨g1,g2,g3⟩:=hp.fork hj hb' hk' hy hx' f1;have hD:=(hp.both hj hb' hk' hy hx').1;have hlt:=h6 k (List.getElem?_eq_some_iff.1 hn).1;show Fq x' y _ _ (if (CI n.AK (k:Int)).isSome=true then lo else r k) (if (some e).isSome=true then lo else r j);rw [if_neg hw,if_pos (show (some e).isSome=true from rfl)];rw [hD] at g2 g3;exact ⟨fun e=>by rw [g1] at e;simp at e,fun _=>⟨fun _=>hlt,fun e=>by rw [f2] at e;simp at e⟩,fun e=>Om,fun e=>Om⟩
  ·exact absurd (by unfold AM at e;rw [if_neg hP] at e;exact e) hP
  ·exact absurd ((h.eat k n hn).2 p (by unfold AM at hp';rw [if_neg hP] at hp';exact hp')) hP
def Hb (d:DK):Bool:=decide ((AC d).PH=1)&&((AC d).SD.map (Bj (AC d).PH)).all (·.FK)
theorem gp {d:DK} (h:Hb d=true):∀x∈(Aw d).DI.SD,x.FK=true∧x.DY=true:=by
 intro x hx;rw [GU] at hx;obtain ⟨y,hy,rfl⟩:=List.mem_map.1 hx;obtain ⟨_,_,_,b4,b5,_⟩:=Ki (Ch d y) d.TH (BU (AC d) y);unfold Em;rw [b4,b5];have e:BU (AC d) y=HW (Bj (AC d).PH y):=by show (if Hb d=true then _ else _)=_;rw [if_pos h]
 unfold Hb at h;rw [Bool.and_eq_true,List.all_eq_true] at h;rw [e];exact ⟨h.2 (Bj (AC d).PH y) (List.mem_map.2 ⟨y,hy,rfl⟩),rfl⟩
theorem gF {d:DK} (h:Hb d=false) (x:SX):(Em d x).EP=x.EP∧
  (if x.FK&&(x.DY&&(x.TO&&!decide ((AC d).PH=2))) then (Em d x).FK=false∧x.FK=true∧x.DY=true else (Em d x).FK=x.FK∧(Em d x).DY=x.DY):=by
 obtain ⟨_,b2,_,b4,b5,_⟩:=Ki (Ch d x) d.TH (BU (AC d) x);have e:BU (AC d) x=Bj (AC d).PH x:=by show (if Hb d=true then _ else _)=_;rw [if_neg (by rw [h];simp)]
 unfold Em;rw [b2,b4,b5,e];refine ⟨(ax _ x).2.1,?_⟩;have f1:(Bj (AC d).PH x).FK=(D4 (AC d).PH x).FK:=by unfold Bj;split<;>rfl
 have f2:(Bj (AC d).PH x).DY=(D4 (AC d).PH x).DY:=by unfold Bj;split<;>rfl
 rw [f1,f2];unfold D4;split
 ·rename_i hc;simp only [Bool.and_eq_true] at hc;exact ⟨rfl,hc.1,hc.2.1⟩
 ·exact ⟨rfl,rfl⟩
theorem tz {d:DK} (hu:d.DI.SD.Pairwise fun x y=>x.PE<y.PE) {p:Int} {x:SX} (hx:Ao d.DI.SD p=some x) (e:Int) (hc:0<Bq 1 e (BN p (Cq d))):x.FK=true∧x.DY=true:=by
 unfold Bq at hc;obtain ⟨m,hm,hk⟩:=List.countP_pos_iff.1 hc;simp only [Bool.and_eq_true,decide_eq_true_eq] at hk;obtain ⟨m',hm',rfl⟩:=List.mem_map.1 hm;obtain ⟨hm',ht⟩:=List.mem_filter.1 hm';have ht:m'.To=p:=by simpa using ht
 unfold Cq at hm';rcases List.mem_append.1 hm' with hm' | hm'
 ·unfold He at hm';obtain ⟨y,hy,hm'⟩:=List.mem_flatMap.1 hm';have h6:y.PE=p:=(gz hm').2.1.symm.trans ht;obtain ⟨h1,h2⟩:=E8 hx;have:y=x:=Kb hu hy h1 Om;subst this;unfold Cf at hm';rcases List.mem_append.1 hm' with hm' | hm'
  ·split at hm'
   ·rename_i hc;simp only [Bool.and_eq_true] at hc;exact ⟨hc.1,hc.2.1⟩
   ·simp at hm'
  ·split at hm'<;>simp at hm';subst hm';simp at hk
 ·obtain ⟨y,hy,hm'⟩:=List.mem_flatMap.1 hm';exfalso;unfold Ct at hm';rcases List.mem_append.1 hm' with hm' | hm'<;>split at hm'<;>simp at hm'<;>subst hm'<;>simp at hk
theorem lr {d:DK}:(Aw d).DI.PH=if Hb d then 2 else (AC d).PH:=by
 show (BV (AC d)).PH=_;unfold BV;cases h:Hb d with
 | true=>rw [if_pos (show (decide ((AC d).PH=1)&&((AC d).SD.map (Bj (AC d).PH)).all (·.FK))=true from h)];rfl
 | false=>rw [if_neg (show ¬(decide ((AC d).PH=1)&&((AC d).SD.map (Bj (AC d).PH)).all (·.FK))=true by show ¬Hb d=true;rw [h];simp)];rfl
def Fg (n:NO) (d:DK):NO:=⟨d,n.BK,n.KN,n.TL,n.AK⟩
def eD (n:NO):Prop:=∀p∈n.TL,∃x∈n.DK.DI.SD,x.SS=1
theorem RH.onceD {N:List NO} {M:List ML} (h:RH N M) {k:Nat} {n:NO} (hn:N[k]?=some n) (hu:n.DK.DI.SD.Pairwise fun x y=>x.PE<y.PE) (h8:n.DK.DI.ID=k) (ht:eD n):
  RH (N.set k (Fg n (Aw n.DK))) (M++Cq n.DK):=by
 have hL:∀m∈Cq n.DK,m.From=(k:Int):=fun m hm=>by rw [←h8];exact (l3 hm).1
 have h6:∀q:Int,LsE (decide ((k:Int)<q)) (Ap n q) (BN q (Cq n.DK)) (Ap (Fg n (Aw n.DK)) q):=fun q=>by
  obtain ⟨a1,a2⟩:=mT hu q;unfold Ap Fg;dsimp only;cases hs:Ao n.DK.DI.SD q with
  | none=>obtain ⟨c1,c2⟩:=a2 hs;rw [c1,c2];exact .nil _
  | some x=>obtain ⟨x',c1,c2⟩:=a1 x hs;rw [c1];exact .fire _ x x' _ rfl c2
 have hp:=h.pi.move hn hL h6;obtain ⟨hE,hT⟩:=h.eat k n hn;have g1:∀x,(Em n.DK x).PE=x.PE:=fun x=>congrArg (·.1) (IT n.DK x);have eS:∀p,Ao (Aw n.DK).DI.SD p=(Ao n.DK.DI.SD p).map (Em n.DK):=fun p=>by rw [GU,dO g1]
 have ph2:(AC n.DK).PH=2→n.DK.DI.PH=2:=fun e=>by
  have e:C5 n.DK=2:=e;unfold C5 at e;split at e
  ·simp at e
  ·split at e
   ·simp at e
   ·exact e
 have eat':M8 (Fg n (Aw n.DK)):=by
  intro e;have e:(Aw n.DK).DI.PH=2:=e;rw [lr] at e;intro x hx;have hx:x∈(Aw n.DK).DI.SD:=hx;cases hn':Hb n.DK with
  | true=>exact gp hn' x hx
  | false=>rw [hn',if_neg (by simp)] at e;rw [GU] at hx;obtain ⟨y,hy,rfl⟩:=List.mem_map.1 hx;have:=(gF hn' y).2;rw [DT e] at this;simp only [Bool.not_true,Bool.and_false,Bool.false_eq_true,if_false] at this;rw [this.1,this.2];exact hE (ph2 e) y hy
 have tol':Pl (Fg n (Aw n.DK)):=by
  intro p hp';have e2:=hT p hp';obtain ⟨x,hx,hs⟩:=ht p hp';show (Aw n.DK).DI.PH=2;have e3:(AC n.DK).PH=2:=by show C5 n.DK=2;unfold C5;have:(n.DK.DI.SD.any fun x=>decide (x.SS=1))=true:=List.any_eq_true.2 ⟨x,hx,DT hs⟩;rw [this,e2];simp
  rw [lr,e3];split<;>rfl
 cases hn':Hb n.DK with
 | true=>
   obtain ⟨r,hr⟩:=h.rk;obtain ⟨lo,h9⟩:=bG r N.length;refine h.node hn hp ⟨fun j=>if j=k then lo else r j,hr.step hn hp (fun j hj=>if_neg hj) (fun i j hi hj=>by rw [Hy hL,if_neg hi,List.append_nil]) (fun j b x' y hj hb hx' hy=>?_)⟩ ⟨eat',tol'⟩;have hb':(N.set k (Fg n (Aw n.DK)))[j]?=some b:=by rw [Ea hn,if_neg hj];exact hb
   have hk':(N.set k (Fg n (Aw n.DK)))[k]?=some (Fg n (Aw n.DK)):=by rw [Ea hn,if_pos rfl]
   obtain ⟨f1,f2⟩:=gp hn' x' (E8 hx').1;obtain ⟨q1,q2,q3⟩:=hp.fork (fun e=>hj e.symm) hk' hb' hx' hy f1;have hlt:=h9 j (List.getElem?_eq_some_iff.1 hb).1;rw [if_pos rfl];exact ⟨fun _=>⟨fun _=>hlt,fun e=>by rw [f2] at e;simp at e⟩,fun e=>by rw [q1] at e;simp at e,fun e=>Om,fun e=>Om⟩
 | false=>
   obtain ⟨r,hr⟩:=h.rk;refine h.node hn hp ⟨r,hr.step hn hp (fun _ _=>rfl) (fun i j hi hj=>by rw [Hy hL,if_neg hi,List.append_nil]) (fun j b x' y hj hb hx' hy=>?_)⟩ ⟨eat',tol'⟩;have hx':Ao (Aw n.DK).DI.SD j=some x':=hx';rw [eS] at hx';cases hx:Ao n.DK.DI.SD j with
   | none=>rw [hx] at hx';simp at hx'
   | some x=>
     rw [hx] at hx';cases hx';have h0:=hr k j n b x y (fun e=>hj e.symm) hn hb hx hy;obtain ⟨s1,s2⟩:=gF hn' x;rw [Hy hL,if_pos rfl,Hy hL,if_neg hj,List.append_nil];unfold Fq at h0 ⊢;rw [s1,Ha];obtain ⟨h1,h2,h3,h4⟩:=h0;refine ⟨fun e=>?_,h2,fun e=>?_,h4⟩
     ·split at s2
      ·rw [s2.1] at e;simp at e
      ·rw [s2.1] at e;rw [s2.2];exact h1 e
     ·by_cases hc:0<Bq 1 x.EP (BN j (Cq n.DK))
      ·obtain ⟨f1,f2⟩:=tz hu hx _ hc;exact (h1 f1).1 f2
      ·exact h3 Om
theorem gB {Q:DK→List ML→Prop} (hs:∀d o,Q d o→Q (Aw d) (o++Cq d)):∀(f:Nat) (d:DK) (o:List ML),Q d o→Q (BZ f d o).1 (BZ f d o).2
 | 0,_,_,h=>h
 | f+1,d,o,h=>by
   unfold BZ;split
   ·exact h
   ·exact gB hs f _ _ (hs d o h)
theorem RH.fire {N:List NO} {M:List ML} (h:RH N M) {k:Nat} {n:NO} (hn:N[k]?=some n) (hu:n.DK.DI.SD.Pairwise fun x y=>x.PE<y.PE) (h6:n.DK.DI.ID=k) (ht:eD n):
  RH (N.set k (BC n)) (M++(Bo n.DK).2):=by
 have h0:RH (N.set k (Fg n n.DK)) (M++[]):=by
  rw [List.append_nil];have:N.set k (Fg n n.DK)=N:=by
   apply List.ext_getElem?;intro i;rw [Ea hn];split
   ·rename_i e;rw [e,hn];rfl
   ·rfl
  rw [this];exact h
 exact (gB (Q:=fun d o=>RH (N.set k (Fg n d)) (M++o)∧(d.DI.SD.Pairwise fun x y=>x.PE<y.PE)∧d.DI.ID=k∧eD (Fg n d)) (fun d o hq=>by
  obtain ⟨q1,q2,q3,q4⟩:=hq;have hk:(N.set k (Fg n d))[k]?=some (Fg n d):=by rw [Ea hn,if_pos rfl]
  have:=q1.onceD hk q2 q3 q4;rw [List.set_set,List.append_assoc] at this;have hc:(Aw d).DI.SD.map CP=d.DI.SD.map CP:=by rw [GU,List.map_map];exact List.map_congr_left fun x _=>IT d x
  refine ⟨this,?_,q3,fun p hp=>?_⟩
  ·rw [GU];exact P0 (by rw [List.map_map];exact List.map_congr_left fun x _=>congrArg (·.1) (IT d x)) q2
  ·obtain ⟨x,hx,hs⟩:=q4 p hp;refine ⟨Em d x,?_,?_⟩
   ·show Em d x∈(Aw d).DI.SD;rw [GU];exact List.mem_map.2 ⟨x,hx,rfl⟩
   ·have:=congrArg (·.2.2) (IT d x);exact this.trans hs) 300 n.DK [] ⟨h0,hu,h6,ht⟩).1
theorem RH.still {N:List NO} {M:List ML} (h:RH N M) {k:Nat} {n m:NO} (hn:N[k]?=some n) (hv:∀q,Ap m q=Ap n q) (he:M8 m∧Pl m):RH (N.set k m) M:=by have hp:PI (N.set k m) (M++[]):=h.pi.move hn (by simp) (fun q=>by rw [hv];exact .nil _);have:=h.calm hn (L:=[]) (by simp) hp (fun q x' hx'=>⟨x',by have:=congrArg (·.sd) (hv q);exact this.symm.trans hx',rfl,rfl,rfl⟩) (fun _ _=>rfl) he;rwa [List.append_nil] at this
theorem RH.onceN {N:List NO} {M:List ML} (h:RH N M) {k:Nat} {n:NO} (hn:N[k]?=some n) (hok:OkN n) (h8:n.DK.DI.ID=k):RH (N.set k (onceN n)) (M++Dg n):=by
 have h6:∀m∈Dg n,m.From=(k:Int):=fun m hm=>by rw [←h8];exact (l5 hok hm).1
 unfold Dg at h6 ⊢;have f1:∀m∈DH n,m.From=(k:Int):=fun m hm=>h6 m (List.mem_append_left _ hm);have f3:∀m∈(Cv (AG (AS n))).2,m.From=(k:Int):=fun m hm=>h6 m (List.mem_append_right _ (List.mem_append_right _ (List.mem_append_left _ hm)));have f4:∀m∈E3 (BT (AG (AS n))),m.From=(k:Int):=fun m hm=>h6 m (List.mem_append_right _ (List.mem_append_right _ (List.mem_append_right _ hm)));have kk:∀m:NO,(N.set k m)[k]?=some m:=fun m=>by rw [Ea hn,if_pos rfl]
 have r1:=h.ans hn hok h8 f1;have e2:∀p,Ap (Bx n) p=Ap (AM n) p:=fun p=>by
  have:(BF (AM n)).DK.DI=(AM n).DK.DI:=by
   unfold BF CM;dsimp only;split
   ·split<;>rfl
   ·rfl
  unfold Bx BA Ap;dsimp only;rw [this];rfl
 have hd:(Bx n).DK.DI.PH=2↔(AM n).DK.DI.PH=2:=by
  have e:(BF (AM n)).DK.DI=(AM n).DK.DI:=by
   unfold BF CM;dsimp only;split
   ·split<;>rfl
   ·rfl
  show Fw (BF (AM n))=2↔_;unfold Fw;rw [e];split
  ·rename_i hc;rw [Bool.and_eq_true,decide_eq_true_eq] at hc;constructor
   ·intro e';simp at e'
   ·intro e';omega
  ·exact Iff.rfl
 have hA:(Bx n).DK.DI.SD=(AM n).DK.DI.SD:=by
  have e:(BF (AM n)).DK.DI=(AM n).DK.DI:=by
   unfold BF CM;dsimp only;split
   ·split<;>rfl
   ·rfl
  show (BF (AM n)).DK.DI.SD=_;rw [e]
 obtain ⟨a1,a2⟩:=r1.eat k _ (kk _);have r2:=r1.still (m:=Bx n) (kk _) e2 ⟨fun e=>by rw [hA];exact a1 (hd.1 e),fun p hp=>hd.2 (a2 p hp)⟩;rw [List.set_set] at r2;have r3:=r2.fire (kk _) hok.pre.dr.din.up ((YL n).trans h8) (fun p hp=>by obtain ⟨x,hx,hs,_⟩:=hok.pre.tin p hp;exact ⟨x,hx,hs⟩);rw [List.set_set] at r3;obtain ⟨b1,b2⟩:=r3.eat k _ (kk _);have r4:=r3.still (m:=AG (AS n)) (kk _) (fun q=>rfl) ⟨b1,b2⟩;rw [List.set_set] at r4;have hg:OkN (AG (AS n)):=hok.pre.firgra;have h9:(AG (AS n)).DK.DI.ID=k:=(jP n).trans h8;have s4:=fun q=>mV hg q;rw [h9] at s4;have p5:=r4.pi.move (m:=BT (AG (AS n))) (kk _) f3 s4;have r5:=r4.calm (m:=BT (AG (AS n))) (kk _) f3 p5 (fun q x' hx'=>⟨x',hx',rfl,rfl,rfl⟩) (fun q e=>by
  unfold Cv;split
  ·rw [Z4 _ q _ _ hg.dr.din.up];cases Ao (AG (AS n)).DK.DI.SD q with
   | none=>rfl
   | some x=>dsimp only;split<;>simp [Bq]
  ·rfl) ⟨b1,fun p hp=>by
   have hp:p∈(Cv (AG (AS n))).1:=hp;unfold Cv at hp;split at hp
   ·rename_i e;exact e
   ·exact b2 p hp⟩
 rw [List.set_set] at r5;have hw:(BT (AG (AS n))).DK.DI.ID=k:=h9;have s6:=fun q=>mS hg.tel q;rw [hw] at s6;have p6:=r5.pi.move (m:=Dn (BT (AG (AS n)))) (kk _) f4 s6;obtain ⟨c1,c2⟩:=r5.eat k _ (kk _);have t2:∀id th L x y,Dp id th L x=some y→y.PE=x.PE∧y.FK=x.FK∧y.DY=x.DY∧y.EP=x.EP:=fun id th L x y hy=>by
  unfold Dp at hy;split at hy
  ·split at hy<;>simp at hy;rw [←hy];exact ⟨rfl,rfl,rfl,rfl⟩
  ·simp at hy;rw [←hy];exact ⟨rfl,rfl,rfl,rfl⟩
 have r6:=r5.calm (m:=Dn (BT (AG (AS n)))) (kk _) f4 p6 (fun q x' hx'=>by
  have hx':Ao (AR _ _ _ _) q=some x':=hx';unfold AR at hx';rw [mM (fun x y hy=>(t2 _ _ _ x y hy).1) hg.tel.dr.din.up] at hx';obtain ⟨x,hx,e⟩:=Option.bind_eq_some_iff.1 hx';exact ⟨x,hx,(t2 _ _ _ x x' e).2⟩) (fun q e=>by
  unfold E3 BB;rw [Zo (fun x m hm=>by unfold F5 at hm;split at hm<;>simp at hm;rw [hm]) hg.tel.dr.din.up];cases Ao (BT (AG (AS n))).DK.DI.SD q with
  | none=>rfl
  | some x=>
    dsimp only;unfold F5;split
    ·split<;>simp [Bq]
    ·rfl) ⟨fun e x hx=>by
    obtain ⟨y,hy,hc⟩:=TR hx;have:=c1 e y hy;rcases hc with ⟨rfl,_⟩ | ⟨_,_,rfl⟩
    ·exact this
    ·exact this,c2⟩
 rw [List.set_set] at r6;simp only [List.append_assoc] at r6;exact r6
theorem RH.rest {N:List NO} {M:List ML} (h:RH N M) {k:Nat} {n:NO} (hn:N[k]?=some n) (hok:OkN n) (h6:n.DK.DI.ID=k) (V:List EV):RH (N.set k (Bu n [] V).1) (M++(Bu n [] V).2.1):=by
 have kk:∀m:NO,(N.set k m)[k]?=some m:=fun m=>by rw [Ea hn,if_pos rfl]
 have h0:RH (N.set k n) (M++[]):=by have:=h.still (m:=n) hn (fun _=>rfl) (h.eat k n hn);rwa [List.append_nil]
 exact (P2 (P:=fun m E _=>m.DK.DI.ID=k∧RH (N.set k m) (M++E)) (fun m E V hm hP=>by have:=hP.2.onceN (kk m) hm hP.1;rw [List.set_set,List.append_assoc] at this;exact ⟨(U6 m).trans hP.1,this⟩) hok ⟨h6,h0⟩).2
theorem RH.move {N:List NO} {M M':List ML} (h:RH N M) {k:Nat} {n m:NO} (hn:N[k]?=some n) (hp:PI (N.set k m) M') (hm:∀i j:Nat,i≠k→j≠k→B2 M' i j=B2 M i j)
  (hk:∀(j:Nat) (b:NO) (x' y:SX) (E J:Int),j≠k→N[j]?=some b→Ao m.DK.DI.SD j=some x'→Ao b.DK.DI.SD k=some y→
    (∀x,Ao n.DK.DI.SD j=some x→Fq x y (B2 M k j) (B2 M j k) E J)→Fq x' y (B2 M' k j) (B2 M' j k) E J) (he:M8 m∧Pl m):RH (N.set k m) M':=by
 obtain ⟨r,hr⟩:=h.rk;exact h.node hn hp ⟨r,hr.step hn hp (fun _ _=>rfl) hm (fun j b x' y hj hb hx' hy=>hk j b x' y _ _ hj hb hx' hy fun x hx=>hr k j n b x y (fun e=>hj e.symm) hn hb hx hy)⟩ he
theorem q9 (n:NO) (a:Do):(AW n a).2.1.DK.DI.PH=n.DK.DI.PH∧(AW n a).2.1.TL=n.TL:=by
 have hs:∀j x,(Bg n j x).DK.DI.PH=n.DK.DI.PH∧(Bg n j x).TL=n.TL:=fun j x=>by unfold Bg;dsimp only;split<;>exact ⟨rfl,rfl⟩
 unfold AW;split
 ·unfold CG
  (repeat' split)<;>exact ⟨rfl,rfl⟩
 ·split
  ·split
   ·cases C6 n.DK.DI.SD a.PE with
    | some j=>exact ⟨rfl,rfl⟩
    | none=>dsimp only;split<;>exact ⟨rfl,rfl⟩
   ·exact ⟨rfl,rfl⟩
  ·split
   ·split
    ·cases C6 n.DK.DI.SD a.PE with
     | none=>exact ⟨rfl,rfl⟩
     | some j=>
       dsimp only;split
       ·exact ⟨rfl,rfl⟩
       ·split
        ·exact hs _ _
        ·exact ⟨rfl,rfl⟩
    ·exact ⟨rfl,rfl⟩
   ·exact ⟨rfl,rfl⟩
theorem RH.act {N:List NO} {M:List ML} (h:RH N M) {k:Nat} {n:NO} {a:Do} (hn:N[k]?=some n) (hok:OkN n) (h8:n.DK.DI.ID=k) (h0:(AW n a).1=0):RH (N.set k (AW n a).2.1) M:=by
 have hp:=h.pi.act hn hok h8 h0;have hok':=(Pv hok h0).1;obtain ⟨p1,p2⟩:=q9 n a;obtain ⟨e1,e2⟩:=h.eat k n hn;refine h.move hn hp (fun _ _ _ _=>rfl) (fun j b x' y ra rb hj hb hx' hy hd=>?_) ⟨fun e x' hx'=>?_,fun p hp'=>by rw [p1];exact e2 p (by rwa [p2] at hp')⟩
 ·have hv:=Z3 hok h0 (j:Int);rw [h8] at hv;have hx':(Ap (AW n a).2.1 j).sd=some x':=hx';rcases hv with e | ⟨hlt,_,hs,z,_,_,_,e⟩ | ⟨hlt,z,hs,_,e⟩
  ·rw [e] at hx';exact hd x' hx'
  ·have hE:=h.pi k j n b Om hn hb;have hy:(Ap b k).sd=some y:=hy;cases hE with
   | no ha hb'=>rw [hb'] at hy;simp at hy
   | op x ha=>rw [hs] at ha;simp at ha
   | nw x u ha=>rw [hs] at ha;simp at ha
   | sk x ha=>rw [hs] at ha;simp at ha
   | kw x y u w ha=>rw [hs] at ha;simp at ha
   | lv x y ha=>rw [hs] at ha;simp at ha
   | cl x y u w ha=>rw [hs] at ha;simp at ha
   | lg x y ha=>rw [hs] at ha;simp at ha
   | cd x u ha=>rw [hs] at ha;simp at ha
  ·rw [e] at hx';cases hx';exact hd z hs
 ·rw [p1] at e;have h9:Ao (AW n a).2.1.DK.DI.SD x'.PE=some x':=Pc hok'.dr.din.up hx';have h6:(Ap (AW n a).2.1 x'.PE).sd=some x':=h9;rcases Z3 hok h0 x'.PE with e' | ⟨_,hw,hs,z,hz,hA,hC,e'⟩ | ⟨_,z,hs,_,e'⟩
  ·rw [e'] at h6;exact e1 e x' (E8 (show Ao n.DK.DI.SD x'.PE=some x' from h6)).1
  ·rw [e'] at h6;cases h6;refine ⟨hA.1,?_⟩;have hB:x'=addS n a.PE:=by
    have hx':=hx';rw [show (AW n a).2.1=IN n (addS n a.PE) n.AK by
     revert h0;unfold AW;rw [if_neg Om,if_pos hw.1];split
     ·cases C6 n.DK.DI.SD a.PE with
      | some j=>intro h0;simp at h0
      | none=>
        dsimp only;split
        ·intro _;rfl
        ·intro h0;simp at h0
     ·intro h0;simp at h0] at hx'
    have hx':x'∈D9 n.DK.DI.SD (addS n a.PE):=hx';rcases FA.1 hx' with e | hx'
    ·exact e
    ·exact absurd rfl (Ek.1 (show Ao n.DK.DI.SD x'.PE=none from hs) x' hx')
   rw [hB];rfl
  ·rw [e'] at h6;cases h6;exact e1 e z (E8 (show Ao n.DK.DI.SD _=some z from hs)).1
theorem tI (n:NO) (p:Int) (m:Msg):(B1 n p m).2.1.DK.DI.PH=n.DK.DI.PH∧∀q∈(B1 n p m).2.1.TL,q∈n.TL:=by
 have hs:∀j x,(Bg n j x).DK.DI.PH=n.DK.DI.PH∧(Bg n j x).TL=n.TL:=fun j x=>by unfold Bg;dsimp only;split<;>exact ⟨rfl,rfl⟩
 have o:n.DK.DI.PH=n.DK.DI.PH∧∀q∈n.TL,q∈n.TL:=⟨rfl,fun _ h=>h⟩
 have hl:∀j x,(Hh n j x).DK.DI.PH=n.DK.DI.PH∧∀q∈(Hh n j x).TL,q∈n.TL:=fun j x=>⟨rfl,fun q hq=>((FH n.TL).2 q).1 (List.mem_filter.1 hq).1⟩
 have hh:∀j x,(Bg n j x).DK.DI.PH=n.DK.DI.PH∧∀q∈(Bg n j x).TL,q∈n.TL:=fun j x=>⟨(hs j x).1,fun q hq=>by rwa [(hs j x).2] at hq⟩
 unfold B1
 (repeat' split)<;>first | exact o | exact hl _ _ | exact hh _ _ | exact ⟨rfl,fun _ h=>h⟩
theorem RH.get {h:HL} (hr:RH h.NS h.ML) (hh:HI h) {a:Int} {k i:Nat} {n:NO} {m:ML} (hn:h.NS[k]?=some n) (hi:(h.ML.findIdx? fun m=>decide (m.From=a)&&decide (m.To=(k:Int)))=some i) (hm:h.ML[i]?=some m):
  RH (h.NS.set k (B1 n a m.Msg).2.1) (h.ML.take i++h.ML.drop (i+1)):=by
 obtain ⟨s,rfl,hs,hw,v',g,g0,g1,g2,hp⟩:=hh.get1 hn hi hm;obtain ⟨_,_,d1,d2⟩:=jS hi hm;obtain ⟨hA,hok⟩:=hh.ok.nodes k n hn;have hok':=(PP hok g0).1;obtain ⟨p1,p2⟩:=tI n s m.Msg;obtain ⟨e1,e2⟩:=hr.eat k n hn;have Af:∀x',v'.sd=some x'→∃x,Ao n.DK.DI.SD s=some x∧x'.EP=x.EP∧((x'.FK=x.FK∧x'.DY=x.DY)∨(m.Msg.KI=1∧m.Msg.EP=x.EP∧x.FK=false∧x'.FK=true∧x'.DY=false)):=by
  intro x' hx';cases g with
  | fit x ht h he hl=>
    cases hx';have h:Ao n.DK.DI.SD s=some x:=h;refine ⟨x,h,(Hg _ _).2.1,?_⟩;by_cases h8:m.Msg.KI=1
    ·right;rw [h8] at hl;have hl:x.FK=false:=by simpa [Bc] using hl
     refine ⟨h8,he.symm,hl,?_,?_⟩
     ·rw [h8];rfl
     ·have hd:x.DY=false:=by
       cases hd:x.DY with
       | false=>rfl
       | true=>have:=(hok.dr.din.side x (E8 h).1).df hd;rw [hl] at this;simp at this
      rw [h8];exact hd
    ·left;unfold CE;rw [if_neg h8];split
     ·exact ⟨rfl,rfl⟩
     ·split<;>exact ⟨rfl,rfl⟩
  | old ht h=>exact ⟨x',hx',rfl,.inl ⟨rfl,rfl⟩⟩
  | new hl hm h hk ha=>simp at hx'
  | known x hl hm h he hs ht=>cases hx';exact ⟨x,h,rfl,.inl ⟨rfl,rfl⟩⟩
  | close x hl hm h he hs=>cases hx';exact ⟨x,h,rfl,.inl ⟨rfl,rfl⟩⟩
  | closed x hl hm h he hs=>simp at hx'
 have cle:∀e:Int,Bq 1 e (B2 (h.ML.take i++h.ML.drop (i+1)) s k)≤Bq 1 e (B2 h.ML s k):=fun e=>by rw [d1,Kk];omega
 refine hr.move hn hp (fun i' j' hi' hj'=>(d2 i' j' Om).symm) (fun j b x' y ra rb hj hb hx' hy hd=>?_) ⟨fun e x' hx'=>?_,fun p hp'=>by rw [p1];exact e2 p (p2 p hp')⟩
 ·by_cases h9:j=s
  ·subst h9;have h6:(Ap (B1 n j m.Msg).2.1 j).sd=some x':=hx';rw [g1] at h6;obtain ⟨x,hx,f1,f2⟩:=Af x' h6;obtain ⟨a1,a2,a3,a4⟩:=hd x hx;have:=cle x.EP;rw [←d2 k j Om];refine ⟨fun e=>?_,a2,by rw [f1];exact a3,fun e=>a4 (by rw [f1] at e;omega)⟩;rcases f2 with ⟨f2,f3⟩ | ⟨k1,k2,k3,k4,k5⟩
   ·rw [f3];exact a1 (by rw [←f2];exact e)
   ·rw [k5];exact ⟨fun e=>by simp at e,fun _=>a4 (by rw [d1,Kk,if_pos ⟨k1,k2⟩];omega)⟩
  ·rw [←d2 k j Om,←d2 j k Om];refine hd x' ?_;have:=congrArg (·.sd) (g2 j Om);exact this.symm.trans hx'
 ·rw [p1] at e;have h6:(Ap (B1 n s m.Msg).2.1 x'.PE).sd=some x':=Pc hok'.dr.din.up hx';by_cases hq:x'.PE=s
  ·rw [hq,g1] at h6;obtain ⟨x,hx,_,f2⟩:=Af x' h6;have:=e1 e x (E8 hx).1;rcases f2 with ⟨f2,f3⟩ | ⟨_,_,k3,_⟩
   ·rw [f2,f3];exact this
   ·rw [k3] at this;simp at this
  ·rw [g2 _ hq] at h6;exact e1 e x' (E8 (show Ao n.DK.DI.SD _=some x' from h6)).1
def H2 (h:HL):Prop:=RH h.NS h.ML
theorem H2.acts {h:HL} (hr:H2 h) (hh:HI h) {k:Nat} {n:NO} {a:Do} (hn:h.NS[k]?=some n) (h0:(AW n a).1=0):H2 (Pu h k n a):=by obtain ⟨h6,hok⟩:=hh.ok.nodes k n hn;obtain ⟨h1,h2,_⟩:=Pv hok h0;have h3:=RH.act hr hn hok h6 h0;have:=h3.rest (by rw [Ea hn,if_pos rfl]) h1 (h2.trans h6) (AW n a).2.2;rw [List.set_set] at this;exact this
theorem H2.gets {h:HL} (hr:H2 h) (hh:HI h) {k i:Nat} {n:NO} {m:ML} {a:Int} (hn:h.NS[k]?=some n) (hi:(h.ML.findIdx? fun m=>decide (m.From=a)&&decide (m.To=(k:Int)))=some i) (hm:h.ML[i]?=some m):H2 (PO h k i n a m.Msg):=by obtain ⟨h6,hok⟩:=hh.ok.nodes k n hn;have h3:=RH.get hr hh hn hi hm;obtain ⟨s,rfl,_,_,_,_,g0,_⟩:=hh.get1 hn hi hm;obtain ⟨h1,h2,_⟩:=PP hok g0;have:=h3.rest (by rw [Ea hn,if_pos rfl]) h1 (h2.trans h6) (B1 n s m.Msg).2.2;rw [List.set_set] at this;exact this
theorem ut {g:Graph} (hg:B3 g=true) (E:g.N≤24):H2 (DQ g):=by
 refine ⟨(aM hg E).1.pi,⟨fun j=> - cg (DO g) j,fun i k a b x y h6 ha hb hx hy=>?_⟩,fun i a ha=>?_⟩
 ·have h1:=Us hg E ha k;have h2:=Us hg E hb i;have hx:(Ap a k).sd=some x:=hx;have hy:(Ap b i).sd=some y:=hy;rw [h1] at hx;rw [h2] at hy;split at hx
  ·split at hy
   ·rename_i p1 p2;cases hx;cases hy;unfold Fq Dv B2;dsimp only;refine ⟨fun e=>?_,fun e=>?_,fun e=>absurd e (Nat.lt_irrefl 0),fun e=>absurd e (Nat.lt_irrefl 0)⟩
    ·have:=of_decide_eq_true e;exact ⟨fun _=>Om,fun e'=>absurd this (of_decide_eq_false e')⟩
    ·have:=of_decide_eq_true e;exact ⟨fun _=>Om,fun e'=>absurd this (of_decide_eq_false e')⟩
   ·simp at hy
  ·simp at hx
 ·obtain ⟨_,rfl⟩:=aL ha;exact ⟨fun e=>by simp [D1,Fp] at e,fun p hp=>by simp [D1] at hp⟩
def Ja (x y:SX):Bool:=(x.FK&&!x.DY)||(!x.FK&&(y.FK&&y.DY))
def Kq (a b:DI) (e:Int):ML:=⟨a.ID,b.ID,⟨1,e,0⟩⟩
def CB (mail:List ML) (a b:DI):List Arc:=
 match C8 a b.ID,C8 b a.ID with
 | some x,some y=>if decide (x.EP=y.EP) then
    (if Ja x y||(!x.FK&&(!y.FK&&decide (Kq b a x.EP∈mail))) then [⟨a.ID,b.ID⟩] else
     if Ja y x||(!x.FK&&(!y.FK&&decide (Kq a b x.EP∈mail))) then [⟨b.ID,a.ID⟩] else []) else []
 | _,_=>[]
theorem fz (mail:List ML) (a b:DI):(CB mail a b).length≤1:=by
 unfold CB;split
 ·split
  ·split
   ·simp
   ·split<;>simp
  ·simp
 ·simp
theorem aE (mail:List ML) (a:DI) (l:List DI):(l.flatMap (CB mail a)).length≤l.length:=by
 induction l with
 | nil=>simp
 | cons b l ih=>have:=fz mail a b;rw [List.flatMap_cons,List.length_append,List.length_cons];omega
def CN (mail:List ML) (l:List DI):Nat→List Arc
 | 0=>[]
 | k+1=>CN mail l k++(match l[k]? with | some a=>(l.drop (k+1)).flatMap (CB mail a) | none=>[])
def EY (s:SN):List Arc:=CN s.ML s.DZ s.DZ.length
theorem ZP (mail:List ML) (l:List DI) (k:Nat):(CN mail l k).length≤k*l.length:=by
 induction k with
 | zero=>simp [CN]
 | succ k ih=>
   simp only [CN,List.length_append,Nat.add_mul,Nat.one_mul];have:(match l[k]? with | some a=>(l.drop (k+1)).flatMap (CB mail a) | none=>[]).length≤l.length:=by
    split
    ·rename_i a _;have:=aE mail a (l.drop (k+1));simp only [List.length_drop] at this;omega
    ·simp
   omega
def I4 (z:Arc):Edge:=⟨min z.From z.To,max z.From z.To⟩
theorem cA {α:Type} {l:List α} {n:Nat} {b:α}:b∈l.drop n↔∃j,n≤j∧l[j]?=some b:=by
 rw [List.mem_iff_getElem?];constructor
 ·rintro ⟨i,hi⟩;rw [List.getElem?_drop] at hi;exact ⟨n+i,Om,hi⟩
 ·rintro ⟨j,hj,h⟩;exact ⟨j-n,by rw [List.getElem?_drop,show n+(j-n)=j by omega];exact h⟩
theorem Yg {mail:List ML} {l:List DI} {z:Arc}:∀ {k:Nat},z∈CN mail l k↔∃i j a b,i<k∧i<j∧l[i]?=some a∧l[j]?=some b∧z∈CB mail a b
 | 0=>by simp [CN]
 | k+1=>by
   simp only [CN,List.mem_append,Yg (k:=k)];constructor
   ·rintro (⟨i,j,a,b,h1,h2,h3,h4,h5⟩ | h)
    ·exact ⟨i,j,a,b,Om,h2,h3,h4,h5⟩
    ·split at h
     ·rename_i a ha;obtain ⟨b,hb,hz⟩:=List.mem_flatMap.1 h;obtain ⟨j,hj,hb⟩:=cA.1 hb;exact ⟨k,j,a,b,Om,Om,ha,hb,hz⟩
     ·simp at h
   ·rintro ⟨i,j,a,b,h1,h2,h3,h4,h5⟩;by_cases hi:i=k
    ·subst hi;right;rw [h3];exact List.mem_flatMap.2 ⟨b,cA.2 ⟨j,Om,h4⟩,h5⟩
    ·exact .inl ⟨i,j,a,b,Om,h2,h3,h4,h5⟩
theorem gI {mail:List ML} {a:DI} {i:Int}:∀ {r:List DI} {n:Int},(∀(m:Nat) b,r[m]?=some b→∀z∈CB mail a b,I4 z=⟨i,n+m⟩)→((r.flatMap (CB mail a)).map I4).Pairwise fun x y=>x.lt y=true
 | [],_,_=>List.Pairwise.nil
 | b::r,n,h=>by
   rw [List.flatMap_cons,List.map_append,List.pairwise_append];have h0:=h 0 b (by simp);have hr:∀(m:Nat) c,r[m]?=some c→∀z∈CB mail a c,I4 z=⟨i,n+1+m⟩:=fun m c hc z hz=>by rw [h (m+1) c (by simpa using hc) z hz];congr 1;omega
   refine ⟨?_,gI hr,fun x hx y hy=>?_⟩
   ·have hl:=fz mail a b
    match hq:CB mail a b with
    | []=>exact List.Pairwise.nil
    | [z]=>simp
    | z::z'::w=>rw [hq] at hl;simp at hl
   ·obtain ⟨z,hz,rfl⟩:=List.mem_map.1 hx;obtain ⟨z',hz',rfl⟩:=List.mem_map.1 hy;obtain ⟨c,hc,hz'⟩:=List.mem_flatMap.1 hz';obtain ⟨m,hm⟩:=List.mem_iff_getElem?.1 hc;rw [h0 z hz,hr m c hm z' hz'];simp only [Edge.lt];have:(n+((0:Nat):Int))<n+1+(m:Int):=by omega
    rw [DT this];simp
theorem fA {mail:List ML} {l:List DI} (h:∀(i j:Nat) a b,i<j→l[i]?=some a→l[j]?=some b→∀z∈CB mail a b,I4 z=⟨i,j⟩):∀k,((CN mail l k).map I4).Pairwise fun x y=>x.lt y=true
 | 0=>List.Pairwise.nil
 | k+1=>by
   rw [CN,List.map_append,List.pairwise_append];refine ⟨fA h k,?_,fun x hx y hy=>?_⟩
   ·split
    ·rename_i a ha;refine gI (i:=k) (n:=((k+1:Nat):Int)) fun m b hb z hz=>?_;rw [List.getElem?_drop] at hb;rw [h k (k+1+m) a b Om ha hb z hz];congr 1
    ·exact List.Pairwise.nil
   ·obtain ⟨z,hz,rfl⟩:=List.mem_map.1 hx;obtain ⟨z',hz',rfl⟩:=List.mem_map.1 hy;obtain ⟨i,j,a,b,h1,h2,h3,h4,h5⟩:=Yg.1 hz;split at hz'
    ·rename_i a' ha';obtain ⟨b',hb',hz'⟩:=List.mem_flatMap.1 hz';obtain ⟨j',hj',hb'⟩:=cA.1 hb';rw [h i j a b h2 h3 h4 z h5,h k j' a' b' Om ha' hb' z' hz'];simp only [Edge.lt];have:(i:Int)<k:=by omega
     simp [this]
    ·simp at hz'
structure ArcsR (N:Nat) (r:Nat→Int) (l:List Arc):Prop where
 n:N≤64
 len:l.length≤400
 nd:l.Nodup
 ok:∀z∈l,0≤z.From∧z.From<N∧0≤z.To∧z.To<N∧r z.To.toNat<r z.From.toNat
theorem EI.num {a b:Vw} {ab ba:List Msg} (h:EI a b ab ba):(∀m∈ab,E2 m.KI→m.Num=0)∧∀m∈ba,E2 m.KI→m.Num=0:=by
 have t:∀ {e:Int} {l:List Msg},Bl e l→∀m∈l,E2 m.KI→m.Num=0:=fun hl m hm _=>(hl m hm).1.2;have s:∀ {l u w:List Msg} {k e:Int},l=u++⟨k,e,0⟩::w→(∀m∈u,E2 m.KI→m.Num=0)→(∀m∈w,E2 m.KI→m.Num=0)→∀m∈l,E2 m.KI→m.Num=0:=fun e h1 h2 m hm hk=>by
  rw [e,List.mem_append,List.mem_cons] at hm;rcases hm with hm | rfl | hm
  ·exact h1 m hm hk
  ·rfl
  ·exact h2 m hm hk
 have n:∀m∈([]:List Msg),E2 m.KI→m.Num=0:=fun m hm=>by simp at hm
 cases h with
 | no ha hb hk hle h1 h2=>exact ⟨t h1,t h2⟩
 | op x ha hx hn he ht hb hk hlt h1 h2=>exact ⟨t h1,t h2⟩
 | nw x u ha hx hn he ht hb hk hlt hab h1 h2=>exact ⟨s hab (t h1) n,t h2⟩
 | sk x ha hx hn he ht hb hk hlt h1 h2=>exact ⟨t h1,t h2⟩
 | kw x y u w ha hx hn he ht hb hy hf hk hkn hba h1 h2 h3 ho=>exact ⟨t h3,s hba (t h1) (t h2)⟩
 | lv x y ha hx he hb hy hf hk hkn h1 h2 ho=>exact ⟨t h1,t h2⟩
 | cl x y u w ha hx he hb hy hf hk hkn hab h1 h3 h2 ho=>exact ⟨s hab (t h1) (t h3),t h2⟩
 | lg x y ha hx he hb hy hf hk hkn h1 h2 ho=>exact ⟨t h1,t h2⟩
 | cd x u ha hx he hb hk hkn hba h1 h2 ho=>exact ⟨t h1,s hba (t h2) n⟩
theorem PI.num {N:List NO} {M:List ML} (h:PI N M) {i k:Nat} {a b:NO} (h6:i≠k) (ha:N[i]?=some a) (hb:N[k]?=some b):∀m∈B2 M i k,E2 m.KI→m.Num=0:=by
 rcases Nat.lt_or_gt_of_ne h6 with hlt | hlt
 ·exact (h i k a b hlt ha hb).num.1
 ·exact (h k i b a hlt hb ha).num.2
theorem jH {N:List NO} {M:List ML} (h:PI N M) {i k:Nat} {a b:NO} (h6:i≠k) (ha:N[i]?=some a) (hb:N[k]?=some b) (e:Int):decide ((⟨i,k,⟨1,e,0⟩⟩:ML)∈M)=decide (0<Bq 1 e (B2 M i k)):=by
 rw [decide_eq_decide];unfold Bq;rw [List.countP_pos_iff];constructor
 ·intro hm;exact ⟨⟨1,e,0⟩,List.mem_map.2 ⟨_,List.mem_filter.2 ⟨hm,by simp⟩,rfl⟩,by simp⟩
 ·rintro ⟨m,hm,hk⟩;simp only [Bool.and_eq_true,decide_eq_true_eq] at hk;have hn:=h.num h6 ha hb m hm (.inl hk.1);obtain ⟨z,hz,rfl⟩:=List.mem_map.1 hm;obtain ⟨h1,h2⟩:=List.mem_filter.1 hz;simp only [Bool.and_eq_true,decide_eq_true_eq] at h2;obtain ⟨f,t,⟨q,p,n⟩⟩:=z;obtain ⟨h2,h3⟩:=h2;obtain ⟨h4,h5⟩:=hk;dsimp only at h2 h3 h4 h5 hn;subst h2;subst h3;subst h4;subst h5;subst hn;exact h1
theorem ZO {N:List NO} {M:List ML} {r:Nat→Int} (h:PI N M) (hr:FS N M r) {i k:Nat} {a b:NO} (h6:i≠k) (ha:N[i]?=some a) (hb:N[k]?=some b) (E:a.DK.DI.ID=i) (J:b.DK.DI.ID=k):
  (∃x y,Ao a.DK.DI.SD k=some x∧Ao b.DK.DI.SD i=some y∧x.EP=y.EP∧((CB M a.DK.DI b.DK.DI=[⟨i,k⟩]∧r k<r i)∨(CB M a.DK.DI b.DK.DI=[⟨k,i⟩]∧r i<r k)))∨
    ((Ao a.DK.DI.SD k=none∨Ao b.DK.DI.SD i=none)∧CB M a.DK.DI b.DK.DI=[]):=by
 cases hx:Ao a.DK.DI.SD k with
 | none=>right;refine ⟨.inl rfl,?_⟩;unfold CB;rw [show C8 a.DK.DI b.DK.DI.ID=none by rw [J];exact hx]
 | some x=>
   cases hy:Ao b.DK.DI.SD i with
   | none=>right;refine ⟨.inr rfl,?_⟩;unfold CB;rw [show C8 b.DK.DI a.DK.DI.ID=none by rw [E];exact hy];cases C8 a.DK.DI b.DK.DI.ID<;>rfl
   | some y=>
     left;obtain ⟨he,h1⟩:=h.both h6 ha hb hx hy;have h1:=h1 1 (.inl rfl);obtain ⟨d1,d2,d3,d4⟩:=hr i k a b x y h6 ha hb hx hy;have f1:=jH h h6 ha hb x.EP;have f2:=jH h (fun e=>h6 e.symm) hb ha x.EP;refine ⟨x,y,rfl,rfl,he,?_⟩;unfold CB Kq;rw [show C8 a.DK.DI b.DK.DI.ID=some x by rw [J];exact hx,show C8 b.DK.DI a.DK.DI.ID=some y by rw [E];exact hy];dsimp only;rw [E,J,f1,f2,DT he,if_pos rfl];have l1:bn (Bc 1 x)=if x.FK=true then 1 else 0:=rfl
     have l2:bn (Bc 1 y)=if y.FK=true then 1 else 0:=rfl
     rw [l1,l2] at h1;unfold Ja;generalize Bq 1 x.EP (B2 M i k)=c1 at *;generalize Bq 1 x.EP (B2 M k i)=c2 at *;cases hf:x.FK with
     | true=>
       rw [hf,if_pos rfl] at h1;have h8:y.FK=false:=by
        cases h8:y.FK with
        | false=>rfl
        | true=>rw [h8,if_pos rfl] at h1;omega
       cases hd:x.DY with
       | true=>right;rw [h8];exact ⟨rfl,(d1 hf).1 hd⟩
       | false=>left;rw [h8];exact ⟨rfl,(d1 hf).2 hd⟩
     | false=>
       rw [hf,if_neg (by simp)] at h1;cases hg:y.FK with
       | true=>
         rw [hg,if_pos rfl] at h1;cases hd:y.DY with
         | true=>left;exact ⟨rfl,(d2 hg).1 hd⟩
         | false=>right;exact ⟨rfl,(d2 hg).2 hd⟩
       | false=>
         rw [hg,if_neg (by simp)] at h1;by_cases hc:0<c1
         ·right;rw [DT hc,DN (show ¬0<c2 by omega)];exact ⟨rfl,d3 hc⟩
         ·left;rw [DN hc,DT (show 0<c2 by omega)];exact ⟨rfl,d4 Om⟩
def B4 (h:HL):SN:=⟨h.NS.map (·.DK.DI),h.ML⟩
theorem Z0 {h:HL} {i:Nat} {d:DI} (E:(B4 h).DZ[i]?=some d):∃a,h.NS[i]?=some a∧d=a.DK.DI:=by unfold B4 at E;dsimp only at E;rw [List.getElem?_map] at E;obtain ⟨a,ha,rfl⟩:=Option.map_eq_some_iff.1 E;exact ⟨a,ha,rfl⟩
theorem dN {h:HL} (hk:HallOK h) {r:Nat→Int} (hp:PI h.NS h.ML) (hr:FS h.NS h.ML r) {i j:Nat} {a b:DI} (h6:i<j) (ha:(B4 h).DZ[i]?=some a) (hb:(B4 h).DZ[j]?=some b) {z:Arc} (hz:z∈CB h.ML a b):
  (z=⟨i,j⟩∧r j<r i)∨(z=⟨j,i⟩∧r i<r j):=by
 obtain ⟨a,ga,rfl⟩:=Z0 ha;obtain ⟨b,gb,rfl⟩:=Z0 hb;rcases ZO hp hr (Nat.ne_of_lt h6) ga gb (hk.nodes i a ga).1 (hk.nodes j b gb).1 with ⟨_,_,_,_,_,⟨e,hl⟩ | ⟨e,hl⟩⟩ | ⟨_,e⟩
 ·rw [e] at hz;simp at hz;exact .inl ⟨hz,hl⟩
 ·rw [e] at hz;simp at hz;exact .inr ⟨hz,hl⟩
 ·rw [e] at hz;simp at hz
theorem Z0y {h:HL} (hk:HallOK h) {r:Nat→Int} (hp:PI h.NS h.ML) (hr:FS h.NS h.ML r) {z:Arc} (hz:z∈EY (B4 h)):
  ∃i j:Nat,i<h.NS.length∧j<h.NS.length∧z=⟨i,j⟩∧r j<r i:=by
 obtain ⟨i,j,a,b,_,h6,ha,hb,hz⟩:=Yg.1 hz;have l1:=(List.getElem?_eq_some_iff.1 ha).1;have l2:=(List.getElem?_eq_some_iff.1 hb).1;have el:(B4 h).DZ.length=h.NS.length:=by simp [B4]
 rcases dN hk hp hr h6 ha hb hz with ⟨e,hl⟩ | ⟨e,hl⟩
 ·exact ⟨i,j,Om,Om,e,hl⟩
 ·exact ⟨j,i,Om,Om,e,hl⟩
theorem qk {h:HL} (hk:HallOK h) {r:Nat→Int} (hp:PI h.NS h.ML) (hr:FS h.NS h.ML r) (hn:h.NS.length≤20):ArcsR h.NS.length r (EY (B4 h)):=by
 have el:(B4 h).DZ.length=h.NS.length:=by simp [B4]
 refine ⟨Om,?_,?_,fun z hz=>?_⟩
 ·have h1:=ZP (B4 h).ML (B4 h).DZ (B4 h).DZ.length;rw [el] at h1;have h2:h.NS.length*h.NS.length≤20*20:=Nat.mul_le_mul hn hn;unfold EY;rw [el];omega
 ·have h6:=fA (mail:=(B4 h).ML) (l:=(B4 h).DZ) (fun i j a b h8 ha hb z hz=>by
   rcases dN hk hp hr h8 ha hb hz with ⟨rfl,_⟩ | ⟨rfl,_⟩
   ·unfold I4;dsimp only;rw [show min (i:Int) j=i by omega,show max (i:Int) j=j by omega]
   ·unfold I4;dsimp only;rw [show min (j:Int) i=i by omega,show max (j:Int) i=j by omega]) (B4 h).DZ.length
  have h3:((EY (B4 h)).map I4).Nodup:=by refine List.Pairwise.imp (fun {a b} hlt e=>?_) h6;rw [e] at hlt;unfold Edge.lt at hlt;simp at hlt
  exact List.Pairwise.of_map I4 (fun a b hne e=>hne (by rw [e])) h3
 ·obtain ⟨i,j,h1,h2,rfl,hl⟩:=Z0y hk hp hr hz;exact ⟨by simp,by show ((i:Nat):Int)<_;omega,by simp,by show ((j:Nat):Int)<_;omega,by simpa using hl⟩
theorem sJ {h:HL} (hh:HI h) (hr:H2 h) {i:Nat} {a:NO} (ha:h.NS[i]?=some a) (he:a.DK.DI.PH=2) {z:Arc} (hz:z∈EY (B4 h)):z.From≠i:=by
 obtain ⟨r,h6⟩:=hr.rk;obtain ⟨p,q,a',b',_,h8,ha',hb',hz'⟩:=Yg.1 hz;intro hf;have hs:=dN hh.ok hh.pi h6 h8 ha' hb' hz';obtain ⟨c,hc,rfl⟩:=Z0 ha';obtain ⟨d,hd,rfl⟩:=Z0 hb';have hv:=ZO hh.pi h6 (Nat.ne_of_lt h8) hc hd (hh.ok.nodes p c hc).1 (hh.ok.nodes q d hd).1;rcases hv with ⟨x,y,hx,hy,_,_⟩ | ⟨_,e⟩
 ·rcases hs with ⟨rfl,hl⟩ | ⟨rfl,hl⟩
  ·have hf:(p:Int)=i:=hf;have:p=i:=by omega
   subst this;rw [ha] at hc;cases hc;obtain ⟨f1,f2⟩:=(hr.eat p a ha).1 he x (E8 hx).1;have:=((h6 p q a d x y (Nat.ne_of_lt h8) ha hd hx hy).1 f1).1 f2;omega
  ·have hf:(q:Int)=i:=hf;have:q=i:=by omega
   subst this;rw [ha] at hd;cases hd;obtain ⟨f1,f2⟩:=(hr.eat q a ha).1 he y (E8 hy).1;have:=((h6 p q c a x y (Nat.ne_of_lt h8) hc ha hx hy).2.1 f1).1 f2;omega
 ·rw [show (B4 h).ML=h.ML from rfl,e] at hz';simp at hz'
def Hu:Bool→Option Bool
| x3=>some x3
def NT (x1 x2:SX):Option Bool:=
 A0 x1.FK (
 A0 (!x1.DY) (
 Hu true) (
 A0 (!x1.FK) (
 A0 x2.FK (
 Hu x2.DY) (
 Hu false)) (
 Hu false))) (
 A0 (!x1.FK) (
 A0 x2.FK (
 Hu x2.DY) (
 Hu false)) (
 Hu false))
theorem iJ {x1 x2 r} (h:NT x1 x2=some r):FPx 57 [.agg (SX.row x1),.agg (SX.row x2)] (.bv r):=by
 have ok:=oJ 57 Tryz.f57 [.t 4] 2 23;refine FP ok fun w0 H0=>?_;rw [NT] at h;refine Vg 11 ?_;refine Vl [] (fun x3=>([(4,.bv x3)],[],[])) Hu r ?_ fun J1=>?_
 ·intro x3 h;rw [Hu] at h;exact W
 ·exact W
@[go_sem] def rt:EC:=.seq (.reg [Qa 9 (.bin .lss (.t 8) (.t 7))]) (.seq (.ite (.t 9) (.skip) (.exit 0)) (.seq (.blk 1 (.seq (.reg [Qm 10 8,Qm 5 10]) (.seq (.drw [Qe 11 5 3,Qm 12 0,Qm 13 5,Qk 14 5 12 13,Qe 15 5 14,Qa 16 (.eqs false [true,true,true,true,true] (.t 11) (.t 15))] [[],[],[],[1,2],[3,1,2],[0,4,3,1,2]] [[5],[3],[3],[1,2,4],[3,5],[0,4]]) (.ite (.t 16) (.seq (.reg [Qm 17 5,Qm 4 17]) (.ret)) (.skip))))) (.reg [Qv 18 8 1,Qm 8 18])))
@[go_sem] def rr:EC:=.seq (.reg [Qx 3 113 5 1,Qi 4 0]) (.seq (.seq (.reg [Qm 6 0,Qa 7 (.len (.t 6)),Qi 8 0]) (.blk 0 (.loop rt))) (.seq (.reg [Qa 4 (.mv (.c (.iv (-1))))]) (.ret)))
def Y6:Unit→Option Int
| ()=>some (-1)
def Y7 (x1:List ML) (x2:ML):Int→Option (Int ⊕ Int)
| x5=>
 A0 (decide (x5<(ln ML.row x1))) (
 (A4 x1 x5).bind fun x6=>
 A0 (decide (x2.From=x6.From)&&(decide (x2.To=x6.To)&&(decide (x2.Msg.KI=x6.Msg.KI)&&(decide (x2.Msg.EP=x6.Msg.EP)&&(decide (x2.Msg.Num=x6.Msg.Num)&&true))))) (
 Option.map Sum.inr (some x5)) (
 some (.inl (wr (x5+1))))) (
 Option.map Sum.inr (Y6 ()))
def TE (x1:List ML) (x2:ML):Option Int:=loop (Y7 x1 x2) 0
theorem wb {x1 x2 r} (h:TE x1 x2=some r):FPx 106 [Cb x1,.agg (ML.row x2)] (.iv r):=by
 have ok:=oK 106 Tryz.f106 rr [.t 4] 2 17;refine FP ok fun w0 H0=>?_;rw [TE] at h;refine Vg 12 ?_;refine Vl [] (fun _=>([],[],[])) Y6 r ?_ fun J1=>?_
 ·rintro ⟨⟩ h;rw [Y6] at h;exact W
 ·refine Vg 1 ?_;refine Mk h [0,1,2,1,3,1] (fun x5=>[(8,.iv x5)]) ?_;rintro n1 x5 y1 h hin1 hout1;rw [Y7] at h;refine Vg 5 ?_;refine MI h (fun h=>?_) fun h=>W;refine Vg 9 ?_;have ⟨x6,ex6,h⟩:=Bs h;refine Ai fun all H=>Gs ?_;exact W
def Oc (x1:List ML) (x2:ML):Option Bool:=
 (TE x1 x2).bind fun x3=>
 some (decide (0≤x3))
theorem iS {x1 x2 r} (h:Oc x1 x2=some r):FPx 58 [Cb x1,.agg (ML.row x2)] (.bv r):=by have ok:=oJ 58 Tryz.f58 [.t 4] 2 7;refine FP ok fun w0 H0=>?_;rw [Oc] at h;refine Vg 9 ?_;refine VB h wb fun _ _ h=>?_;exact W
def c9:List Arc→Option (List Arc)
| x100=>some x100
def Xj (x47:Int):List Arc→Option ((Int×List Arc) ⊕ (List Arc))
| x92=>some (.inl (wr (x47+1),x92))
def JU (x66:Int):List Arc→Option ((Int×List Arc) ⊕ ((Int×List Arc) ⊕ (List Arc)))
| x80=>some (.inl (wr (x66+1),x80))
def Iw (x49:DI) (x66:Int) (x67:List Arc) (x68:DI):Bool→Option ((Int×List Arc) ⊕ ((Int×List Arc) ⊕ (List Arc)))
| x78=>
 A0 x78 (
 (AI 16 x67 ([Arc.mk x68.ID x49.ID])).bind fun x79=>
 (JU x66) x79) (
 (JU x66) x67)
def Iv (x1:SN) (x49:DI) (x66:Int) (x67:List Arc) (x68:DI) (x69:(SX×Bool)) (x70:(SX×Bool)):Bool→Option ((Int×List Arc) ⊕ ((Int×List Arc) ⊕ (List Arc)))
| x74=>
 A0 x74 (
 (AI 16 x67 ([Arc.mk x49.ID x68.ID])).bind fun x75=>
 (JU x66) x75) (
 (NT x70.1 x69.1).bind fun x76=>
 A0 x76 (
 (Iw x49 x66 x67 x68) x76) (
 A0 (!x69.1.FK) (
 A0 (!x70.1.FK) (
 (Oc x1.ML (ML.mk x49.ID x68.ID (Msg.mk 1 x69.1.EP 0))).bind fun x77=>
 (Iw x49 x66 x67 x68) x77) (
 (Iw x49 x66 x67 x68) false)) (
 (Iw x49 x66 x67 x68) false)))
def Iu (x1:SN) (x49:DI) (x66:Int) (x67:List Arc) (x68:DI) (x69:(SX×Bool)) (x70:(SX×Bool)):Bool→Option ((Int×List Arc) ⊕ ((Int×List Arc) ⊕ (List Arc)))
| x71=>
 A0 x71 (
 (JU x66) x67) (
 (NT x69.1 x70.1).bind fun x72=>
 A0 x72 (
 (Iv x1 x49 x66 x67 x68 x69 x70) x72) (
 A0 (!x69.1.FK) (
 A0 (!x70.1.FK) (
 (Oc x1.ML (ML.mk x68.ID x49.ID (Msg.mk 1 x69.1.EP 0))).bind fun x73=>
 (Iv x1 x49 x66 x67 x68 x69 x70) x73) (
 (Iv x1 x49 x66 x67 x68 x69 x70) false)) (
 (Iv x1 x49 x66 x67 x68 x69 x70) false)))
def NR (x1:SN) (x47:Int) (x49:DI) (x50:List DI):(Int×List Arc)→Option ((Int×List Arc) ⊕ ((Int×List Arc) ⊕ (List Arc)))
| (x66,x67)=>
 A0 (decide (x66<(ln DI.row x50))) (
 (A4 x50 x66).bind fun x68=>
 (G5 x49 x68.ID).bind fun x69=>
 (G5 x68 x49.ID).bind fun x70=>
 A0 (!x69.2) (
 (Iu x1 x49 x66 x67 x68 x69 x70) true) (
 A0 (!x70.2) (
 (Iu x1 x49 x66 x67 x68 x69 x70) true) (
 (Iu x1 x49 x66 x67 x68 x69 x70) (!decide (x69.1.EP=x70.1.EP))))) (
 Option.map Sum.inr ((Xj x47) x67))
def SA (x1:SN):(Int×List Arc)→Option ((Int×List Arc) ⊕ (List Arc))
| (x47,x48)=>
 A0 (decide (x47<(ln DI.row x1.DZ))) (
 (A4 x1.DZ x47).bind fun x49=>
 (Cj x1.DZ (wr (x47+1)) (ln DI.row x1.DZ)).bind fun x50=>
 loop (NR x1 x47 x49 x50) (0,x48)) (
 Option.map Sum.inr (c9 x48))
def NQ (x1:SN):Option (List Arc):=loop (SA x1) (0,([]:List Arc))
theorem xi {x1 r} (h:NQ x1=some r):FOx 25 [.agg (SN.row x1)] 134 2 (List.map Arc.row r):=by
 have ok:=oJ 25 Tryz.f25 [.t 2] 1 125;refine EU ok rfl fun w0 H0=>?_;rw [NQ] at h;refine Vg 17 ?_;refine Vl [] (fun x100=>([(3,.osl 0)],[],[LN x100])) c9 r ?_ fun J1=>?_
 ·intro x100 h;rw [c9] at h;refine Vg 5 ?_;exact Db Arc.row ok h rfl rfl
 ·refine Vg 1 ?_;refine CV 3 134 2 rfl rfl (Ds ?_);refine Mm h [1,1,1,1,10,2] (fun s=>([(16,.iv s.1)],[],[],[(0,LN s.2)])) ?_;rintro n1 ⟨x47,x48⟩ y1 h hin1 hout1;rw [SA] at h;refine Vg 5 ?_;refine MI h (fun h=>?_) fun h=>W;refine Vg 6 ?_;have ⟨x49,ex49,h⟩:=Bs h;refine AZ DI.row ex49 trivial rfl rfl rfl (Vg 11 ?_);have ⟨x50,ex50,h⟩:=Bs h;refine fj DI.row ex50 trivial rfl rfl rfl rfl (Vg 3 ?_);refine Vl [1,1,1,1,10,3] (fun x92=>([],[some ⟨82,SN.row x1⟩],[LN x92])) (Xj x47) y1 ?_ fun J2=>?_
  ·intro x92 h;rw [Xj] at h;exact W
  ·refine Vg 1 ?_;refine Mm h [1,1,1,1,1,1,8,3,8,2] (fun s=>([(27,.iv s.1)],[],[],[(0,LN s.2)])) ?_;rintro n2 ⟨x66,x67⟩ y2 h hin2 hout2;rw [NR] at h;refine Vg 5 ?_;refine MI h (fun h=>?_) fun h=>W;refine Vg 2 ?_;refine Vm [1,1,1,1,1,1,8,3,8,3] (fun x80=>([],[],[],[(0,LN x80)])) (JU x66) y2 ?_ fun J3=>?_
   ·intro x80 h;rw [JU] at h;exact W
   ·refine Vg 3 ?_;have ⟨x68,ex68,h⟩:=Bs h;refine AZ DI.row ex68 trivial rfl rfl rfl (Vg 9 ?_);refine VB h Mq fun x69 _ h=>?_;refine Vg 12 ?_;refine VB h Mq fun x70 _ h=>?_;refine Vg 13 ?_;refine Vk [1,1,1,1,1,1,1,2,1,1,3,3,8,3] (fun x71=>[(57,.bv x71)]) (Iu x1 x49 x66 x67 x68 x69 x70) y2 ?_ fun J4=>?_
    ·intro x71 h;rw [Iu] at h;refine MI h (fun h=>W) fun h=>?_;refine Vg 15 ?_;refine VB h iJ fun _ _ h=>?_;refine Vg 2 ?_;refine Vk [1,1,1,1,1,1,1,2,1,1,1,1,1,3,8,3] (fun x74=>[(61,.bv x74)]) (Iv x1 x49 x66 x67 x68 x69 x70) y2 ?_ fun J5=>?_
     ·intro x74 h;rw [Iv] at h;refine MI h (fun h=>?_) fun h=>?_
      ·refine Vg 8 ?_;have ⟨x75,ex75,h⟩:=Bs h;refine BP Arc.row ex75 trivial rfl rfl rfl (Vg 4 ?_);refine A7 2 0 ?_;exact W
      ·refine Vg 5 ?_;refine VB h iJ fun _ _ h=>?_;refine Vg 2 ?_;refine Vl [1,1,1,1,1,1,1,1,6,3,8,3] (fun x78=>([(92,.bv x78)],[some ⟨82,SN.row x1⟩,some ⟨38,DI.row x49⟩,some ⟨38,DI.row x68⟩],[LN x67])) (Iw x49 x66 x67 x68) y2 ?_ fun J6=>?_
       ·intro x78 h;rw [Iw] at h;refine MI h (fun h=>?_) fun h=>W;refine Vg 8 ?_;have ⟨x79,ex79,h⟩:=Bs h;refine BP Arc.row ex79 trivial rfl rfl rfl (Vg 4 ?_);refine A7 2 0 ?_;exact W
       ·refine MI h (fun h=>W) fun h=>?_;refine Vg 5 ?_;refine MC 99 h (fun h=>?_) fun h=>W;refine Vg 5 ?_;refine MC 104 h (fun h=>?_) fun h=>W;refine Vg 8 ?_;refine VB h iS fun _ _ h=>?_;exact W
     ·refine MI h (fun h=>W) fun h=>?_;refine Vg 5 ?_;refine MC 68 h (fun h=>?_) fun h=>W;refine Vg 5 ?_;refine MC 73 h (fun h=>?_) fun h=>W;refine Vg 8 ?_;refine VB h iS fun _ _ h=>?_;exact W
    ·exact W
theorem vB {x1 r} (h:NQ x1=some r):FPx 25 [.agg (SN.row x1)] (FU r):=(xi h).sealed
def VD:Bool→Option Bool
| x3=>some x3
def MT (x1 x2:Int):Option Bool:=
 A0 (decide (0≤x1)) (
 VD (decide (x1<x2))) (
 VD false)
theorem ix {x1 x2 r} (h:MT x1 x2=some r):FPx 107 [.iv x1,.elt (Ad x2) 0] (.bv r):=by
 have ok:=oJ 107 Tryz.f107 [.t 3] 2 9;refine FP ok fun w0 H0=>?_;rw [MT] at h;refine Vg 9 ?_;refine Vk [] (fun x3=>[(3,.bv x3)]) VD r ?_ fun J1=>?_
 ·intro x3 h;rw [VD] at h;exact W
 ·exact W
@[go_sem] def rP:EC:=.seq (.reg [Qa 9 (.bin .lss (.t 8) (.t 7))]) (.seq (.ite (.t 9) (.skip) (.exit 0)) (.seq (.blk 1 (.seq (.reg [Qm 10 8,Qm 5 10]) (.seq (.drw [Qe 11 2 3,Qm 12 0,Qm 13 5,Qk 14 2 12 13,Qe 15 2 14,Qa 16 (.eqs false [true,true] (.t 11) (.t 15))] [[],[],[],[1,2],[3,1,2],[0,4,3,1,2]] [[5],[3],[3],[1,2,4],[3,5],[0,4]]) (.ite (.t 16) (.seq (.reg [Qm 17 5,Qm 4 17]) (.ret)) (.skip))))) (.reg [Qv 18 8 1,Qm 8 18])))
@[go_sem] def rO:EC:=.seq (.reg [Qx 3 134 2 1,Qi 4 0]) (.seq (.seq (.reg [Qm 6 0,Qa 7 (.len (.t 6)),Qi 8 0]) (.blk 0 (.loop rP))) (.seq (.reg [Qa 4 (.mv (.c (.iv (-1))))]) (.ret)))
def Y4:Unit→Option Int
| ()=>some (-1)
def Y5 (x1:List Arc) (x2:Arc):Int→Option (Int ⊕ Int)
| x5=>
 A0 (decide (x5<(ln Arc.row x1))) (
 (A4 x1 x5).bind fun x6=>
 A0 (decide (x2.From=x6.From)&&(decide (x2.To=x6.To)&&true)) (
 Option.map Sum.inr (some x5)) (
 some (.inl (wr (x5+1))))) (
 Option.map Sum.inr (Y4 ()))
def TD (x1:List Arc) (x2:Arc):Option Int:=loop (Y5 x1 x2) 0
theorem wa {x1 x2 r} (h:TD x1 x2=some r):FPx 174 [FU x1,.agg (Arc.row x2)] (.iv r):=by
 have ok:=oK 174 Tryz.f174 rO [.t 4] 2 17;refine FP ok fun w0 H0=>?_;rw [TD] at h;refine Vg 12 ?_;refine Vl [] (fun _=>([],[],[])) Y4 r ?_ fun J1=>?_
 ·rintro ⟨⟩ h;rw [Y4] at h;exact W
 ·refine Vg 1 ?_;refine Mk h [0,1,2,1,3,1] (fun x5=>[(8,.iv x5)]) ?_;rintro n1 x5 y1 h hin1 hout1;rw [Y5] at h;refine Vg 5 ?_;refine MI h (fun h=>?_) fun h=>W;refine Vg 9 ?_;have ⟨x6,ex6,h⟩:=Bs h;refine Ai fun all H=>Gs ?_;exact W
def Th (x1:List Arc) (x2:Arc):Option Bool:=
 (TD x1 x2).bind fun x3=>
 some (decide (0≤x3))
theorem vY {x1 x2 r} (h:Th x1 x2=some r):FPx 108 [FU x1,.agg (Arc.row x2)] (.bv r):=by have ok:=oJ 108 Tryz.f108 [.t 4] 2 7;refine FP ok fun w0 H0=>?_;rw [Th] at h;refine Vg 9 ?_;refine VB h wa fun _ _ h=>?_;exact W
def bN:Unit→Option Int
| ()=>some 0
def KA (x11:Int):Bool→Option (Int ⊕ Int)
| x17=>
 A0 x17 (
 Option.map Sum.inr (some 40)) (
 some (.inl (wr (x11+1))))
def VE (x1:Int) (x2:List Arc):Int→Option (Int ⊕ Int)
| x11=>
 A0 (decide (x11<(ln Arc.row x2))) (
 (A4 x2 x11).bind fun x12=>
 (MT x12.From x1).bind fun x13=>
 A0 (!x13) (
 (KA x11) true) (
 (MT x12.To x1).bind fun x14=>
 A0 (!x14) (
 (KA x11) true) (
 A0 (decide (x12.From=x12.To)) (
 (KA x11) true) (
 (Cj x2 0 x11).bind fun x15=>
 (Th x15 x12).bind fun x16=>
 (KA x11) x16)))) (
 Option.map Sum.inr (bN ()))
def MU (x1:Int) (x2:List Arc):Bool→Option Int
| x3=>
 A0 x3 (
 some 40) (
 loop (VE x1 x2) 0)
def MR (x1:Int) (x2:List Arc):Option Int:=
 A0 (decide (x1<0)) (
 (MU x1 x2) true) (
 A0 (decide (64<x1)) (
 (MU x1 x2) true) (
 (MU x1 x2) (decide (400<(ln Arc.row x2)))))
theorem iw {x1 x2 r} (h:MR x1 x2=some r):FPx 59 [.iv x1,FU x2] (.iv r):=by
 have ok:=oJ 59 Tryz.f59 [.t 4] 2 52;refine FP ok fun w0 H0=>?_;rw [MR] at h;refine Vg 16 ?_;refine Vk [1,1,3,1] (fun x3=>[(19,.bv x3)]) (MU x1 x2) r ?_ fun J1=>?_
 ·intro x3 h;rw [MU] at h;refine MI h (fun h=>W) fun h=>?_;refine Vg 8 ?_;refine Vl [] (fun _=>([],[],[])) bN r ?_ fun J2=>?_
  ·rintro ⟨⟩ h;rw [bN] at h;exact W
  ·refine Vg 1 ?_;refine Mk h [1,1,3,1,14,2] (fun x11=>[(22,.iv x11)]) ?_;rintro n1 x11 y1 h hin1 hout1;rw [VE] at h;refine Vg 5 ?_;refine MI h (fun h=>?_) fun h=>W;refine Vg 6 ?_;have ⟨x12,ex12,h⟩:=Bs h;refine AZ Arc.row ex12 trivial rfl rfl rfl (Vg 6 ?_);refine Vl [1,1,3,1,14,3] (fun x17=>([(52,.bv x17)],[some ⟨3,[.iv x1]⟩],[])) (KA x11) y1 ?_ fun J3=>?_
   ·intro x17 h;rw [KA] at h;exact W
   ·refine Ai fun all H=>Ds (GP H 3 23 [3,23] [(27,[.clo 107 [.ptr 0 0],.ptr 1 0,.iv x12.From])] (Ds ?_));refine A6 3 rfl ?_;have ⟨x13,ex13,h⟩:=Bs h;refine IX H.1 rfl trivial (LR.block 0 rfl rfl) rfl (ix ex13) (by kernel_rfl) (h:=?_);refine Gn H 2 20 ?_;refine BJ 32 h rfl (fun _ h=>?_) fun _ h=>?_
    ·refine Ds (GP H 20 0 [26] [(33,ux 5 (.tt::.tt::ux 5 (.tt::.tt::ux 5 [.tt])))] (Ds ?_));refine GD ?_;exact W
    ·refine Ds (GP H 3 17 [9,17] [(33,[.clo 107 [.ptr 0 0],.ptr 1 1,.iv x12.To])] (Ds ?_));refine A6 9 rfl ?_;have ⟨x14,ex14,h⟩:=Bs h;refine IX H.1 rfl trivial (LR.block 0 rfl rfl) rfl (ix ex14) (by kernel_rfl) (h:=Ds ?_);refine GP H 3 13 [13,13] [(37,[.bv (!x14),.bv (!x14),.bv (!x14)])] (Ds ?_);refine BJ 39 h rfl (fun _ h=>?_) fun _ h=>?_
     ·refine Ds (GP H 13 0 [26] [(40,ux 5 (.tt::.tt::ux 5 [.tt]))] (Ds ?_));refine GD ?_;exact W
     ·refine Ds (GP H 7 6 [20,6] [(40,[.ptr 1 0,.iv x12.From,.ptr 1 1,.iv x12.To,.bv (decide (x12.From=x12.To)),.bv (decide (x12.From=x12.To)),.bv (decide (x12.From=x12.To))])] (Ds ?_));refine BJ 46 h rfl (fun _ h=>?_) fun _ h=>?_
      ·refine Ds (GP H 6 0 [26] [(47,ux 5 [.tt])] (Ds ?_));refine GD ?_;exact W
      ·refine Ds (GP H 3 3 [22,1,1,2] [(47,[FU x2,.iv x11]),(1,[.agg (Arc.row x12)])] (Ds ?_));have ⟨x15,ex15,h⟩:=Bs h;refine Zv H.1 H.2.1 H.2.2.1 H.2.2.2 22 Arc.row ex15 rfl rfl trivial rfl rfl rfl rfl rfl (Ds ?_);refine RB h vY fun _ _ h=>?_;refine Gn H 1 0 ?_;refine GD ?_;exact W
 ·exact W
@[go_sem] def ge:EC:=eQ Tryz.f223
@[go_sem] def gc:EC:=eQ Tryz.f175
@[go_sem] def g9:EC:=eQ Tryz.f109
theorem Z19 {p:Int→Prop} (h:∀k:Fin 65,p (k.val:Int)) {n:Int} (h0:0≤n) (h1:n≤64):p n:=by have:=h ⟨n.toNat,Om⟩;simpa [Int.toNat_of_nonneg h0] using this
def Ei (m k:Nat):List (List AV):=List.replicate k (DW true)++List.replicate (m-k) [.ff]
theorem kR {ns:Nat}:∀ {a b:List (List AV)},C4 ns a=true→C4 ns b=true→C4 ns (a++b)=true
 | [],_,_,h=>h
 | r::a,b,h1,h2=>by simp only [C4,AO,List.cons_append] at h1 ⊢;exact ⟨h1.1,kR h1.2 h2⟩
theorem dp (ns m k:Nat):C4 ns (Ei m k)=true:=kR (YB rfl _) (YB rfl _)
theorem lU {m k:Nat} (h:k≤m):(Ei m k).length=m:=by simp [Ei];omega
theorem yN (m:Nat):(List.map DW [true]).take (min (List.map DW [true]).length (List.replicate m [AV.ff]).length)++(List.replicate m [AV.ff]).drop (min (List.map DW [true]).length (List.replicate m [AV.ff]).length)=Ei m (min 1 m):=by
 cases m with
 | zero=>rfl
 | succ m=>simp [Ei]
theorem lV {m k:Nat} (h:k<m):(Ei m k).take k++((Ei m k).take (0+min k (m-k))).drop 0++(Ei m k).drop (k+min k (m-k))=Ei m (k+min k (m-k)):=by
 unfold Ei;refine List.ext_getElem? fun i=>?_;simp only [List.getElem?_append,List.getElem?_take,List.getElem?_drop,List.getElem?_replicate,List.length_append,List.length_take,List.length_drop,List.length_replicate]
 (repeat' split)<;>first | rfl | (exfalso;omega)
theorem yM (m:Nat):Ei m m=List.map DW (List.replicate m true):=by simp [Ei]
theorem eV {n:Int} (h0:0≤n) (h1:n≤1000):wr n=n:=IntWalk.i64_in n ⟨Om,Om⟩
theorem Z23 {n:Int} (h0:0≤n) (h1:n≤64):wr n=n:=IntWalk.i64_in n ⟨Om,Om⟩
theorem uA (n:Int) (h0:0≤n) (h1:n≤64):FPx 223 [.kv .u64 1,.kv .u64 n] (.tup [.kv .u64 0,.kv .u64 n]):=by
 obtain ⟨k,rfl⟩:∃k:Fin 65,n=(k.val:Int):=⟨⟨n.toNat,Om⟩,by simp;omega⟩
 clear h0 h1;have ok:=oK 223 Tryz.f223 ge [.t 4,.t 5] 2 49;refine FP ok fun w0 H0=>?_;refine Ah 100 ?_;dsimp only [ge,go_sem];refine An ?_;have Af:∀x y:Int,x=0→y=k.val→AV.le (.tup [.kv .u64 x,.kv .u64 y]) (.tup [.kv .u64 0,.kv .u64 (k.val:Int)]):=by rintro _ _ rfl rfl;exact le_refl _
 exact MD (r:=()) ok rfl (fun _=>Af _ _ (by clear Af;revert k;decide) (by clear Af;revert k;decide))
theorem uz (n:Int) (h0:0≤n) (h1:n≤64):FPx 175 [.kv .u64 1,.kv .u64 n] (.tup [.kv .u64 0,.kv .u64 n]):=by have ok:=oK 175 Tryz.f175 gc [.t 4,.t 5] 2 28;refine FP ok fun w0 H0=>?_;refine Ah 100 ?_;dsimp only [gc,go_sem];refine An ?_;refine VC (uA n h0 h1) ?_;refine Ah 100 ?_;dsimp only[go_sem];refine An ?_;exact MD (r:=()) ok rfl (by first | exact le_refl _ | simp [go_sem])
def TI (x1:List Bool) (x2:Int):Option (List Bool):=if x1=[true]∧0≤x2∧x2≤64 then some (List.replicate x2.toNat true) else none
theorem xl {x1 x2 r} (h:TI x1 x2=some r):FOx 109 [f0 x1,.iv x2] 4 1 (List.map DW r):=by
 unfold TI at h;split at h
 ·rename_i hc;obtain ⟨rfl,h0,h1⟩:=hc;simp only [Option.some.injEq] at h;subst h;have ok:=oK 109 Tryz.f109 g9 [.t 4] 2 46;refine EU ok rfl (fun w0 H0=>?_) (hpr:=lA (fun _=>rfl) _);refine Ah 100 ?_;dsimp only [g9,go_sem];refine An ?_;refine Ex rfl (fun e=>absurd e (by rw [decide_eq_false Om];simp)) fun _=>?_;refine Ah 100 ?_;dsimp only[go_sem];refine An ?_;rw [show kw .u64 ((List.map DW [true]).length:Int)=1 by decide,show kw .u64 x2=x2 from Z19 (p:=fun n=>kw .u64 n=n) (by decide) h0 h1];refine VC (uz x2 h0 h1) ?_;refine Vs ?_;refine ZC 23 .ff rfl ?_;refine Vs ?_;refine ZC 26 .ff (decide_eq_false Om) ?_;refine Vs ?_;rw [Z23 h0 h1];obtain ⟨m,rfl⟩:∃m:Nat,x2=m:=⟨x2.toNat,Om⟩
  refine AU trivial (na (m:=m) rfl rfl h0 Om Om rfl) rfl ?_;refine Ah 100 ?_;dsimp only[go_sem];refine An ?_;refine AU trivial (Z0N (j:=0) rfl rfl rfl) rfl ?_;refine Ah 100 ?_;dsimp only[go_sem];refine An ?_;rw [show (m:Int).toNat=m from rfl,yN];have hm1:min (List.map DW [true]).length (List.replicate m [AV.ff]).length=min 1 m:=by simp
  rw [hm1];refine fh (X:=Nat) (fun k=>k≤m∧(0<m→0<k)) (fun k=>⟨an 7 (.osl 0 :: .iv k::an 39 []),[],[some ⟨4,1,Ei m k⟩]⟩) (fun k=>m-k) (min 1 m) (by simp [go_sem]) (by simp [go_sem,dp]) rfl rfl ⟨Om,Om⟩ ?_;rintro n k ⟨hk1,hk2⟩ ih;refine Ah 100 ?_;dsimp only[go_sem];refine An ?_;rw [lU hk1];refine Ex rfl (fun hlt=>?_) fun hge=>?_
  ·have hlt:k<m:=by simpa using hlt
   have hl:=lU hk1;refine Ah 100 ?_;dsimp only[go_sem];refine An ?_;refine Ai fun all H=>?_;dsimp only[go_sem];refine GN H 5 5 ?_;dsimp only[go_sem];refine An ?_;refine Ag 3 6 rfl ?_ ?_
   ·refine Bk H.1 (i:=3) trivial (E9 (lo:=some (.t 40)) (hi:=none) (l:=k) (h:=((Ei m k).length:Nat)) rfl rfl Om rfl rfl Om Om Om) rfl (Cg _ _) ?_;dsimp only[go_sem];refine A6 6 rfl ?_;refine Bk H.1 (i:=6) trivial (E9 (lo:=none) (hi:=some (.t 43)) (l:=0) (h:=k) rfl rfl Om rfl rfl Om Om Om) rfl (Cg _ _) ?_;dsimp only[go_sem];refine A6 7 rfl ?_;refine Bk H.1 (i:=7) trivial (n6 (j:=0) (o1:=k) (m1:=(Ei m k).length-k) (o2:=0) (m2:=k) rfl rfl rfl Om Om Om Om Om) rfl (fun _ _ _ _ h _ _=>h) ?_;dsimp only[go_sem];rw [hl,lV hlt];refine GN H 2 0 ?_;dsimp only[go_sem];refine An ?_;refine GD ?_;refine Ah 100 ?_;dsimp only[go_sem];refine An ?_;have hw:wr ((k:Int)+(min k (m-k):Nat))=(k+min k (m-k):Nat):=by rw [eV Om Om];omega
    rw [hw];exact LQ _ (by simp [go_sem]) (by simp [go_sem,dp]) (h:=ih (k+min k (m-k)) ⟨Om,Om⟩ Om)
   ·refine Bk H.1 (i:=6) trivial (E9 (lo:=none) (hi:=some (.t 43)) (l:=0) (h:=k) rfl rfl Om rfl rfl Om Om Om) rfl (Cg _ _) ?_;dsimp only[go_sem];refine A6 3 rfl ?_;refine Bk H.1 (i:=3) trivial (E9 (lo:=some (.t 40)) (hi:=none) (l:=k) (h:=((Ei m k).length:Nat)) rfl rfl Om rfl rfl Om Om Om) rfl (Cg _ _) ?_;dsimp only[go_sem];refine A6 7 rfl ?_;refine Bk H.1 (i:=7) trivial (n6 (j:=0) (o1:=k) (m1:=(Ei m k).length-k) (o2:=0) (m2:=k) rfl rfl rfl Om Om Om Om Om) rfl (fun _ _ _ _ h _ _=>h) ?_;dsimp only[go_sem];rw [hl,lV hlt];refine GN H 2 0 ?_;dsimp only[go_sem];refine An ?_;refine GD ?_;refine Ah 100 ?_;dsimp only[go_sem];refine An ?_;have hw:wr ((k:Int)+(min k (m-k):Nat))=(k+min k (m-k):Nat):=by rw [eV Om Om];omega
    rw [hw];exact LQ _ (by simp [go_sem]) (by simp [go_sem,dp]) (h:=ih (k+min k (m-k)) ⟨Om,Om⟩ Om)
  ·have hge:k=m:=by simp at hge;omega
   subst hge;refine Ah 100 ?_;dsimp only[go_sem];refine An ?_;rw [yM];exact Db DW (e:=List.replicate k true) ok rfl rfl rfl
 ·simp at h
def VG:Bool→Option Bool
| x5=>some x5
def QA (x1:Arc) (x2:Int) (x3:List Bool):Option Bool:=
 A0 (decide (x1.To=x2)) (
 (A4 x3 x1.From).bind fun x4=>
 VG x4) (
 VG false)
theorem uP {x1 x2 x3 r} (h:QA x1 x2 x3=some r):FPx 110 [.agg (Arc.row x1),.elt (Ad x2) 0,.elt ((Ci 1 DW) x3) 0] (.bv r):=by
 have ok:=oJ 110 Tryz.f110 [.t 4] 3 13;refine FP ok fun w0 H0=>?_;rw [QA] at h;refine Vg 12 ?_;refine Vl [] (fun x5=>([(4,.bv x5)],[],[])) VG r ?_ fun J1=>?_
 ·intro x5 h;rw [VG] at h;exact W
 ·exact W
def XO:Unit→Option Int
| ()=>some (-1)
def XP (x1:List Arc) (p1:(Arc→Option Bool)):Int→Option (Int ⊕ Int)
| x5=>
 A0 (decide (x5<(ln Arc.row x1))) (
 (A4 x1 x5).bind fun x6=>
 (p1 x6).bind fun x7=>
 A0 x7 (
 Option.map Sum.inr (some x5)) (
 some (.inl (wr (x5+1))))) (
 Option.map Sum.inr (XO ()))
def Tx (x1:List Arc) (p1:(Arc→Option Bool)):Option Int:=loop (XP x1 p1) 0
theorem w7 {x1 g1 caps1 p1 r} (h:Tx x1 p1=some r) (hc1:CloOK Tryz.prog g1 caps1 (fun z=>[.agg (Arc.row z)]) p1 (fun z=>.bv z)):FPx 176 [FU x1,.clo g1 caps1] (.iv r):=by
 have ok:=oJ 176 Tryz.f176 [.t 4] 2 17;refine FP ok fun w0 H0=>?_;rw [Tx] at h;refine Vg 11 ?_;refine Vk [] (fun _=>[]) XO r ?_ fun J1=>?_
 ·rintro ⟨⟩ h;rw [XO] at h;refine Vg 4 ?_;exact MD ok h
 ·refine Vg 1 ?_;refine Mk h [0,2,5,1] (fun x5=>[(8,.iv x5)]) ?_ (hok:=by intro x5;first | rfl | (simp [go_sem];done) | simp [go_sem,Ax _ hc1.pu]);rintro n1 x5 y1 h hin1 hout1;rw [XP] at h;refine Vg 5 ?_;refine MI h (fun h=>?_) fun h=>?_
  ·refine Vg 13 ?_;have ⟨x6,ex6,h⟩:=Bs h;refine AZ Arc.row ex6 trivial rfl rfl rfl (Vg 1 ?_);have ⟨x7,ex7,h⟩:=Bs h;refine Dy trivial rfl hc1 (x:=x6) ex7 (by first | exact Am _ | simp [go_sem]) (by first | rfl | simp [go_sem,hc1.pu]) (Vg 1 ?_);refine MI h (fun h=>?_) fun h=>?_
   ·refine Vg 5 ?_;exact MD ok (BY h hout1)
   ·refine Vg 6 ?_;exact Da h hin1 (hok:=by first | rfl | simp [go_sem,Ax _ hc1.pu])
  ·refine Vg 1 ?_;exact AQ J1 (BY h hout1) (hok:=by first | rfl | simp [go_sem,Ax _ hc1.pu])
def O8 (x1:List Arc) (p1:(Arc→Option Bool)):Option Bool:=
 (Tx x1 p1).bind fun x2=>
 some (decide (0≤x2))
theorem vV {x1 g1 caps1 p1 r} (h:O8 x1 p1=some r) (hc1:CloOK Tryz.prog g1 caps1 (fun z=>[.agg (Arc.row z)]) p1 (fun z=>.bv z)):FPx 111 [FU x1,.clo g1 caps1] (.bv r):=by have ok:=oJ 111 Tryz.f111 [.t 4] 2 7;refine FP ok fun w0 H0=>?_;rw [O8] at h;refine Vg 8 ?_;refine VB h (fun e=>w7 e hc1) (fun _ _ h=>?_) (hp:=(by first | rfl | simp [go_sem,hc1.pu]));refine Vg 3 ?_;exact MD ok h
def bP (x22:List Bool) (x23:List Int):Unit→Option ((List Bool×List Int) ⊕ (List Int×List Bool))
| ()=>Option.map Sum.inr (some (x23,x22))
def KB (x22:List Bool) (x23:List Int) (x29:Int):Bool→Option (Int ⊕ ((List Bool×List Int) ⊕ (List Int×List Bool)))
| x32=>
 A0 x32 (
 (AI 8 x23 ([x29])).bind fun x33=>
 Option.map Sum.inr (some (.inl (x22.set (Int.toNat (x29)) false,x33)))) (
 some (.inl (wr (x29+1))))
def MX (x1:Int) (x2:List Arc) (x22:List Bool) (x23:List Int):Int→Option (Int ⊕ ((List Bool×List Int) ⊕ (List Int×List Bool)))
| x29=>
 A0 (decide (x29<x1)) (
 (A4 x22 x29).bind fun x30=>
 A0 x30 (
 (O8 x2 ((fun z=>QA z x29 x22))).bind fun x31=>
 (KB x22 x23 x29) (!x31)) (
 (KB x22 x23 x29) false)) (
 Option.map Sum.inr ((bP x22 x23) ()))
def QB (x1:Int) (x2:List Arc):(List Bool×List Int)→Option ((List Bool×List Int) ⊕ (List Int×List Bool))
| (x22,x23)=>loop (MX x1 x2 x22 x23) 0
def Qz (x1:Int) (x2:List Arc):Option (List Int×List Bool):=
 (TI ([true]) x1).bind fun x3=>
 loop (QB x1 x2) (x3,([]:List Int))
theorem uO {x1 x2 r} (h:Qz x1 x2=some r):FPx 60 [.iv x1,FU x2] (.tup [Ab r.1,f0 r.2]):=by
 have ok:=oJ 60 Tryz.f60 [.t 4,.c 5 none] 2 34;refine FP ok fun w0 H0=>?_;rw [Qz] at h;refine Vg 10 ?_;refine Ae 0 (Ds ?_);have ⟨x3,ex3,h⟩:=Bs h;refine Ec trivial (xl ex3) (h:=?_);refine Vg 4 ?_;refine CV 4 3 1 rfl rfl (Ds ?_);refine eW h (fun ((x22,x23):(List Bool×List Int))=>⟨(.iv x1 :: FU x2 :: .any :: .any :: .osl 2 :: .ptr 0 0::an 30 []),[some ⟨136,[.osl 1]⟩],[none,oY x22,A5 x23]⟩) (by simp [go_sem]) (by rintro ⟨x22,x23⟩;first | rfl | simp [go_sem]) (by rintro ⟨x22,x23⟩;rfl) (by rintro ⟨x22,x23⟩;rfl) ?_;rintro ⟨x22,x23⟩ y1 h hin1 hout1;rw [QB] at h;refine Vg 6 ?_;refine Vk [4,2] (fun _=>[]) (bP x22 x23) y1 ?_ fun J1=>?_
 ·rintro ⟨⟩ h;rw [bP] at h;refine Vg 1 ?_;refine Ai fun all H=>?_;refine Gn H 2 2 ?_;refine R1 ?_;refine R1 ?_;refine GD (Ae 2 (Ds ?_));refine Ae 1 ?_;exact W
 ·refine Vg 1 ?_;refine Mk h [0,2,2,2,5,1] (fun x29=>[(12,.iv x29)]) ?_;rintro n2 x29 y2 h hin2 hout2;rw [MX] at h;refine Vg 5 ?_;refine MI h (fun h=>?_) fun h=>W;refine Vg 18 ?_;have ⟨x30,ex30,h⟩:=Bs h;refine BR DW ex30 trivial rfl rfl rfl (CA DW ex30 trivial rfl rfl rfl (Vg 1 ?_));refine Vk [0,2,2,3,4,2] (fun x32=>[(25,.bv x32)]) (KB x22 x23 x29) y2 ?_ fun J2=>?_
  ·intro x32 h;rw [KB] at h;refine MI h (fun h=>?_) fun h=>W;refine Vg 4 ?_;refine BR DW ex30 trivial rfl rfl rfl (Dz [.bv false] DW (y':=false) ex30 trivial rfl rfl rfl (by first | exact Am _ | simp [go_sem]) rfl rfl rfl rfl (Vg 6 ?_));have ⟨x33,ex33,h⟩:=Bs h;refine BP Ad ex33 trivial rfl rfl rfl (Vg 5 ?_);refine A7 4 2 (Ds ?_);exact Da (BY h hout2) hin1
  ·refine MC 20 h (fun h=>?_) fun h=>W;refine Vg 2 ?_;refine VN (((LR.slice 1 rfl).block 0 rfl rfl).block 1 rfl rfl) h (fun e=>vV e ⟨by kernel_rfl,rfl,fun z r hz=>uP hz⟩) fun _ _ h=>?_;exact W
def Qu (x1:Int) (x2:List Arc):Option (List Int×Bool):=
 (MR x1 x2).bind fun x3=>
 A0 (!decide (x3=0)) (
 some (([]:List Int),false)) (
 (Qz x1 x2).bind fun x4=>
 A0 (decide ((ln Ad x4.1)<x1)) (
 some (([]:List Int),false)) (
 some (x4.1,true)))
theorem uM {x1 x2 r} (h:Qu x1 x2=some r):FPx 27 [.iv x1,FU x2] (.tup [Ab r.1,.bv r.2]):=by
 have ok:=oJ 27 Tryz.f27 [.t 4,.t 5] 2 21;refine FP ok fun w0 H0=>?_;rw [Qu] at h;refine Vg 10 ?_;refine VB h iw fun _ _ h=>?_;refine Vg 2 ?_;refine MI h (fun h=>W) fun h=>?_;refine Vg 5 ?_;refine VB h uO fun _ _ h=>?_;exact W
def bO:List Int→Option (List Int)
| x41=>some x41
def MW (x18:Int):List Int→Option ((Int×List Int) ⊕ (List Int))
| x34=>some (.inl (wr (x18+1),x34))
def VF (x18:Int) (x19:List Int):Unit→Option ((Int×List Int) ⊕ (List Int))
| ()=>
 (AI 8 x19 ([x18])).bind fun x33=>
 (MW x18) x33
def Qy (x2:List Arc) (x18:Int) (x19:List Int):Int→Option (Int ⊕ ((Int×List Int) ⊕ (List Int)))
| x22=>
 A0 (decide (x22<(ln Arc.row x2))) (
 (A4 x2 x22).bind fun x23=>
 A0 (decide (x23.From=x18)) (
 Option.map Sum.inr ((MW x18) x19)) (
 some (.inl (wr (x22+1))))) (
 Option.map Sum.inr ((VF x18 x19) ()))
def Qw (x1:Int) (x2:List Arc):(Int×List Int)→Option ((Int×List Int) ⊕ (List Int))
| (x18,x19)=>
 A0 (decide (x18<x1)) (
 loop (Qy x2 x18 x19) 0) (
 Option.map Sum.inr (bO x19))
def MV (x1:Int) (x2:List Arc):Option (List Int):=
 (MR x1 x2).bind fun x3=>
 A0 (!decide (x3=0)) (
 some (([]:List Int))) (
 loop (Qw x1 x2) (0,([]:List Int)))
theorem xf {x1 x2 r} (h:MV x1 x2=some r):FOx 28 [.iv x1,FU x2] 3 1 (List.map Ad r):=by
 have ok:=oJ 28 Tryz.f28 [.t 4] 2 32;refine EU ok rfl fun w0 H0=>?_;rw [MV] at h;refine Vg 14 ?_;refine VB h iw fun _ _ h=>?_;refine Vg 2 ?_;refine MI h (fun h=>?_) fun h=>?_
 ·refine Vg 4 ?_;refine CV 4 3 1 rfl rfl (Ds ?_);exact Db Ad ok h rfl rfl
 ·refine Vg 9 ?_;refine Vl [] (fun x41=>([(5,.osl 0)],[],[A5 x41])) bO r ?_ fun J1=>?_
  ·intro x41 h;rw [bO] at h;refine Vg 5 ?_;exact Db Ad ok h rfl rfl
  ·refine Vg 1 ?_;refine CV 5 3 1 rfl rfl (Ds ?_);refine Ml h [1,1,3,1,7,1] (fun s=>([(14,.iv s.1)],[],[A5 s.2])) ?_;rintro n1 ⟨x18,x19⟩ y1 h hin1 hout1;rw [Qw] at h;refine Vg 5 ?_;refine MI h (fun h=>?_) fun h=>W;refine Vg 2 ?_;refine Vl [1,1,3,1,7,2] (fun x34=>([],[],[A5 x34])) (MW x18) y1 ?_ fun J2=>?_
   ·intro x34 h;rw [MW] at h;exact W
   ·refine Vg 13 ?_;refine Vk [1,1,3,2,6,2] (fun _=>[]) (VF x18 x19) y1 ?_ fun J3=>?_
    ·rintro ⟨⟩ h;rw [VF] at h;refine Vg 4 ?_;have ⟨x33,ex33,h⟩:=Bs h;refine BP Ad ex33 trivial rfl rfl rfl (Vg 3 ?_);refine A7 2 0 ?_;exact W
    ·refine Vg 1 ?_;refine Mk h [1,1,3,2,6,2,2,2] (fun x22=>[(19,.iv x22)]) ?_;rintro n2 x22 y2 h hin2 hout2;rw [Qy] at h;exact W
theorem uN {x1 x2 r} (h:MV x1 x2=some r):FPx 28 [.iv x1,FU x2] (Ab r):=(xf h).sealed
theorem ou (x y:Arc):(decide (x.From=y.From)&&(decide (x.To=y.To)&&true))=decide (x=y):=by rw [Bool.eq_iff_iff];cases x;cases y;simp [Arc.mk.injEq]
def Kp (l:List DI):Prop:=l.length≤5000∧∀d∈l,d.SD.length≤100000
theorem LB (d:DI) (p:Int) (hl:d.SD.length≤1000000):G5 d p=some (El (C8 d p)):=by
 simp only [G5];rw [Lz d.SD (fun z=>SB z p) (fun x=>decide (x.PE=p)) Om (fun x _=>rfl),OB,YK];have:=aw (fun x:SX=>decide (x.PE=p)) d.SD;unfold C8;cases h:d.SD.findIdx? (fun x=>decide (x.PE=p)) with
 | none=>rw [h] at this;simp only at this;rw [this];rfl
 | some i=>rw [h] at this;obtain ⟨x,h1,h2⟩:=this;rw [h2];simp only [Option.isNone_some,A1,Bf,Aj h1,OB,El]
theorem m6 (l:List ML) (x:ML) (hl:l.length≤1000000):Oc l x=some (decide (x∈l)):=by
 have h1:TE l x=some (Bf (l.findIdx? fun y=>decide (x=y))):=by
  unfold TE;refine Hi l _ (fun y=>decide (x=y)) Om (fun k y hy=>?_) ?_
  ·simp only [Y7,Ay hy,A3,Aj hy,OB,eX,Di hy (show l.length≤4000000000000000000 by omega)];cases decide (x=y)<;>rfl
  ·simp only [Y7,AB,A1,Y6,Option.map_some]
 simp only [Oc,h1,OB,HC,Hc];congr 1;rw [Bool.eq_iff_iff,List.any_eq_true,decide_eq_true_iff];constructor
 ·rintro ⟨y,hy,h⟩;have:x=y:=by simpa using h
  exact this ▸ hy
 ·intro h;exact ⟨x,h,by simp⟩
theorem mD (x y:SX):NT x y=some (Ja x y):=by unfold NT Hu Ja;cases x.FK<;>cases x.DY<;>cases y.FK<;>cases y.DY<;>rfl
theorem qn {s:SN} (hl:Kp s.DZ) {k:Nat} (hk:k≤s.DZ.length):(CN s.ML s.DZ k).length≤25000000:=by have h1:=ZP s.ML s.DZ k;have h2:k*s.DZ.length≤5000*5000:=Nat.mul_le_mul (by have:=hl.1;omega) hl.1;omega
theorem yS (s:SN) (_:Kp s.DZ) (hm:s.ML.length≤1000000) (i:Nat) (a:DI) (ha:a.SD.length≤100000) (r:List DI) (hr:∀d∈r,d.SD.length≤100000) (h8:r.length≤5000) (hi:i≤5000) (E:List Arc) (J:E.length≤25000000):
  loop (NR s i a r) (0,E)=some (.inl (((i+1:Nat):Int),E++r.flatMap (CB s.ML a))):=by
 have Af:=CK r (NR s i a r) (fun pre=>((pre.length:Int),E++pre.flatMap (CB s.ML a))) (.inl (((i+1:Nat):Int),E++r.flatMap (CB s.ML a))) ?_ ?_
 ·simpa using Af
 ·intro pre b post h;have hx:=Br h;have h9:=Bp h;have hb:=hr b (Dt h);have hd:=aE s.ML a pre;dsimp only [NR];rw [Ay hx,A3,Aj hx,OB,LB a b.ID Om,OB,LB b a.ID Om,OB,AN,List.flatMap_append,List.flatMap_singleton,←List.append_assoc];have h6:(E++pre.flatMap (CB s.ML a)).length≤25005000:=by rw [List.length_append];omega
  generalize E++pre.flatMap (CB s.ML a)=acc at h6 ⊢;have next:∀(q:List Arc),JU (pre.length:Int) q=some (.inl (((pre.length+1:Nat):Int),q)):=fun q=>by dsimp only [JU];rw [Al Om]
  unfold CB;cases h1:C8 a b.ID with
  | none=>simp only [El,Bool.not_false,A3,Iu,next,List.append_nil]
  | some x=>
    cases h2:C8 b a.ID with
    | none=>simp only [El,Bool.not_false,Bool.not_true,A1,A3,Iu,next,List.append_nil]
    | some y=>
      have p1:=m6 s.ML (Kq b a x.EP) Om;have p2:=m6 s.ML (Kq a b x.EP) Om;unfold Kq at p1 p2;have ap:∀(z:Arc),AI 16 acc [z]=some (acc++[z]):=fun z=>B0 _ _ Om (by simp only [List.length_singleton];omega);unfold Kq;by_cases h3:x.EP=y.EP
      ·simp only [El,Bool.not_true,A1,Iu,h3,decide_true,mD,OB];rw [h3] at p1 p2;have e6:∀z,Iw a (pre.length:Int) acc b z=some (.inl (((pre.length+1:Nat):Int),acc++(if z then [⟨b.ID,a.ID⟩] else []))):=by
        intro z;cases z
        ·simp only [Iw,A1,next];simp
        ·simp only [Iw,A3,ap,OB,next];simp
       have e5:∀z,Iv s a (pre.length:Int) acc b (x,true) (y,true) z=some (.inl (((pre.length+1:Nat):Int),acc++(if z then [⟨a.ID,b.ID⟩] else if Ja y x||(!x.FK&&(!y.FK&&decide ((⟨a.ID,b.ID,⟨1,y.EP,0⟩⟩:ML)∈s.ML))) then [⟨b.ID,a.ID⟩] else []))):=by
        intro z;cases z
        ·simp only [Iv,A1,mD,OB,h3,p2,e6];cases Ja y x<;>cases x.FK<;>cases y.FK<;>rfl
        ·simp only [Iv,A3,ap,OB,next];simp
       simp only [p1,OB,e5,if_true];cases Ja x y<;>cases x.FK<;>cases y.FK<;>rfl
      ·simp only [El,Bool.not_true,A1,Iu,h3,decide_false,Bool.not_false,A3,next];simp
 ·dsimp only [NR];rw [AB,A1,Xj,Al Om];rfl
theorem Z1e {α:Type} {f:α→List AV} {l:List α} {i:Nat} (h:i<l.length) (hl:l.length≤5000):Cj l (wr ((i:Int)+1)) (ln f l)=some (l.drop (i+1)):=by rw [Al Om,B7];unfold Cj;rw [if_pos ⟨Om,Om,Om⟩];simp
theorem yR (s:SN) (hl:Kp s.DZ) (hm:s.ML.length≤1000000):NQ s=some (EY s):=by
 unfold NQ;have h6:=hl.1;refine Gv s.DZ.length (SA s) (fun k=>((k:Int),CN s.ML s.DZ k)) (EY s) (fun k hk=>?_) ?_
 ·have hx:s.DZ[k]?=some s.DZ[k]:=List.getElem?_eq_getElem hk;dsimp only [SA];rw [Ay hx,A3,Aj hx,OB,Z1e hk h6,OB,
   yS s hl hm k _ (hl.2 _ (List.getElem_mem hk)) _ (fun d hd=>hl.2 d (List.mem_of_mem_drop hd)) (by simp;omega) Om _ (qn hl Om)]
  simp only [CN,hx]
 ·dsimp only [SA];rw [AB,A1];rfl
theorem zn (l:List Arc) (p:Arc→Option Bool) (q:Arc→Bool) (hl:l.length≤4000000000000000000) (hp:∀x∈l,p x=some (q x)):Tx l p=some (Bf (l.findIdx? q)):=by
 unfold Tx;refine Hi l _ q hl (fun k x hx=>?_) ?_
 ·simp only [XP,Ay hx,A3,Aj hx,OB,hp x (List.mem_iff_getElem?.2 ⟨k,hx⟩),Di hx hl];cases q x<;>rfl
 ·simp only [XP,AB,A1,XO,Option.map_some]
theorem z8 (l:List Arc) (p:Arc→Option Bool) (q:Arc→Bool) (hl:l.length≤4000000000000000000) (hp:∀x∈l,p x=some (q x)):O8 l p=some (l.any q):=by unfold O8;rw [zn l p q hl hp,OB,HC,Hc]
theorem z7 (l:List Arc) (x:Arc) (hl:l.length≤1000000):Th l x=some (decide (x∈l)):=by
 have h1:TD l x=some (Bf (l.findIdx? fun y=>decide (x=y))):=by
  unfold TD;refine Hi l _ (fun y=>decide (x=y)) Om (fun k y hy=>?_) ?_
  ·simp only [Y5,Ay hy,A3,Aj hy,OB,ou,Di hy (show l.length≤4000000000000000000 by omega)];cases decide (x=y)<;>rfl
  ·simp only [Y5,AB,A1,Y4,Option.map_some]
 simp only [Th,h1,OB,HC,Hc];congr 1;rw [Bool.eq_iff_iff,List.any_eq_true,decide_eq_true_iff];constructor
 ·rintro ⟨y,hy,h⟩;have:x=y:=by simpa using h
  exact this ▸ hy
 ·intro h;exact ⟨x,h,by simp⟩
theorem mj {N:Nat} {r:Nat→Int} {l:List Arc} (h:ArcsR N r l):MR N l=some 0:=by
 have hn:=h.n;have hw:=h.len;have node:∀x:Int,0≤x→x<N→MT x N=some true:=fun x h0 h1=>by unfold MT;rw [DT h0,A3,DT h1];rfl
 unfold MR;rw [DN Om,A1,DN Om,A1,B7,DN Om];dsimp only [MU];rw [A1];refine CK l _ (fun pre=>(pre.length:Int)) 0 (fun pre x post hp=>?_) ?_
 ·have hx:=Br hp;have hm:=Bp hp;obtain ⟨a1,a2,a3,a4,a5⟩:=h.ok x (Dt hp);dsimp only [VE];have hne:¬x.From=x.To:=fun e=>by rw [e] at a5;omega
  have h8:Cj l 0 (pre.length:Int)=some pre:=by unfold Cj;rw [if_pos ⟨Om,Om,Om⟩,hp];simp
  have h9:x∉pre:=by have h6:=h.nd;rw [hp,List.nodup_append] at h6;intro hd;exact h6.2.2 x hd x (by simp) rfl
  rw [Ay hx,A3,Aj hx,OB,node _ a1 a2,OB,Bool.not_true,A1,node _ a3 a4,OB,Bool.not_true,A1,DN hne,A1,h8,OB,z7 _ _ Om,OB,DN h9];dsimp only [KA];rw [A1,AN,Al Om]
 ·dsimp only [VE];rw [AB,A1];rfl
def Gr (L:List Bool) (a:Nat):Bool:=L[a]?.getD false
def Pz (l:List Arc) (L:List Bool) (a:Nat):Bool:=l.any fun z=>decide (z.To=(a:Int))&&Gr L z.From.toNat
def EE (l:List Arc) (L:List Bool) (a:Nat):Bool:=Gr L a&&!Pz l L a
theorem fC {L:List Bool} {a:Nat} (h:a<L.length):A4 L (a:Int)=some (Gr L a):=by have:=Aj (List.getElem?_eq_getElem h);rw [this,Gr,List.getElem?_eq_getElem h];rfl
theorem zN {N:Nat} {r:Nat→Int} {l:List Arc} (h:ArcsR N r l) {L:List Bool} (E:L.length=N) (a:Nat):O8 l (fun z=>QA z (a:Int) L)=some (Pz l L a):=by
 have h6:=h.len;refine z8 l _ (fun z=>decide (z.To=(a:Int))&&Gr L z.From.toNat) Om fun z hz=>?_;obtain ⟨a1,a2,_⟩:=h.ok z hz;have:=fC (L:=L) (a:=z.From.toNat) Om;rw [Int.toNat_of_nonneg a1] at this;unfold QA;cases decide (z.To=(a:Int)) with
 | true=>rw [A3,this];rfl
 | false=>rfl
def Gl (N:Nat) (l:List Arc) (L:List Bool) (O:List Int) (k:Nat):(List Bool×List Int) ⊕ (List Int×List Bool):=match (List.range' k (N-k)).find? (EE l L) with | some a=>.inl (L.set a false,O++[(a:Int)]) | none=>.inr (O,L)
theorem lj {N:Nat} {r:Nat→Int} {l:List Arc} (h:ArcsR N r l) {L:List Bool} (E:L.length=N) {O:List Int} (J:O.length≤64):loop (MX N l L O) 0=some (Gl N l L O 0):=by
 have hn:=h.n;refine js N (MX N l L O) (fun k=>(k:Int)) (fun k=>some (Gl N l L O k)) (fun k hk=>?_) ?_
 ·have hr:List.range' k (N-k)=k::List.range' (k+1) (N-(k+1)):=by rw [show N-k=(N-(k+1))+1 by omega,List.range'_succ]
  have e0:Gl N l L O k=if EE l L k then .inl (L.set k false,O++[(k:Int)]) else Gl N l L O (k+1):=by unfold Gl;rw [hr,List.find?_cons];cases EE l L k<;>rfl
  dsimp only [MX];rw [DT Om,A3,fC Om,OB];have skip:KB L O (k:Int) false=some (.inl ((k+1:Nat):Int)):=by dsimp only [KB];rw [A1,Al Om]
  cases hq:Gr L k with
  | false=>left;refine ⟨by rw [A1,skip],?_⟩;rw [e0,show EE l L k=false by unfold EE;rw [hq];rfl,if_neg (by simp)]
  | true=>
    rw [A3,zN h E,OB];cases hb:Pz l L k with
    | true=>left;refine ⟨by rw [Bool.not_true,skip],?_⟩;rw [e0,show EE l L k=false by unfold EE;rw [hq,hb];rfl,if_neg (by simp)]
    | false=>
      right;refine ⟨.inl (L.set k false,O++[(k:Int)]),?_,?_⟩
      ·rw [Bool.not_false];dsimp only [KB];rw [A3,B0 _ _ Om (by simp only [List.length_singleton];omega),OB];rfl
      ·rw [e0,show EE l L k=true by unfold EE;rw [hq,hb];rfl,if_pos rfl]
 ·dsimp only [MX];rw [DN Om,A1];have:Gl N l L O N = .inr (O,L):=by unfold Gl;rw [Nat.sub_self];rfl
  rw [this];rfl
theorem oc (r:Nat→Int):∀ {l:List Nat},l≠ []→∃a∈l,∀b∈l,r b≤r a
 | [],h=>absurd rfl h
 | [a],_=>⟨a,by simp,fun b hb=>by simp at hb;subst hb;omega⟩
 | a::c::l,_=>by
   obtain ⟨t,ht,hm⟩:=oc r (l:=c::l) (by simp);by_cases h:r t≤r a
   ·exact ⟨a,by simp,fun b hb=>by
     rcases List.mem_cons.1 hb with rfl | hb
     ·omega
     ·have:=hm b hb;omega⟩
   ·exact ⟨t,List.mem_cons_of_mem _ ht,fun b hb=>by
     rcases List.mem_cons.1 hb with rfl | hb
     ·omega
     ·exact hm b hb⟩
theorem Z1a {N:Nat} {r:Nat→Int} {l:List Arc} (h:ArcsR N r l) {L:List Bool} (E:L.length=N) (ht:0<L.count true):∃a,a<N∧EE l L a=true:=by
 have hne:(List.range N).filter (Gr L)≠ []:=fun e=>by obtain ⟨k,hk⟩:=List.mem_iff_getElem?.1 (List.count_pos_iff.1 ht);have hlt:=(List.getElem?_eq_some_iff.1 hk).1;have:k∈(List.range N).filter (Gr L):=List.mem_filter.2 ⟨List.mem_range.2 Om,by unfold Gr;rw [hk];rfl⟩;rw [e] at this;simp at this
 obtain ⟨a,ha,h6⟩:=oc r hne;obtain ⟨a1,a2⟩:=List.mem_filter.1 ha;have a1:=List.mem_range.1 a1;refine ⟨a,a1,?_⟩;unfold EE;rw [a2,Bool.true_and];have:Pz l L a=false:=by
  unfold Pz;rw [List.any_eq_false];intro z hz hc;rw [Bool.and_eq_true,decide_eq_true_eq] at hc;obtain ⟨z1,z2,z3,z4,z5⟩:=h.ok z hz;have hm:=h6 z.From.toNat (List.mem_filter.2 ⟨List.mem_range.2 Om,hc.2⟩);have e:z.To.toNat=a:=by omega
  rw [e] at z5;omega
 rw [this];rfl
theorem rh {L:List Bool} {a:Nat} (h:L[a]?=some true):(L.set a false).count true+1=L.count true:=by
 induction L generalizing a with
 | nil=>simp at h
 | cons b L ih=>
   cases a with
   | zero=>
     have:b=true:=by simpa using h
     subst this;simp
   | succ a=>have:=ih (a:=a) (by simpa using h);simp only [List.set_cons_succ,List.count_cons];omega
theorem ll {N:Nat} {r:Nat→Int} {l:List Arc} (h:ArcsR N r l):∀(k:Nat) (L:List Bool) (O:List Int),L.length=N→L.count true=k→O.length+k=N→(∀a∈O,0≤a∧a<(N:Int))→
  ∃O' L',loop (QB N l) (L,O)=some (O',L')∧O'.length=N∧∀a∈O',0≤a∧a<(N:Int)
 | 0,L,O,hL,hk,hO,hr=>by
   have hn:=h.n;have hf:Gl N l L O 0 = .inr (O,L):=by
    unfold Gl;have:(List.range' 0 (N-0)).find? (EE l L)=none:=by
     rw [List.find?_eq_none];intro a _ hc;unfold EE Gr at hc;rw [Bool.and_eq_true] at hc;have hm:true∈L:=by
      cases hq:L[a]? with
      | none=>rw [hq] at hc;simp at hc
      | some b=>
        rw [hq] at hc;have:b=true:=by simpa using hc.1
        rw [this] at hq;exact List.mem_iff_getElem?.2 ⟨a,hq⟩
     have:=List.count_pos_iff.2 hm;omega
    rw [this]
   refine ⟨O,L,?_,Om,hr⟩;rw [B5];dsimp only [QB];rw [lj h hL Om,hf]
 | k+1,L,O,hL,hk,hO,hr=>by
   have hn:=h.n;obtain ⟨a0,hd,h8⟩:=Z1a h hL Om;cases hq:(List.range' 0 (N-0)).find? (EE l L) with
   | none=>rw [List.find?_eq_none] at hq;exact absurd h8 (hq a0 (by rw [List.mem_range'_1];omega))
   | some a=>
     have hf:Gl N l L O 0 = .inl (L.set a false,O++[(a:Int)]):=by unfold Gl;rw [hq]
     have ha:=List.mem_of_find?_eq_some hq;have h6:=List.find?_some hq;rw [List.mem_range'_1] at ha;unfold EE at h6;rw [Bool.and_eq_true] at h6;have h9:L[a]?=some true:=by
      have h1:=h6.1;unfold Gr at h1;cases hc:L[a]? with
      | none=>rw [hc] at h1;simp at h1
      | some b=>rw [hc] at h1;have:b=true:=by simpa using h1
                rw [this]
     have hw:=rh h9;obtain ⟨O',L',h1,h2,h3⟩:=ll h k (L.set a false) (O++[(a:Int)]) (by rw [List.length_set];exact hL) Om (by rw [List.length_append,List.length_singleton];omega) (fun b hb=>by
      rcases List.mem_append.1 hb with hb | hb
      ·exact hr b hb
      ·rw [List.mem_singleton] at hb;omega)
     refine ⟨O',L',?_,h2,h3⟩;rw [B5];dsimp only [QB];rw [lj h hL Om,hf];exact h1
theorem zU {N:Nat} {r:Nat→Int} {l:List Arc} (h:ArcsR N r l):∃O,Qu N l=some (O,true)∧O.length=N∧∀a∈O,0≤a∧a<(N:Int):=by
 have hn:=h.n;obtain ⟨O,L,h1,h2,h3⟩:=ll h N (List.replicate N true) [] (by simp) (by simp) (by simp) (by simp);refine ⟨O,?_,h2,h3⟩;unfold Qu;rw [mj h,OB,show decide ((0:Int)=0)=true from rfl,Bool.not_true,A1];have hR:TI [true] (N:Int)=some (List.replicate N true):=by unfold TI;rw [if_pos ⟨rfl,Om,Om⟩];rfl
 have h6:Qz (N:Int) l=some (O,L):=by unfold Qz;rw [hR,OB];exact h1
 rw [h6,OB,B7];dsimp only;rw [h2,DN Om,A1]
def EQ (l:List Arc) (n:Nat):List Int:=((List.range n).filter fun k:Nat=>!l.any fun z=>decide (z.From=(k:Int))).map fun k:Nat=>(k:Int)
theorem nx (l:List Arc) (n:Nat):(EQ l n).length≤n:=by unfold EQ;rw [List.length_map];exact Nat.le_trans (List.length_filter_le _ _) (by simp)
theorem Z16 (l:List Arc) (n:Nat):EQ l (n+1)=if (l.any fun z=>decide (z.From=(n:Int))) then EQ l n else EQ l n++[(n:Int)]:=by
 unfold EQ;rw [List.range_succ,List.filter_append,List.map_append];cases hq:l.any fun z=>decide (z.From=(n:Int)) with
 | true=>simp [hq]
 | false=>simp [hq]
theorem zE {N:Nat} {r:Nat→Int} {l:List Arc} (h:ArcsR N r l):MV N l=some (EQ l N):=by
 have hn:=h.n;have h6:=h.len;unfold MV;rw [mj h,OB,show decide ((0:Int)=0)=true from rfl,Bool.not_true,A1];refine Gv N (Qw N l) (fun k=>((k:Int),EQ l k)) (EQ l N) (fun k hk=>?_) ?_
 ·dsimp only [Qw];have h8:=nx l k;rw [DT Om,A3];rw [bE l (Qy l k (EQ l k)) (fun z=>decide (z.From=(k:Int))) (.inl (((k+1:Nat):Int),EQ l k)) (.inl (((k+1:Nat):Int),EQ l k++[(k:Int)])) Om (fun i z hz=>by
   simp only [Qy,Ay hz,A3,Aj hz,OB,Di hz (show l.length≤4000000000000000000 by omega),MW];rw [Al (show k≤4000000000000000000 by omega)];cases decide (z.From=(k:Int))<;>rfl) (by
   simp only [Qy,AB,A1,VF,MW];rw [B0 _ _ Om (by simp only [List.length_singleton];omega),OB,Al Om];rfl),Z16]
  cases l.any fun z=>decide (z.From=(k:Int))<;>rfl
 ·dsimp only [Qw];rw [DN Om,A1];rfl
def Jg (l:List DK):Prop:=l.length≤5000∧∀d∈l,d.DI.SD.length≤100000∧d.NE.length≤100000
def Ej (s:Bar):SN:=⟨s.DS.map (·.DI),s.ML⟩
theorem aq {s:Bar} (h:Jg s.DS):Kp (Ej s).DZ:=by refine ⟨by simpa [Ej] using h.1,fun d hd=>?_⟩;obtain ⟨e,he,rfl⟩:=List.mem_map.1 hd;exact (h.2 e he).1
theorem dv (s:Bar) (E:Jg s.DS) (hM:s.ML.length≤1000000):Ib s=some (Ej s):=by
 simp only [Ib,YS _ hM,OB];refine CK s.DS (Jp s s.ML) (fun pre=>((pre.length:Int),pre.map (·.DI))) _ (fun pre x post h=>?_) ?_
 ·have hx:=Br h;have hm:=Bp h;have h1:=E.1;have h2:=(E.2 x (Dt h)).1;dsimp only [Jp];rw [Ay hx,A3,Aj hx,OB,HG _ Om,OB,B0 _ _ Om (by simp;omega),OB,Al Om,AN];simp
 ·dsimp only [Jp];rw [AB,A1];rfl
def Rh:Bool→Option Bool
| x79=>some x79
def WA (x6:List Arc) (x7:(List Int×Bool)):Int→Option Bool
| x78=>
 A0 x7.2 (
 Rh (decide ((ln Arc.row x6)=x78))) (
 Rh false)
def WB (x40:Int):Int→Option ((Int×Int) ⊕ Bool)
| x69=>some (.inl (x69,wr (x40+1)))
def Nm (x53:Int):Int→Option ((Int×Int) ⊕ ((Int×Int) ⊕ Bool))
| x59=>some (.inl (x59,wr (x53+1)))
def JC (x52 x53:Int):Bool→Option ((Int×Int) ⊕ ((Int×Int) ⊕ Bool))
| x58=>
 A0 x58 (
 (Nm x53) (wr (x52+1))) (
 (Nm x53) x52)
def Rj (x1:HL) (x40:Int):(Int×Int)→Option ((Int×Int) ⊕ ((Int×Int) ⊕ Bool))
| (x52,x53)=>
 A0 (decide (x53<(ln NO.row x1.NS))) (
 (A4 x1.NS x40).bind fun x54=>
 (JE x54.DK.DI x53).bind fun x55=>
 (A4 x1.NS x53).bind fun x56=>
 (JE x56.DK.DI x40).bind fun x57=>
 A0 x55.2 (
 A0 x57.2 (
 (JC x52 x53) (decide (x55.1.EP=x57.1.EP))) (
 (JC x52 x53) false)) (
 (JC x52 x53) false)) (
 Option.map Sum.inr ((WB x40) x52))
def Nl (x1:HL) (x39:Int) (x40:Int):Bool→Option ((Int×Int) ⊕ Bool)
| x43=>
 A0 x43 (
 Option.map Sum.inr (some false)) (
 loop (Rj x1 x40) (x39,wr (x40+1)))
def Ri (x1:HL) (x6:List Arc) (x7:(List Int×Bool)) (x8:List Int):(Int×Int)→Option ((Int×Int) ⊕ Bool)
| (x39,x40)=>
 A0 (decide (x40<(ln NO.row x1.NS))) (
 (A4 x1.NS x40).bind fun x41=>
 A0 (decide (x41.DK.DI.PH=2)) (
 (KW x8 x40).bind fun x42=>
 (Nl x1 x39 x40) (!x42)) (
 (Nl x1 x39 x40) false)) (
 Option.map Sum.inr ((WA x6 x7) x39))
def Nk (x1:HL) (_x2:List EV) (x3:Graph):Option Bool:=
 (Jy x1).bind fun x4=>
 (Ib x4).bind fun x5=>
 (NQ x5).bind fun x6=>
 (Qu x3.N x6).bind fun x7=>
 (MV x3.N x6).bind fun x8=>
 loop (Ri x1 x6 x7 x8) (0,0)
theorem vh {x1 x2 x3 r} (h:Nk x1 x2 x3=some r):FPx 24 [.agg (HL.row x1),Cz x2,.elt (Graph.row x3) 0] (.bv r):=by
 have ok:=oJ 24 Tryz.f24 [.t 5] 3 104;refine FP ok fun w0 H0=>?_;rw [Nk] at h;refine Vg 8 ?_;refine VB h aV fun _ _ h=>?_;refine VB h ip fun _ _ h=>?_;refine VB h vB fun x6 _ h=>?_;refine Vg 7 ?_;refine VB h uM fun x7 _ h=>?_;refine Vg 11 ?_;refine VB h uN fun _ _ h=>?_;refine Vg 8 ?_;refine Vl [6,1,1,1] (fun x78=>([(10,.iv x78)],[],[])) (WA x6 x7) r ?_ fun J1=>?_
 ·intro x78 h;rw [WA] at h;refine Vg 4 ?_;refine Vk [] (fun x79=>[(5,.bv x79)]) Rh r ?_ fun J6=>?_
  ·intro x79 h;rw [Rh] at h;exact W
  ·exact W
 ·refine Vg 1 ?_;refine Mk h [3,1,2,1,1,2] (fun s=>[(10,.iv s.1),(11,.iv s.2)]) ?_;rintro n1 ⟨x39,x40⟩ y1 h hin1 hout1;rw [Ri] at h;refine Vg 9 ?_;refine MI h (fun h=>?_) fun h=>W;refine Vg 9 ?_;have ⟨x41,ex41,h⟩:=Bs h;refine AZ NO.row ex41 trivial rfl rfl rfl (Vg 6 ?_);refine Vk [3,1,2,1,1,4] (fun x43=>[(53,.bv x43)]) (Nl x1 x39 x40) y1 ?_ fun J2=>?_
  ·intro x43 h;rw [Nl] at h;refine MI h (fun h=>W) fun h=>?_;refine Vg 7 ?_;refine Vk [3,1,2,1,1,2,1,1] (fun x69=>[(10,.iv x69)]) (WB x40) y1 ?_ fun J3=>?_
   ·intro x69 h;rw [WB] at h;exact W
   ·refine Vg 1 ?_;refine Mk h [3,1,2,1,1,2,1,1] (fun s=>[(10,.iv s.1),(12,.iv s.2)]) ?_;rintro n2 ⟨x52,x53⟩ y2 h hin2 hout2;rw [Rj] at h;refine Vg 9 ?_;refine MI h (fun h=>?_) fun h=>W;refine Vg 8 ?_;have ⟨x54,ex54,h⟩:=Bs h;refine AZ NO.row ex54 trivial rfl rfl rfl (Vg 4 ?_);refine VB h Vc fun _ _ h=>?_;refine Vg 12 ?_;have ⟨x56,ex56,h⟩:=Bs h;refine AZ NO.row ex56 trivial rfl rfl rfl (Vg 4 ?_);refine VB h Vc fun _ _ h=>?_;refine Vg 11 ?_;refine Vl [3,1,2,1,1,5] (fun x58=>([(97,.bv x58)],[some ⟨31,HL.row x1⟩],[])) (JC x52 x53) y2 ?_ fun J4=>?_
    ·intro x58 h;rw [JC] at h;refine Vk [3,1,2,1,1,2,1,2] (fun x59=>[(10,.iv x59)]) (Nm x53) y2 ?_ fun J5=>?_
     ·intro x59 h;rw [Nm] at h;exact W
     ·exact W
    ·exact W
  ·refine MC 48 h (fun h=>?_) fun h=>W;refine Vg 2 ?_;refine VB h b0 fun _ _ h=>?_;exact W
def KS (x1:Graph) (x2:List narthexlaw19_Step):Bool→Option Bool
| x5=>
 A0 x5 (
 (Hq).bind fun x6=>
 some x6) (
 (KU x1 x2 ((fun z=>Nk z.1 z.2 x1))).bind fun x7=>
 some x7.2)
def Wz (x1:Graph) (x2:List narthexlaw19_Step):Option Bool:=
 (Hq).bind fun x3=>
 A0 (!x3) (
 (KS x1 x2) true) (
 (KV x1 x2).bind fun x4=>
 (KS x1 x2) (!x4))
theorem vg {x1 x2 r} (h:Wz x1 x2=some r):FPx 6 [.agg (Graph.row x1),Pq x2] (.bv r):=by
 have ok:=oJ 6 Tryz.f6 [.t 4] 2 22;refine FP ok fun w0 H0=>?_;rw [Wz] at h;refine Vg 8 ?_;refine VB h Mn fun _ _ h=>?_;refine Vg 2 ?_;refine Vk [1,2] (fun x5=>[(14,.bv x5)]) (KS x1 x2) r ?_ fun J1=>?_
 ·intro x5 h;rw [KS] at h;refine MI h (fun h=>?_) fun h=>?_
  ·refine Vg 2 ?_;refine VB h Mn fun _ _ h=>?_;exact W
  ·refine Vg 6 ?_;refine H3 0 rfl rfl (Ds ?_);refine VB h (fun e=>aY e ⟨by kernel_rfl,rfl,fun z r hz=>vh hz⟩) fun _ _ h=>?_;exact W
 ·refine MC 9 h (fun h=>W) fun h=>?_;refine Vg 2 ?_;refine VB h aZ fun _ _ h=>?_;exact W
def PA (h:HL):Bar:=⟨h.NS.map (·.DK),h.ML⟩
theorem fI {h:HL} (hk:HallOK h):Jg (PA h).DS:=by have:=hk.len;refine ⟨by simp [PA];omega,fun d hd=>?_⟩;obtain ⟨n,hn,rfl⟩:=List.mem_map.1 hd;have:=hk.few n hn;exact ⟨by have:=this.sides;omega,by have:=this.need;omega⟩
theorem mK (h:HL):Ej (PA h)=B4 h:=by unfold Ej PA B4;rw [List.map_map];rfl
def H6 (h:HL) (a:DI) (i j:Nat):Nat:=((((B4 h).DZ.drop (i+1)).take j).flatMap (CB h.ML a)).length
theorem qi (h:HL) (a:DI) (i j:Nat) (hn:h.NS.length≤20):H6 h a i j≤20:=by
 have h1:=aE h.ML a (((B4 h).DZ.drop (i+1)).take j);have h2:(B4 h).DZ.length=h.NS.length:=by simp [B4]
 rw [List.length_take,List.length_drop] at h1;unfold H6;omega
theorem qj {h:HL} (a:DI) {i j:Nat} {b:NO} (hb:h.NS[i+1+j]?=some b):H6 h a i (j+1)=H6 h a i j+(CB h.ML a b.DK.DI).length:=by
 have hd:((B4 h).DZ.drop (i+1))[j]?=some b.DK.DI:=by rw [List.getElem?_drop];unfold B4;rw [List.getElem?_map,hb];rfl
 unfold H6;rw [List.take_add_one,hd,List.flatMap_append,List.length_append];simp
theorem qh {h:HL} {i:Nat} {a:NO} (ha:h.NS[i]?=some a):(CN h.ML (B4 h).DZ (i+1)).length=(CN h.ML (B4 h).DZ i).length+H6 h a.DK.DI i (h.NS.length-(i+1)):=by
 have hd:(B4 h).DZ[i]?=some a.DK.DI:=by unfold B4;rw [List.getElem?_map,ha];rfl
 have h2:(B4 h).DZ.length=h.NS.length:=by simp [B4]
 rw [CN,List.length_append,hd];unfold H6;rw [List.take_of_length_le (by rw [List.length_drop];omega)]
theorem Z08 {h:HL} (hh:HI h) (hr:H2 h) (hM:h.ML.length≤600000) (hn:h.NS.length≤20) {g:Graph} (hg:(h.NS.length:Int)=g.N) (V:List EV):Nk h V g=some true:=by
 have hk:=hh.ok;obtain ⟨r,h6⟩:=hr.rk;have hR:=qk hk hh.pi h6 hn;obtain ⟨O,hO,_⟩:=zU hR;have hS:=zE hR;have h8:∀i,i≤h.NS.length→(CN h.ML (B4 h).DZ i).length≤400:=fun i hi=>by
  have h1:=ZP h.ML (B4 h).DZ i;have h2:(B4 h).DZ.length=h.NS.length:=by simp [B4]
  have h3:i*(B4 h).DZ.length≤20*20:=Nat.mul_le_mul Om Om;omega
 have hw:=nx (EY (B4 h)) h.NS.length;unfold Nk;rw [dC h hk.few Om Om,OB];change (Ib (PA h)).bind _=_;rw [dv _ (fI hk) (show h.ML.length≤1000000 by omega),OB,mK,
  yR (B4 h) (by have:=aq (fI hk);rw [mK] at this;exact this) (show h.ML.length≤1000000 by omega),OB,←hg,hO,OB,hS,OB]
 refine Gv h.NS.length (Ri h (EY (B4 h)) (O,true) (EQ (EY (B4 h)) h.NS.length)) (fun i=>(((CN h.ML (B4 h).DZ i).length:Int),(i:Int))) true (fun i hi=>?_) ?_
 ·obtain ⟨a,ha⟩:∃a,h.NS[i]?=some a:=⟨_,List.getElem?_eq_getElem hi⟩
  have fa:=hk.few a (List.mem_of_getElem? ha);have ia:=(hk.nodes i a ha).1;have next:Nl h ((CN h.ML (B4 h).DZ i).length:Int) (i:Int) false=some (.inl (((CN h.ML (B4 h).DZ (i+1)).length:Int),((i+1:Nat):Int))):=by
   dsimp only [Nl];rw [A1,Al Om];have hA:=h8 i Om;have:=Gv (h.NS.length-(i+1)) (Rj h i) (fun j=>(((CN h.ML (B4 h).DZ i).length+H6 h a.DK.DI i j:Nat),((i+1+j:Nat):Int))) (.inl (((CN h.ML (B4 h).DZ (i+1)).length:Int),((i+1:Nat):Int))) (fun j hj=>?_) ?_
   ·exact this
   ·obtain ⟨b,hb⟩:∃b,h.NS[i+1+j]?=some b:=⟨_,List.getElem?_eq_getElem Om⟩
    have fb:=hk.few b (List.mem_of_getElem? hb);have ib:=(hk.nodes (i+1+j) b hb).1;have hle:=qi h a.DK.DI i j hn;dsimp only [Rj];rw [Ay hb,A3,Aj ha,OB,YY _ _ (by have:=fa.sides;omega),OB,Aj hb,OB,YY _ _ (by have:=fb.sides;omega),OB,qj _ hb];have st:∀z:Bool,JC (((CN h.ML (B4 h).DZ i).length+H6 h a.DK.DI i j:Nat):Int) ((i+1+j:Nat):Int) z=some (.inl ((((CN h.ML (B4 h).DZ i).length+(H6 h a.DK.DI i j+bn z):Nat):Int),((i+1+(j+1):Nat):Int))):=fun z=>by
     cases z with
     | true=>dsimp only [JC,Nm];rw [A3,Al Om,Al Om];rfl
     | false=>dsimp only [JC,Nm];rw [A1,Al Om];rfl
    rcases ZO hh.pi h6 (show i≠i+1+j by omega) ha hb ia ib with ⟨x,y,hx,hy,he,hp⟩ | ⟨h9,hp⟩
    ·have hx:C8 a.DK.DI ((i+1+j:Nat):Int)=some x:=hx;have hy:C8 b.DK.DI (i:Int)=some y:=hy;have h1:(CB h.ML a.DK.DI b.DK.DI).length=1:=by rcases hp with ⟨e,_⟩ | ⟨e,_⟩<;>rw [e]<;>rfl
     rw [hx,hy,h1,show El (some x)=(x,true) from rfl,show El (some y)=(y,true) from rfl];dsimp only;rw [A3,A3,DT he,st true];rfl
    ·rw [hp];rcases h9 with hx | hy
     ·have hx:C8 a.DK.DI ((i+1+j:Nat):Int)=none:=hx;rw [hx];dsimp only [El];rw [A1,st false];rfl
     ·have hy:C8 b.DK.DI (i:Int)=none:=hy;rw [hy];cases C8 a.DK.DI ((i+1+j:Nat):Int) with
      | none=>dsimp only [El];rw [A1,st false];rfl
      | some x=>dsimp only [El];rw [A3,A1,st false];rfl
   ·dsimp only [Rj,WB];rw [show i+1+(h.NS.length-(i+1))=h.NS.length by omega,AB,A1,Al Om,qh ha];rfl
  dsimp only [Ri];rw [Ay ha,A3,Aj ha,OB];by_cases hP:a.DK.DI.PH=2
  ·have hd:(i:Int)∈EQ (EY (B4 h)) h.NS.length:=by
    unfold EQ;refine List.mem_map.2 ⟨i,List.mem_filter.2 ⟨List.mem_range.2 hi,?_⟩,rfl⟩;have:((EY (B4 h)).any fun z=>decide (z.From=(i:Int)))=false:=by rw [List.any_eq_false];intro z hz;have:=sJ hh hr ha hP hz;simpa using this
    rw [this];rfl
   rw [DT hP,A3,dJ _ _ Om,OB,DT hd,Bool.not_true,next]
  ·rw [DN hP,A1,next]
 ·dsimp only [Ri,WA,Rh];have el:(B4 h).DZ.length=h.NS.length:=by simp [B4]
  have e2:EY (B4 h)=CN h.ML (B4 h).DZ h.NS.length:=by unfold EY;rw [el];rfl
  rw [AB,A1,A3,B7,e2,DT rfl];rfl
theorem yj (g:Graph) (l:List narthexlaw19_Step):Wz g l=some true:=by
 have yes:KS g l true=some true:=by dsimp only [KS];rw [A3,P8];rfl
 obtain ⟨z,hz,hq⟩:=dM g l;unfold Wz;rw [P8,OB,Bool.not_true,A1,hz,OB];cases z with
 | false=>exact yes
 | true=>obtain ⟨hg,hN,hl,hn⟩:=hq rfl;dsimp only [KS];rw [Bool.not_true,A1];obtain ⟨r,h1,h2,_⟩:=dK hg hN hl hn H2 (ut hg Om) (fun h k n a hh hj hn h0=>hj.acts hh hn h0) (fun h k i n m a hh hj hn hi hm=>hj.gets hh hn hi hm) (fun z=>Nk z.1 z.2 g) (fun h V hh hj hM hG=>Z08 hh hj hM Om hG V);rw [h1,OB,h2]
end
end NX
end Go.Proofs.YtjemlejoladlcaaGreat
namespace Go.Proofs.YtjemlejoladlcaaGreat
namespace NX
open Go Go.ChangeShapes Go.WideShapes Go.ChangeAt Go.RowKit
theorem y7:Cy Tryz.prog 76 Edge.row:=by
 intro H enc w base sp h6 fuel cs x h;obtain ⟨xs,n,_,_,hl,h8,hf⟩:=DataW.trod_struct Tryz.underlying76 h;rw [show Tryz.prog.cellsOf 76=2 from by kernel_rfl] at hl;have c0:DataW.trod enc Tryz.prog w base sp h6 n 3 ((cs.drop 0).take (Tryz.prog.cellsOf 3))=xs[0]?:=hf 0 _ rfl;rw [show Tryz.prog.cellsOf 3=1 from by kernel_rfl] at c0;have h9:0<xs.length:=by rw [h8];decide
 obtain ⟨y0,hw⟩:∃y,xs[0]?=some y:=⟨_,List.getElem?_eq_getElem h9⟩
 obtain ⟨v0,k0⟩:=(Ck Tryz.underlying3) enc w _ _ _ _ _ _ (c0.trans hw);have c1:DataW.trod enc Tryz.prog w base sp h6 n 3 ((cs.drop 1).take (Tryz.prog.cellsOf 3))=xs[1]?:=hf 1 _ rfl;rw [show Tryz.prog.cellsOf 3=1 from by kernel_rfl] at c1;have hd:1<xs.length:=by rw [h8];decide
 obtain ⟨y1,hy1⟩:∃y,xs[1]?=some y:=⟨_,List.getElem?_eq_getElem hd⟩
 obtain ⟨v1,k1⟩:=(Ck Tryz.underlying3) enc w _ _ _ _ _ _ (c1.trans hy1);have e:cs=(cs.drop 0).take 1++(cs.drop 1).take 1:=by
  match cs,hl with
  | [a0,a1],_=>rfl
 rw [e];exact ⟨⟨v0,v1⟩,(BH k0 k1)⟩
theorem xV:Cy Tryz.prog 22 (Ci 2 Edge.row):=IM (n:=2) (row:=Edge.row) Tryz.underlying22 (by kernel_rfl) (by decide) (fun _=>⟨rfl,rfl,rfl⟩) y7
theorem xZ:Cy Tryz.prog 24 Graph.row:=by
 intro H enc w base sp h6 fuel cs x h;obtain ⟨xs,n,_,_,hl,h8,hf⟩:=DataW.trod_struct Tryz.underlying24 h;rw [show Tryz.prog.cellsOf 24=2 from by kernel_rfl] at hl;have c0:DataW.trod enc Tryz.prog w base sp h6 n 3 ((cs.drop 0).take (Tryz.prog.cellsOf 3))=xs[0]?:=hf 0 _ rfl;rw [show Tryz.prog.cellsOf 3=1 from by kernel_rfl] at c0;have h9:0<xs.length:=by rw [h8];decide
 obtain ⟨y0,hw⟩:∃y,xs[0]?=some y:=⟨_,List.getElem?_eq_getElem h9⟩
 obtain ⟨v0,k0⟩:=(Ck Tryz.underlying3) enc w _ _ _ _ _ _ (c0.trans hw);have c1:DataW.trod enc Tryz.prog w base sp h6 n 22 ((cs.drop 1).take (Tryz.prog.cellsOf 22))=xs[1]?:=hf 1 _ rfl;rw [show Tryz.prog.cellsOf 22=1 from by kernel_rfl] at c1;have hd:1<xs.length:=by rw [h8];decide
 obtain ⟨y1,hy1⟩:∃y,xs[1]?=some y:=⟨_,List.getElem?_eq_getElem hd⟩
 obtain ⟨v1,k1⟩:=xV enc w _ _ _ _ _ _ (c1.trans hy1);have e:cs=(cs.drop 0).take 1++(cs.drop 1).take 1:=by
  match cs,hl with
  | [a0,a1],_=>rfl
 rw [e];exact ⟨⟨v0,v1⟩,(BH k0 k1)⟩
theorem xX:Cy Tryz.prog 40 (Ci 1 Ad):=IM (n:=1) (row:=Ad) Tryz.underlying40 (by kernel_rfl) (by decide) (fun _=>⟨rfl,rfl,rfl⟩) (Ck Tryz.underlying3)
theorem y6:Cy Tryz.prog 62 Do.row:=by
 intro H enc w base sp h6 fuel cs x h;obtain ⟨xs,n,_,_,hl,h8,hf⟩:=DataW.trod_struct Tryz.underlying62 h;rw [show Tryz.prog.cellsOf 62=5 from by kernel_rfl] at hl;have c0:DataW.trod enc Tryz.prog w base sp h6 n 60 ((cs.drop 0).take (Tryz.prog.cellsOf 60))=xs[0]?:=hf 0 _ rfl;rw [show Tryz.prog.cellsOf 60=1 from by kernel_rfl] at c0;have h9:0<xs.length:=by rw [h8];decide
 obtain ⟨y0,hC⟩:∃y,xs[0]?=some y:=⟨_,List.getElem?_eq_getElem h9⟩
 obtain ⟨v0,k0⟩:=(Ck Tryz.underlying60) enc w _ _ _ _ _ _ (c0.trans hC);have c1:DataW.trod enc Tryz.prog w base sp h6 n 3 ((cs.drop 1).take (Tryz.prog.cellsOf 3))=xs[1]?:=hf 1 _ rfl;rw [show Tryz.prog.cellsOf 3=1 from by kernel_rfl] at c1;have hd:1<xs.length:=by rw [h8];decide
 obtain ⟨y1,hy1⟩:∃y,xs[1]?=some y:=⟨_,List.getElem?_eq_getElem hd⟩
 obtain ⟨v1,k1⟩:=(Ck Tryz.underlying3) enc w _ _ _ _ _ _ (c1.trans hy1);have c2:DataW.trod enc Tryz.prog w base sp h6 n 3 ((cs.drop 2).take (Tryz.prog.cellsOf 3))=xs[2]?:=hf 2 _ rfl;rw [show Tryz.prog.cellsOf 3=1 from by kernel_rfl] at c2;have hw:2<xs.length:=by rw [h8];decide
 obtain ⟨y2,hD⟩:∃y,xs[2]?=some y:=⟨_,List.getElem?_eq_getElem hw⟩
 obtain ⟨v2,k2⟩:=(Ck Tryz.underlying3) enc w _ _ _ _ _ _ (c2.trans hD);have c3:DataW.trod enc Tryz.prog w base sp h6 n 3 ((cs.drop 3).take (Tryz.prog.cellsOf 3))=xs[3]?:=hf 3 _ rfl;rw [show Tryz.prog.cellsOf 3=1 from by kernel_rfl] at c3;have hA:3<xs.length:=by rw [h8];decide
 obtain ⟨y3,hE⟩:∃y,xs[3]?=some y:=⟨_,List.getElem?_eq_getElem hA⟩
 obtain ⟨v3,k3⟩:=(Ck Tryz.underlying3) enc w _ _ _ _ _ _ (c3.trans hE);have c4:DataW.trod enc Tryz.prog w base sp h6 n 40 ((cs.drop 4).take (Tryz.prog.cellsOf 40))=xs[4]?:=hf 4 _ rfl;rw [show Tryz.prog.cellsOf 40=1 from by kernel_rfl] at c4;have hB:4<xs.length:=by rw [h8];decide
 obtain ⟨y4,hG⟩:∃y,xs[4]?=some y:=⟨_,List.getElem?_eq_getElem hB⟩
 obtain ⟨v4,k4⟩:=xX enc w _ _ _ _ _ _ (c4.trans hG);have e:cs=(cs.drop 0).take 1++(cs.drop 1).take 1++(cs.drop 2).take 1++(cs.drop 3).take 1++(cs.drop 4).take 1:=by
  match cs,hl with
  | [a0,a1,a2,a3,a4],_=>rfl
 rw [e];exact ⟨⟨v0,v1,v2,v3,v4⟩,(BH (BH (BH (BH k0 k1) k2) k3) k4)⟩
theorem xY:Cy Tryz.prog 106 narthexlaw19_Step.row:=by
 intro H enc w base sp h6 fuel cs x h;obtain ⟨xs,n,_,_,hl,h8,hf⟩:=DataW.trod_struct Tryz.underlying106 h;rw [show Tryz.prog.cellsOf 106=8 from by kernel_rfl] at hl;have c0:DataW.trod enc Tryz.prog w base sp h6 n 4 ((cs.drop 0).take (Tryz.prog.cellsOf 4))=xs[0]?:=hf 0 _ rfl;rw [show Tryz.prog.cellsOf 4=1 from by kernel_rfl] at c0;have h9:0<xs.length:=by rw [h8];decide
 obtain ⟨y0,hB⟩:∃y,xs[0]?=some y:=⟨_,List.getElem?_eq_getElem h9⟩
 obtain ⟨v0,k0⟩:=(d9 Tryz.underlying4) enc w _ _ _ _ _ _ (c0.trans hB);have c1:DataW.trod enc Tryz.prog w base sp h6 n 3 ((cs.drop 1).take (Tryz.prog.cellsOf 3))=xs[1]?:=hf 1 _ rfl;rw [show Tryz.prog.cellsOf 3=1 from by kernel_rfl] at c1;have hd:1<xs.length:=by rw [h8];decide
 obtain ⟨y1,hy1⟩:∃y,xs[1]?=some y:=⟨_,List.getElem?_eq_getElem hd⟩
 obtain ⟨v1,k1⟩:=(Ck Tryz.underlying3) enc w _ _ _ _ _ _ (c1.trans hy1);have c2:DataW.trod enc Tryz.prog w base sp h6 n 3 ((cs.drop 2).take (Tryz.prog.cellsOf 3))=xs[2]?:=hf 2 _ rfl;rw [show Tryz.prog.cellsOf 3=1 from by kernel_rfl] at c2;have hw:2<xs.length:=by rw [h8];decide
 obtain ⟨y2,hC⟩:∃y,xs[2]?=some y:=⟨_,List.getElem?_eq_getElem hw⟩
 obtain ⟨v2,k2⟩:=(Ck Tryz.underlying3) enc w _ _ _ _ _ _ (c2.trans hC);have c3:DataW.trod enc Tryz.prog w base sp h6 n 62 ((cs.drop 3).take (Tryz.prog.cellsOf 62))=xs[3]?:=hf 3 _ rfl;rw [show Tryz.prog.cellsOf 62=5 from by kernel_rfl] at c3;have hA:3<xs.length:=by rw [h8];decide
 obtain ⟨y3,hD⟩:∃y,xs[3]?=some y:=⟨_,List.getElem?_eq_getElem hA⟩
 obtain ⟨v3,k3⟩:=y6 enc w _ _ _ _ _ _ (c3.trans hD);have e:cs=(cs.drop 0).take 1++(cs.drop 1).take 1++(cs.drop 2).take 1++(cs.drop 3).take 5:=by
  match cs,hl with
  | [a0,a1,a2,a3,a4,a5,a6,a7],_=>rfl
 rw [e];exact ⟨⟨v0,v1,v2,v3⟩,(BH (BH (BH k0 k1) k2) k3)⟩
theorem xW:Cy Tryz.prog 25 (Ci 8 narthexlaw19_Step.row):=IM (n:=8) (row:=narthexlaw19_Step.row) Tryz.underlying25 (by kernel_rfl) (by decide) (fun _=>⟨rfl,rfl,rfl⟩) xY
theorem wo:laidOutB Tryz.prog=true:=by kernel_rfl
theorem ye:ownKnob Tryz.prog.godebug=none:=by kernel_rfl
theorem rf (H:Type) (enc:TypeId×Value→H) (W:World) (J:Nat) (args:Array Value) (U Z:List (DataW H)) (E:List MemPlace)
  (h6:∀(j:Nat) t v,Tryz.f6.params[j]?=some t→args[j]?=some v→Value.okWide Tryz.prog W .any J t v)
  (Y:DataW.Whole enc Tryz.prog Tryz.f6.params.toList Rows.hallRoundSpec.vars false W args.toList U Z E):
  Calls Tryz.prog 6 args W fun e W'=>∃v,e = .returned v∧Rows.hallRoundSpec.post enc Tryz.prog Tryz.f6 false true false false W args v W':=by
 have h8:=Y;obtain ⟨p,q,h9,hV,rfl,hC,hD⟩:=Y;have hA:DataW.TrodAll enc Tryz.prog W 0 (fun _=>true) true Tryz.f6.params.toList args.toList U p:=h9;rw [Tryz.params6] at hA h6;obtain ⟨v0,vs0,d0,ds0,p0,q0,hd,rfl,rfl,h0,r0⟩:=trodAll_cons hA;obtain ⟨v1,vs1,d1,ds1,p1,q1,hw,rfl,rfl,h1,r1⟩:=trodAll_cons r0;obtain ⟨hz,rfl,rfl⟩:=trodAll_nil r1;obtain rfl:args = #[v0,v1]:=by cases args;simp_all
 obtain ⟨x1,k0⟩:=ZQ xZ Tryz.underlying24 (h6 0 24 v0 rfl rfl) h0;obtain ⟨x2,k1⟩:=ZR xW Tryz.underlying25 (h6 1 25 v1 rfl rfl) h1;refine (vg (yj x1 x2) (fun k=>W.heap[k]?) W [v0,v1] (fun _ _ h=>h) (fun _ hs=>absurd hs List.not_mem_nil) ⟨v0,_,rfl,k0,⟨v1,_,rfl,k1,rfl⟩⟩).mono ?_;rintro e W' ⟨v,H',rfl,hB,_,_,hv⟩;have hv:v = .bool true:=hv;subst hv;exact ⟨_,rfl,bp wo (by kernel_rfl) rfl (rfl:Tryz.f6.resultTypes = #[4]) Tryz.underlying4 (fun _=>rfl) h8 hB⟩
theorem wU (os:Os) (E:os.Started) (H:Type) (enc:TypeId×Value→H):
  ReturnsInHanded {} Tryz.checked os 6 .any (Rows.hallRoundSpec.pre6 enc Tryz.prog Tryz.f6 Rows.hallRoundRow.domain false) (Rows.hallRoundSpec.post enc Tryz.prog Tryz.f6 false true false false):=by
 refine returnsInHanded_of_change (C:=Tryz.checked) ye E (by kernel_rfl) Tryz.func6
  (ChangeSpec.witness6 (enc:=enc) (C:=Tryz.checked) false ⟨#[], #[.agg #[.int .i64 0,.slice none 0 0],.slice none 0 0],[]⟩ 8 (by kernel_rfl) (by kernel_rfl) (by kernel_rfl) (by kernel_rfl)) ?_
 intro W base args ds gs before h6 hW _ _;exact rf H enc W base args ds gs before h6 hW
theorem hallRound_holds:Rows.HallRoundSaid:=
 OpenClaim.holds_of_wide 6 Tryz.f6 rfl rfl rfl rfl rfl rfl rfl ⟨rfl,rfl,rfl,rfl,rfl⟩ rfl rfl rfl rfl rfl (by kernel_rfl) Tryz.func6 (by kernel_rfl)
  (of_decide_eq_true (by kernel_rfl)) (by unfold Func.isWrapper;first | (rw [if_pos (by decide +kernel)];kernel_rfl) | (rw [if_neg (by decide +kernel)];exact ⟨rfl,rfl⟩))
  (fun os started H enc _=>wU os started H enc)
#print axioms hallRound_holds
end NX
end Go.Proofs.YtjemlejoladlcaaGreat
