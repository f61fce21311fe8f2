/-
  Plain laws: all mail of a bar comes in the end; who is thirsty then waits for one who drinks. No statement of the seat is proved here.
-/
import Derived.KernelRfl
import Derived.Test.YtacfbmldajmjiaaGreatZ5
import Derived.Test.YtacfbmldajmjiaaGreatZ4
import Derived.Test.YtacfbmldajmjiaaGreatZ3
import Derived.Test.YtacfbmldajmjiaaGreatZ1
namespace Go.Proofs.YtacfbmldajmjiaaGreat
namespace NX
open Go
def pe (s:Bar) (a b:Nat):Nat:=
 match s.Drinkers[a]?,s.Drinkers[b]? with
 | some da,some db=>match Z38 da.Diner b,Z38 db.Diner a with
   | some x,some y=>pot x y da.Diner.Phase db.Diner.Phase da.Thirst db.Thirst (Zsi da x) (Zsi db y) (ch s.Mail a b) (ch s.Mail b a)
   | _,_=>0
 | _,_=>0
theorem pe_eq {s:Bar} {a b:Nat} {da db:Drinker} {x y:Side} (ha:s.Drinkers[a]?=some da) (hb:s.Drinkers[b]?=some db) (hx:Z38 da.Diner b=some x) (hy:Z38 db.Diner a=some y):
  pe s a b=pot x y da.Diner.Phase db.Diner.Phase da.Thirst db.Thirst (Zsi da x) (Zsi db y) (ch s.Mail a b) (ch s.Mail b a):=by
 unfold pe
 rw [ha,hb]
 dsimp only
 rw [hx,hy]
theorem pe_none {s:Bar} {a b:Nat} (h:∀da db x y,s.Drinkers[a]?=some da→s.Drinkers[b]?=some db→Z38 da.Diner b=some x→Z38 db.Diner a=some y→False):pe s a b=0:=by
 unfold pe
 split
 ·rename_i da db ha hb
  split
  ·rename_i x y hx hy
   exact absurd (h da db x y ha hb hx hy) (by simp)
  ·rfl
 ·rfl
theorem Zeo {r:Nat→Int} {s:Bar} (he:Zxn r s) (a b:Nat):pe s a b=pe s b a:=by
 by_cases h:∃da db x y,s.Drinkers[a]?=some da∧s.Drinkers[b]?=some db∧Z38 da.Diner b=some x∧Z38 db.Diner a=some y
 ·obtain ⟨da,db,x,y,h1,h2,h3,h4⟩:=h
  rw [pe_eq h1 h2 h3 h4,pe_eq h2 h1 h4 h3]
  exact (pot_symm (he a b da db x y h1 h2 h3 h4).2 _ _ _ _ _ _).symm
 ·rw [pe_none fun da db x y h1 h2 h3 h4=>h ⟨da,db,x,y,h1,h2,h3,h4⟩,pe_none fun db da y x h2 h1 h4 h3=>h ⟨da,db,x,y,h1,h2,h3,h4⟩]
structure Goes (d:Drinker):Prop where
 th:d.Thirst=1→d.Diner.Phase≠0
 tok:d.Diner.Phase=1→∀x∈d.Diner.Sides,x.Token=true→x.Fork=true
theorem Zfo {d:Drinker} (h:Goes d):Zyi d=d.Diner.Phase∨d.Diner.Phase=2∧Zyi d=0∧d.Thirst≠1:=by
 unfold Zyi
 by_cases h1:d.Thirst=1
 ·have:=h.th h1
  rw [decide_eq_true h1,decide_eq_false this,Bool.true_and,if_neg (by simp),Bool.not_true,Bool.false_and,Bool.and_false,if_neg (by simp)]
  exact .inl rfl
 ·rw [decide_eq_false h1,Bool.false_and,if_neg (by simp)]
  split
  ·rename_i hc
   rw [Bool.and_eq_true,decide_eq_true_eq] at hc
   exact .inr ⟨hc.1,rfl,h1⟩
  ·exact .inl rfl
theorem onceT_or (d:Drinker):Z1j d=d.Thirst∨d.Thirst=1∧Z1j d=2∧∀x∈Z0j d,Zsi d x=true→x.Bottle=true:=by
 unfold Z1j
 cases hh:decide (d.Thirst=1)&&(Z0j d).all (fun x=>!Zsi d x||x.Bottle) with
 | false=>exact .inl rfl
 | true=>
   rw [Bool.and_eq_true,decide_eq_true_eq,List.all_eq_true] at hh
   exact .inr ⟨hh.1,rfl,fun x hx hn=>by have:=hh.2 x hx;rw [hn] at this;simpa using this⟩
theorem Zgo (d:Drinker):(Z2j d).Diner.Phase=(Z4b (Zzi d)).Phase:=rfl
theorem Goes.once {d:Drinker} (h:Goes d):Goes (Z2j d):=by
 have hp:=Zfo h
 have hf:=Z0o (Zzi d)
 have hpp:(Zzi d).Phase=Zyi d:=rfl
 rw [hpp] at hf
 refine ⟨fun e=>?_,fun e x hx=>?_⟩
 ·rw [Zgo]
  have e':Z1j d=1:=e
  have ht:d.Thirst=1:=by
   rcases onceT_or d with q | ⟨q1,q2,_⟩
   ·rw [←q];exact e'
   ·omega
  have h0:=h.th ht
  have hpd:Zyi d=d.Diner.Phase:=by
   rcases hp with q | ⟨_,_,q⟩
   ·exact q
   ·exact absurd ht q
  rcases hf with ⟨q,_⟩ | ⟨_,q,_⟩
  ·rw [q,hpd];exact h0
  ·rw [q];omega
 ·rw [Zgo] at e
  have hx':x∈Z0j d:=hx
  unfold Z0j at hx'
  obtain ⟨z,hz,rfl⟩:=List.mem_map.1 hx'
  rw [Zhb] at hz
  obtain ⟨w,hw,rfl⟩:=List.mem_map.1 hz
  obtain ⟨_,_,_,b4,b5,b6⟩:=Zxi (Zsi d (Zgb (Zzi d) w)) d.Thirst (Zgb (Zzi d) w)
  rw [b6,b4]
  rcases hf with ⟨q,q'⟩ | ⟨_,q,_⟩
  ·rw [q] at e
   rw [q' w,e]
   have:=(fire2_set 1 w).2 rfl
   exact this
  ·rw [q] at e;omega
theorem pot_once {d:Drinker} (h:Goes d) {x y:Side} {pb tb:Int} {nb:Bool} {cab cba:List Int} {ra rb:Int} (hx:x∈d.Diner.Sides)
  (he:Zwe x y d.Diner.Phase pb (f12 cab) (f12 cba) ra rb) (hb:Zwn x y (f34 cab) (f34 cba)) (id:Int) {m:Int} (hm:m<rb):
  pot (Zvi (Zsi d x) d.Thirst (Zgb (Zzi d) x)) y (Z2j d).Diner.Phase pb (Z1j d) tb (Zsi d x) nb (cab++(Ztn (Z2b id (Zyi d) x)++Ztn (Zwi id (Zsi d x) d.Thirst (Zgb (Zzi d) x)))) cba≤pot x y d.Diner.Phase pb d.Thirst tb (Zsi d x) nb cab cba:=by
 have hp:=Zfo h
 have hf:=Z0o (Zzi d)
 have hpp:(Zzi d).Phase=Zyi d:=rfl
 rw [hpp] at hf
 have q1:Zwe x y (Zyi d) pb (f12 cab) (f12 cba) ra rb:=by
  rcases hp with q | ⟨q,_,_⟩
  ·rw [q];exact he
  ·exact he.phase (by omega) _
 have p1:pot x y (Zyi d) pb d.Thirst tb (Zsi d x) nb cab cba≤pot x y d.Diner.Phase pb d.Thirst tb (Zsi d x) nb cab cba:=by
  rcases hp with q | ⟨q,q',_⟩
  ·rw [q];exact Nat.le_refl _
  ·rw [q'];exact pot_phase q
 have hs:Zyi d=1→x.Token=true→x.Fork=true:=fun e ht=>by
  rcases hp with q | ⟨_,q,_⟩
  ·exact h.tok (q ▸ e) x hx ht
  ·omega
 have p2:=pot_fire (ta:=d.Thirst) (tb:=tb) (na:=Zsi d x) (nb:=nb) id q1 hs
 have q2:=q1.fire id
 obtain ⟨k1,k2⟩:=Zun id (Zyi d) x
 have q2':Zwe (Z1b (Zyi d) x) y (Zyi d) pb (f12 (cab++Ztn (Z2b id (Zyi d) x))) (f12 cba) ra rb:=by rw [Zrn,k1];exact q2
 have hsame:(Z1b (Zyi d) x).Bottle=x.Bottle∧(Z1b (Zyi d) x).Ask=x.Ask:=by
  unfold Z1b Z0b
  split<;>split<;>exact ⟨rfl,rfl⟩
 have b2:Zwn (Z1b (Zyi d) x) y (f34 (cab++Ztn (Z2b id (Zyi d) x))) (f34 cba):=by
  rw [Zsn,k2,List.append_nil];exact hb.same hsame.1 hsame.2
 have p3:pot (Zgb (Zzi d) x) y (Z4b (Zzi d)).Phase pb d.Thirst tb (Zsi d x) nb (cab++Ztn (Z2b id (Zyi d) x)) cba≤pot (Z1b (Zyi d) x) y (Zyi d) pb d.Thirst tb (Zsi d x) nb (cab++Ztn (Z2b id (Zyi d) x)) cba:=by
  rcases hf with ⟨f1,f2⟩ | ⟨f1,f2,f3,_⟩
  ·rw [f1,f2 x];exact Nat.le_refl _
  ·rw [f2,f3 x,f1];exact pot_eat
 have q3:∃r3,Zwe (Zgb (Zzi d) x) y (Z4b (Zzi d)).Phase pb (f12 (cab++Ztn (Z2b id (Zyi d) x))) (f12 cba) r3 rb:=by
  rcases hf with ⟨f1,f2⟩ | ⟨f1,f2,f3,f4⟩
  ·rw [f1,f2 x];exact ⟨_,q2'⟩
  ·rw [f2,f3 x]
   have hk:=f4 x hx
   rw [f1] at q2' hk ⊢
   exact ⟨m,q2'.eat hk hm⟩
 have b3:Zwn (Zgb (Zzi d) x) y (f34 (cab++Ztn (Z2b id (Zyi d) x))) (f34 cba):=by
  rcases hf with ⟨_,f2⟩ | ⟨_,_,f3,_⟩
  ·rw [f2 x];exact b2
  ·rw [f3 x];exact b2.same rfl rfl
 obtain ⟨r3,q3⟩:=q3
 have p4:=pot_bot (pa:=(Z4b (Zzi d)).Phase) (pb:=pb) (ta:=d.Thirst) (tb:=tb) (na:=Zsi d x) (nb:=nb) id b3 (Z9o q3)
 rw [List.append_assoc] at p4
 rw [Zgo]
 refine Nat.le_trans ?_ (Nat.le_trans p4 (Nat.le_trans p3 (Nat.le_trans p2 p1)))
 rcases onceT_or d with q | ⟨t1,t2,t3⟩
 ·rw [q];exact Nat.le_refl _
 ·rw [t2]
  refine pot_drink t1 fun hn=>?_
  refine t3 (Zvi (Zsi d x) d.Thirst (Zgb (Zzi d) x)) ?_ ?_
  ·unfold Z0j
   refine List.mem_map.2 ⟨Zgb (Zzi d) x,?_,?_⟩
   ·rw [Zhb];exact List.mem_map_of_mem hx
   ·have:Zsi d (Zgb (Zzi d) x)=Zsi d x:=by unfold Zsi;rw [(Zjb (Zzi d) x).1]
    rw [this]
  ·unfold Zsi
   rw [(Zxi _ _ _).1,(Zjb (Zzi d) x).1]
   exact hn
theorem pe_once {g:Graph} {s:Bar} (hg:okG g=true) (h:Fork g s) {a:Nat} {d:Drinker} (hd:s.Drinkers[a]?=some d) (hG:Goes d) (p q:Nat) (hpq:p≠q):pe ⟨s.Drinkers.set a (Z2j d),s.Mail++Z3j d⟩ p q≤pe s p q:=by
 have h1:=h.once hg hd
 obtain ⟨r1,he1⟩:=h1.edge
 obtain ⟨r,he⟩:=h.edge
 have hdt:=Zym hd
 obtain ⟨hid,_⟩:=h.inv.tab.shp a _ hdt
 have hpw:=h.inv.tab.pw hg hdt
 have hlt:=(List.getElem?_eq_some_iff.1 hd).1
 have key:∀b:Nat,b≠a→pe ⟨s.Drinkers.set a (Z2j d),s.Mail++Z3j d⟩ a b≤pe s a b:=fun b hb=>by
  by_cases hh:∃db x y,s.Drinkers[b]?=some db∧Z38 d.Diner b=some x∧Z38 db.Diner a=some y
  ·obtain ⟨db,x,y,hdb,hx,hy⟩:=hh
   have hb':(s.Drinkers.set a (Z2j d))[b]?=some db:=by rw [List.getElem?_set,if_neg (fun e=>hb e.symm)];exact hdb
   have hx':Z38 (Z2j d).Diner b=some (Zvi (Zsi d x) d.Thirst (Zgb (Zzi d) x)):=by rw [Zyn,hx];rfl
   have hn:Zsi (Z2j d) (Zvi (Zsi d x) d.Thirst (Zgb (Zzi d) x))=Zsi d x:=by
    unfold Zsi
    rw [(Zxi _ _ _).1,(Zjb (Zzi d) x).1];rfl
   rw [pe_eq (s:=⟨s.Drinkers.set a (Z2j d),s.Mail++Z3j d⟩) (Zin hd) hb' hx' hy,pe_eq hd hdb hx hy,hn]
   dsimp only
   have e2:=once_ch hpw hx
   rw [hid] at e2
   have e3:ch (Z3j d) b a=[]:=Zzn (by rw [hid];omega)
   rw [Zxe,Zxe,e2,e3,List.append_nil]
   obtain ⟨m,hm⟩:=low r s.Drinkers.length
   have hE:=he a b d db x y hd hdb hx hy
   exact pot_once hG (Zmb hx).1 hE.1 hE.2 a (hm b (List.getElem?_eq_some_iff.1 hdb).1)
  ·rw [pe_none (s:=⟨s.Drinkers.set a (Z2j d),s.Mail++Z3j d⟩) fun da db x y k1 k2 k3 k4=>?_]
   ·exact Nat.zero_le _
   ·dsimp only at k1 k2
    rw [Zin hd] at k1
    have:da=Z2j d:=by simpa using k1.symm
    subst this
    rw [List.getElem?_set,if_neg (fun e=>hb e.symm)] at k2
    rw [Zyn,Option.map_eq_some_iff] at k3
    obtain ⟨x0,hx0,_⟩:=k3
    exact hh ⟨db,x0,y,k2,hx0,k4⟩
 by_cases hp:p=a
 ·subst hp
  exact key q fun e=>hpq e.symm
 ·by_cases hq:q=a
  ·subst hq
   rw [Zeo he1 p,Zeo he p]
   exact key p hp
  ·unfold pe
   dsimp only
   rw [List.getElem?_set,List.getElem?_set,if_neg (fun e=>hp e.symm),if_neg (fun e=>hq e.symm),Zxe,Zxe,Zzn (d:=d) (p:=(p:Int)) (by rw [hid];omega),Zzn (d:=d) (p:=(q:Int)) (by rw [hid];omega),List.append_nil,List.append_nil]
   exact Nat.le_refl _
def tq (d:Drinker):Bool:=decide (d.Thirst=0)
theorem once_tq (d:Drinker):tq (Z2j d)=tq d:=by
 unfold tq
 have e:(Z2j d).Thirst=Z1j d:=rfl
 rw [e]
 rcases onceT_or d with q | ⟨q1,q2,_⟩
 ·rw [q]
 ·rw [q1,q2];rfl
theorem pe_fireN {g:Graph} (hg:okG g=true) (L:List Drinker) (M:List Mail) {a:Nat} (ha:a<L.length):∀(n:Nat) (d:Drinker) (out:List Mail),Fork g ⟨L.set a d,M++out⟩→Goes d→
  (∀p q:Nat,p≠q→pe ⟨L.set a (NX.fireN n d out).1,M++(NX.fireN n d out).2⟩ p q≤pe ⟨L.set a d,M++out⟩ p q)∧tq (NX.fireN n d out).1=tq d
 | 0,_,_,_,_=>⟨fun _ _ _=>Nat.le_refl _,rfl⟩
 | n+1,d,out,h,hG=>by
   unfold NX.fireN
   split
   ·exact ⟨fun _ _ _=>Nat.le_refl _,rfl⟩
   ·have hd:(L.set a d)[a]?=some d:=by rw [List.getElem?_set];simp [ha]
    have h1:=h.once hg hd
    have h2:=pe_once hg h hd hG
    dsimp only at h1 h2
    rw [List.set_set,List.append_assoc] at h1 h2
    obtain ⟨k1,k2⟩:=pe_fireN hg L M ha n _ _ h1 hG.once
    exact ⟨fun p q hpq=>Nat.le_trans (k1 p q hpq) (h2 p q hpq),k2.trans (once_tq d)⟩
theorem fireN_fix:∀(n:Nat) (d:Drinker) (out:List Mail),okD d.Diner=true→mu d<n→Z2j (fireN n d out).1=(fireN n d out).1∧okD (fireN n d out).1.Diner=true
 | 0,_,_,_,h=>by omega
 | n+1,d,out,hk,h=>by
   have hp:=Zqj hk
   unfold fireN
   by_cases hq:Z2j d=d
   ·rw [if_pos hq];exact ⟨hq,hk⟩
   ·rw [if_neg hq]
    rcases Z9j hp.1 hp.2 with h1 | h1
    ·exact absurd h1.1 hq
    ·exact fireN_fix n (Z2j d) _ (once_ok hk) (by omega)
def Calm (d:Drinker):Prop:=Z2j d=d∧Z3j d=[]
theorem fireDr_calm {d:Drinker} (h:okDr d=true):Calm (fireDr d).1:=by
 have hk:=Zxj h
 have hm:=mu_le hk
 obtain ⟨h1,h2⟩:=fireN_fix 300 d [] hk (by omega)
 have h3:Z2j (fireDr d).1=(fireDr d).1:=h1
 refine ⟨h3,?_⟩
 have hp:=Zqj h2
 rcases Z9j (d:=(fireDr d).1) hp.1 hp.2 with k | k
 ·exact k.2
 ·rw [h3] at k;omega
structure CalmD (d:Drinker):Prop where
 goes:Goes d
 eat:d.Diner.Phase=2→d.Thirst=1
 set:SetD d.Diner
 give:∀x∈d.Diner.Sides,x.Bottle=true→x.Ask=true→Zti (Zsi d x) d.Thirst x=true
 ask:∀x∈d.Diner.Sides,d.Thirst=1→Zsi d x=true→x.Ask=true→x.Bottle=true
 lack:d.Thirst=1→∃x∈d.Diner.Sides,Zsi d x=true∧x.Bottle=false
theorem Calm.parts {d:Drinker} (h:Calm d) (hs:∀x∈d.Diner.Sides,x.State=0):CalmD d:=by
 obtain ⟨h1,h2⟩:=h
 have hp:(Z4b (Zzi d)).Phase=d.Diner.Phase:=by rw [←Zgo,h1]
 have hS:Z0j d=d.Diner.Sides:=congrArg (fun z:Drinker=>z.Diner.Sides) h1
 have hT:Z1j d=d.Thirst:=congrArg (fun z:Drinker=>z.Thirst) h1
 unfold Z3j at h2
 rw [List.append_eq_nil_iff] at h2
 obtain ⟨m1,m2⟩:=h2
 have hop:d.Diner.Sides.any (fun x=>decide (x.State=1))=false:=by
  rw [List.any_eq_false];intro x hx;rw [hs x hx];simp
 have hph:Zyi d=d.Diner.Phase∧(d.Thirst=1→d.Diner.Phase≠0)∧(d.Diner.Phase=2→d.Thirst=1):=by
  have hf:=Z0o (Zzi d)
  have hpp:(Zzi d).Phase=Zyi d:=rfl
  rw [hpp] at hf
  unfold Zyi at hf ⊢
  rw [hop] at hf ⊢
  by_cases t1:d.Thirst=1
  ·by_cases p0:d.Diner.Phase=0
   ·simp only [t1,p0,decide_true,Bool.and_self,if_true] at hf
    rcases hf with ⟨q,_⟩ | ⟨_,q,_⟩<;>rw [hp,p0] at q<;>omega
   ·simp only [t1,p0,decide_true,decide_false,Bool.and_false,Bool.not_true,Bool.false_and,Bool.false_eq_true,if_false]
    exact ⟨trivial,fun _=>by first | exact p0 | simp,fun _=>trivial⟩
  ·by_cases p2:d.Diner.Phase=2
   ·simp only [t1,p2,decide_true,decide_false,Bool.false_and,Bool.false_eq_true,if_false,Bool.not_false,Bool.and_self,if_true] at hf
    rcases hf with ⟨q,_⟩ | ⟨q,_⟩
    ·rw [hp,p2] at q;omega
    ·omega
   ·simp only [t1,p2,decide_false,Bool.false_and,Bool.false_eq_true,if_false]
    exact ⟨trivial,fun e=>absurd e (by first | exact t1 | simp),fun e=>absurd e (by first | exact p2 | simp)⟩
 obtain ⟨e0,e1,e2⟩:=hph
 have hpre:Zzi d=d.Diner:=by unfold Zzi;rw [e0]
 rw [hpre] at m1 m2 hp
 have hnil:∀x∈d.Diner.Sides,Z2b d.Diner.ID d.Diner.Phase x=[]:=fun x hx=>by
  have:∀y∈Z2b d.Diner.ID d.Diner.Phase x,y∈Z5b d.Diner:=fun y hy=>List.mem_flatMap.2 ⟨x,hx,hy⟩
  rw [m1] at this
  cases hc:Z2b d.Diner.ID d.Diner.Phase x with
  | nil=>rfl
  | cons y l=>exact absurd (this y (by rw [hc];simp)) (by simp)
 have hsame:∀x∈d.Diner.Sides,Zgb d.Diner x=x:=fun x hx=>by
  rcases Z0o d.Diner with ⟨_,q⟩ | ⟨q1,q2,_⟩
  ·rw [q x];exact fireM_nil (hnil x hx)
  ·rw [hp] at q2;omega
 have hfS:(Z4b d.Diner).Sides=d.Diner.Sides:=by rw [Zhb];exact Z8j hsame
 have hfD:Z4b d.Diner=d.Diner:=by
  have i:=Zib d.Diner
  generalize Z4b d.Diner=z at hfS hp i
  obtain ⟨zi,zp,zs⟩:=z
  dsimp only at hfS hp i
  rw [hfS,hp,i]
 have hset:SetD d.Diner:=by have:=fireD_set d.Diner;rw [hfD] at this;exact this
 have hbn:∀x∈d.Diner.Sides,Zwi d.Diner.ID (Zsi d x) d.Thirst x=[]:=fun x hx=>by
  rw [hfS] at m2
  have:∀y∈Zwi d.Diner.ID (Zsi d x) d.Thirst x,y∈d.Diner.Sides.flatMap fun x=>Zwi d.Diner.ID (Zsi d x) d.Thirst x:=fun y hy=>List.mem_flatMap.2 ⟨x,hx,hy⟩
  rw [m2] at this
  cases hc:Zwi d.Diner.ID (Zsi d x) d.Thirst x with
  | nil=>rfl
  | cons y l=>exact absurd (this y (by rw [hc];simp)) (by simp)
 have hgive:∀x∈d.Diner.Sides,¬(x.Bottle&&(x.Ask&&!Zti (Zsi d x) d.Thirst x))=true:=fun x hx hc=>by
  have:=hbn x hx
  unfold Zwi at this
  rw [if_pos hc] at this
  simp at this
 refine ⟨⟨e1,fun e x hx ht=>(hset.side x hx).2 e ht⟩,e2,hset,fun x hx b a=>?_,fun x hx t n a=>?_,fun t=>?_⟩
 ·have:=hgive x hx
  rw [b,a] at this
  simpa using this
 ·have:=hbn x hx
  have hb1:Zui (Zsi d x) d.Thirst x=x:=by unfold Zui;rw [if_neg (hgive x hx)]
  unfold Zwi at this
  rw [if_neg (hgive x hx),List.nil_append,hb1,t,n,a] at this
  cases hb:x.Bottle with
  | true=>rfl
  | false=>rw [hb] at this;simp at this
 ·unfold Z1j at hT
  rw [t,decide_eq_true rfl,Bool.true_and,hS] at hT
  split at hT
  ·omega
  ·rename_i hc
   rw [Bool.not_eq_true,List.all_eq_false] at hc
   obtain ⟨x,hx,hc⟩:=hc
   refine ⟨x,hx,?_⟩
   cases hn:Zsi d x<;>cases hb:x.Bottle<;>rw [hn,hb] at hc<;>simp at hc
   exact ⟨rfl,rfl⟩
structure Rest (g:Graph) (s:Bar):Prop where
 fork:Fork g s
 calm:∀d∈s.Drinkers,CalmD d
theorem Rest.inv {g:Graph} {s:Bar} (h:Rest g s):InvB g s:=h.fork.inv
theorem Rest.act {g:Graph} {s:Bar} (hg:okG g=true) (hN:g.N≤60) (hc:∀d∈s.Drinkers,CalmD d) {a:Nat} (ha:a<s.Drinkers.length) {d':Drinker} {M:List Mail} (h:Fork g ⟨s.Drinkers.set a d',M⟩):Rest g ⟨s.Drinkers.set a (NX.fireDr d').1,M++(NX.fireDr d').2⟩:=by
 have hd:(s.Drinkers.set a d')[a]?=some d':=by rw [List.getElem?_set];simp [ha]
 have h1:=Fork.fireDr hg h hd
 have hk:=h.inv.okDr hg hN (List.mem_iff_getElem?.2 ⟨_,hd⟩)
 dsimp only at h1
 rw [List.set_set] at h1
 refine ⟨h1,fun e he=>?_⟩
 dsimp only at he
 rcases List.mem_or_eq_of_mem_set he with he | rfl
 ·exact hc e he
 ·refine (fireDr_calm hk).parts fun x hx=>?_
  have hm:(NX.fireDr d').1∈(⟨s.Drinkers.set a (NX.fireDr d').1,M++(NX.fireDr d').2⟩:Bar).Drinkers:=List.mem_iff_getElem?.2 ⟨a,by dsimp only;rw [List.getElem?_set];simp [ha]⟩
  have hm2:(NX.fireDr d').1.Diner∈(Zxm ⟨s.Drinkers.set a (NX.fireDr d').1,M++(NX.fireDr d').2⟩).Diners:=List.mem_map_of_mem hm
  exact ((h1.inv.tab.loc _ hm2).side x hx).2.1
theorem Rest.first {g:Graph} (hg:okG g=true):Rest g (barT g):=by
 refine ⟨Fork.first hg,fun d hd=>?_⟩
 have hF:=(Fair.first hg).set
 have h1:d∈(Zvd g).Diners.map fun d=>(⟨d,0,[]⟩:Drinker):=hd
 obtain ⟨d0,hd0,rfl⟩:=List.mem_map.1 h1
 have hset:=hF d0 hd0
 obtain ⟨k,hk⟩:=List.mem_iff_getElem?.1 hd0
 have hkl:=(List.getElem?_eq_some_iff.1 hk).1
 have hl:=Z2a hg (Ztd g)
 have hk':k<(Zy9 g (Ztd g)).length:=hkl
 have e:=Z1a (g:=g) (c:=Ztd g) (a:=(k:Int)) (by omega) (by omega)
 have h2':(Zy9 g (Ztd g))[k]?=some d0:=hk
 rw [Int.toNat_natCast,h2'] at e
 have e':d0=Zx9 g (Ztd g) k:=by simpa using e
 subst e'
 refine ⟨⟨fun e=>absurd e (by show ¬(0:Int)=1;omega),fun e=>absurd e (by show ¬(0:Int)=1;omega)⟩,fun e=>absurd e (by show ¬(0:Int)=2;omega),hset,fun x hx b a=>?_,fun x hx e=>absurd e (by show ¬(0:Int)=1;omega),fun e=>absurd e (by show ¬(0:Int)=1;omega)⟩
 obtain ⟨z,_,rfl⟩:=List.mem_map.1 hx
 simp only [Zw9] at b a
 have hlt:∀u v:Int,decide (u<v)=true→decide (v<u)=true→False:=fun u v h1 h2=>by simp at h1 h2;omega
 first | exact absurd (hlt _ _ b a) (by simp) | (rw [b] at a;exact absurd a (by simp)) | simp_all
theorem Rest.actR {g:Graph} {s:Bar} (hg:okG g=true) (hN:g.N≤60) (h:Rest g s) (k a b:Int) (need:List Int) (he:(NX.actR s k a b need).2=0):Rest g (NX.actR s k a b need).1:=by
 obtain ⟨r,hr⟩:=h.fork.edge
 unfold NX.actR at he ⊢
 split at he
 ·rename_i h1
  rw [if_pos h1]
  obtain ⟨d,a0,hd,_,_,hI,e⟩:=open_eq hg hN h.inv he
  rw [e]
  exact Rest.act hg hN h.calm (List.getElem?_eq_some_iff.1 hd).1 ⟨hI,r,hr.drk hg h.inv hd _ _⟩
 ·rename_i h1
  rw [if_neg h1]
  split at he
  ·rename_i h2
   rw [if_pos h2]
   obtain ⟨d,a0,hd,h0⟩:=close_eq hg hN h.inv he
   obtain ⟨hI,e⟩:=close_ok hg hN h.inv a0 hd h0
   rw [e]
   exact Rest.act hg hN h.calm (List.getElem?_eq_some_iff.1 hd).1 ⟨hI,r,hr.drk hg h.inv hd _ _⟩
  ·rename_i h2
   rw [if_neg h2]
   cases ht:Zcm s a with
   | false=>
     unfold Znm at he
     rw [h.inv.ok hg hN,if_pos rfl,ht] at he
     exact absurd he (by show ¬(161:Int)=0;omega)
   | true=>
     cases ht':Zcm s b with
     | false=>
       unfold Znm at he
       rw [h.inv.ok hg hN,if_pos rfl,ht,ht'] at he
       exact absurd he (by show ¬(161:Int)=0;omega)
     | true=>
       cases hf:Zmm s a b with
       | none=>
         unfold Znm at he
         rw [h.inv.ok hg hN,if_pos rfl,ht,ht',Bool.and_self,if_pos rfl,hf] at he
         exact absurd he (by show ¬(162:Int)=0;omega)
       | some i=>
         obtain ⟨m,db,x,j,d1,hm,m1,m2,hdb,hxj,hp,hd1,hI,e,_⟩:=Znn hg hN h.inv ht ht' hf
         obtain ⟨da,_,hda⟩:=Zfm ht
         rw [e]
         exact Rest.act hg hN h.calm (List.getElem?_eq_some_iff.1 hdb).1 ⟨hI,r,(hr.get hg h.inv (Zem.1 ht).1 (Zem.1 ht').1 hda hdb hf hm m1 m2 hxj hp hd1).1⟩
theorem Rest.deliv {g:Graph} {s:Bar} (hg:okG g=true) (hN:g.N≤60) (h:Rest g s) {a b:Int} (ht:Zcm s a=true) (ht':Zcm s b=true) {i:Nat} (hf:Zmm s a b=some i):
  ∃t,Znm s a b=(t,0)∧Rest g t∧(∀p q:Nat,p≠q→pe t p q≤pe s p q)∧pe t a.toNat b.toNat+1≤pe s a.toNat b.toNat∧t.Drinkers.map tq=s.Drinkers.map tq∧t.Drinkers.map (·.Need)=s.Drinkers.map (·.Need):=by
 obtain ⟨r,hr⟩:=h.fork.edge
 have a0:=(Zem.1 ht).1
 have b0:=(Zem.1 ht').1
 obtain ⟨m,db,x,j,d1,hm,m1,m2,hdb,hxj,hp,hd1,hI,e,_⟩:=Znn hg hN h.inv ht ht' hf
 obtain ⟨da,_,hda⟩:=Zfm ht
 obtain ⟨hE1,htok⟩:=hr.get hg h.inv a0 b0 hda hdb hf hm m1 m2 hxj hp hd1
 have hlt:=(List.getElem?_eq_some_iff.1 hdb).1
 have hF1:Fork g ⟨s.Drinkers.set b.toNat d1,s.Mail.take i++s.Mail.drop (i+1)⟩:=⟨hI,r,hE1⟩
 have hdbm:db∈s.Drinkers:=List.mem_iff_getElem?.2 ⟨_,hdb⟩
 have hC:=h.calm db hdbm
 have hxm:x∈db.Diner.Sides:=List.mem_iff_getElem?.2 ⟨_,hxj⟩
 have hmm:m∈s.Mail:=List.mem_iff_getElem?.2 ⟨_,hm⟩
 obtain ⟨k1,_,_,hnear⟩:=h.inv.mail m hmm
 rw [m1,m2] at hnear
 have hne:a≠b:=fun e=>(Zv9 hg hnear).2.2.1 e.symm
 have hG1:Goes d1:=by
  rw [hd1]
  refine ⟨hC.goes.th,fun e z hz=>?_⟩
  dsimp only at e hz
  rcases List.mem_or_eq_of_mem_set hz with hz | rfl
  ·exact hC.goes.tok e z hz
  ·have h0:=hC.goes.tok e x hxm
   by_cases hk2:m.Msg.Kind≤2
   ·rw [if_pos hk2]
    unfold Z2e
    by_cases hk1:m.Msg.Kind=1
    ·rw [if_pos hk1];exact fun _=>rfl
    ·rw [if_neg hk1];exact fun _=>htok (by omega)
   ·rw [if_neg hk2]
    unfold NX.getT
    split
    ·exact h0
    ·exact h0
 have hRest:=Rest.act hg hN h.calm hlt hF1
 obtain ⟨p1,p2⟩:=pe_fireN hg s.Drinkers (s.Mail.take i++s.Mail.drop (i+1)) hlt 300 d1 [] (by rw [List.append_nil];exact hF1) hG1
 rw [List.append_nil] at p1
 have ea:((a.toNat:Nat):Int)=a:=Int.toNat_of_nonneg a0
 have eb:((b.toNat:Nat):Int)=b:=Int.toNat_of_nonneg b0
 have hf':=hf
 unfold Zmm at hf'
 obtain ⟨c1,c2⟩:=ch_take hf' hm
 have hdbt:=Zym hdb
 have hpw:=h.inv.tab.pw hg hdbt
 have hloc:=h.inv.tab.loc _ (List.mem_iff_getElem?.2 ⟨_,hdbt⟩)
 have hxo:Z38 db.Diner a=some x:=by rw [←hp];exact Zln hpw hxm
 obtain ⟨y,hy,_⟩:=h.inv.tab.sided a0 (Zym hda) hnear
 have hgp:(if m.Msg.Kind≤2 then Z2e x m.Msg.Kind else NX.getT x m.Msg.Kind).Peer=x.Peer:=by
  split
  ·unfold Z2e;split<;>rfl
  ·unfold NX.getT;split<;>rfl
 have i3:∀z:Int,Z38 d1.Diner z=if z=a then some (if m.Msg.Kind≤2 then Z2e x m.Msg.Kind else NX.getT x m.Msg.Kind) else Z38 db.Diner z:=fun z=>by
  rw [hd1]
  dsimp only
  rw [Zkn hpw hxj hgp,hp]
 have hn1:∀z,Zsi d1 z=Zsi db z:=fun z=>by rw [hd1];rfl
 have hcm:∀p q:Int,¬(p=a∧q=b)→ch (s.Mail.take i++s.Mail.drop (i+1)) p q=ch s.Mail p q:=c2
 have hda1:(s.Drinkers.set b.toNat d1)[a.toNat]?=some da:=by rw [List.getElem?_set,if_neg (by omega)];exact hda
 have hmain:pe ⟨s.Drinkers.set b.toNat d1,s.Mail.take i++s.Mail.drop (i+1)⟩ b.toNat a.toNat+1≤pe s b.toNat a.toNat:=by
  rw [pe_eq (s:=⟨s.Drinkers.set b.toNat d1,s.Mail.take i++s.Mail.drop (i+1)⟩) (Zin hdb) hda1 (by rw [i3,ea,if_pos rfl]) (by rw [eb];exact hy),pe_eq hdb hda (by rw [ea];exact hxo) (by rw [eb];exact hy)]
  dsimp only
  rw [ea,eb,c1,hcm b a (by omega),hn1]
  have hE:=hr b.toNat a.toNat db da x y hdb hda (by rw [ea];exact hxo) (by rw [eb];exact hy)
  rw [ea,eb,c1] at hE
  have hn2:Zsi db (if m.Msg.Kind≤2 then Z2e x m.Msg.Kind else NX.getT x m.Msg.Kind)=Zsi db x:=by unfold Zsi;rw [hgp]
  have e1:d1.Diner.Phase=db.Diner.Phase:=by rw [hd1]
  have e2:d1.Thirst=db.Thirst:=by rw [hd1]
  rw [hn2,e1,e2]
  exact pot_get (hloc.side x hxm).2.2 k1.1 k1.2 hE.1 hE.2
 have hother:∀p q:Nat,p≠q→pe ⟨s.Drinkers.set b.toNat d1,s.Mail.take i++s.Mail.drop (i+1)⟩ p q≤pe s p q:=by
  have key:∀q:Nat,q≠b.toNat→pe ⟨s.Drinkers.set b.toNat d1,s.Mail.take i++s.Mail.drop (i+1)⟩ b.toNat q≤pe s b.toNat q:=fun q hq=>by
   by_cases hqa:(q:Int)=a
   ·have:q=a.toNat:=by omega
    subst this
    omega
   ·unfold pe
    dsimp only
    rw [Zin hdb,hdb,List.getElem?_set,if_neg (fun e=>hq e.symm)]
    have hn1':Zsi d1=Zsi db:=by funext z;exact hn1 z
    have e1:d1.Diner.Phase=db.Diner.Phase:=by rw [hd1]
    have e2:d1.Thirst=db.Thirst:=by rw [hd1]
    cases s.Drinkers[q]? with
    | none=>exact Nat.le_refl _
    | some dq=>
      dsimp only
      rw [i3,if_neg hqa,eb,hcm b q (by omega),hcm q b (by omega),hn1',e1,e2]
      exact Nat.le_refl _
  intro p q hpq
  by_cases hp':p=b.toNat
  ·subst hp'
   exact key q fun e=>hpq e.symm
  ·by_cases hq':q=b.toNat
   ·subst hq'
    rw [Zeo hE1 p,Zeo hr p]
    exact key p hp'
   ·unfold pe
    dsimp only
    rw [List.getElem?_set,List.getElem?_set,if_neg (fun e=>hp' e.symm),if_neg (fun e=>hq' e.symm),hcm p q (by omega),hcm q p (by omega)]
    exact Nat.le_refl _
 refine ⟨_,e,hRest,fun p q hpq=>Nat.le_trans (p1 p q hpq) (hother p q hpq),?_,?_,?_⟩
 ·obtain ⟨r2,hr2⟩:=hRest.fork.edge
  have q1:=p1 b.toNat a.toNat (by omega)
  have q2:pe (Zjm ⟨s.Drinkers,s.Mail.take i++s.Mail.drop (i+1)⟩ b d1) a.toNat b.toNat=pe (Zjm ⟨s.Drinkers,s.Mail.take i++s.Mail.drop (i+1)⟩ b d1) b.toNat a.toNat:=Zeo hr2 _ _
  have q3:pe (Zjm ⟨s.Drinkers,s.Mail.take i++s.Mail.drop (i+1)⟩ b d1) b.toNat a.toNat≤pe ⟨s.Drinkers.set b.toNat d1,s.Mail.take i++s.Mail.drop (i+1)⟩ b.toNat a.toNat:=q1
  rw [q2,Zeo hr a.toNat]
  omega
 ·have hq:tq (NX.fireDr d1).1=tq db:=p2.trans (by rw [hd1];rfl)
  show (s.Drinkers.set b.toNat (NX.fireDr d1).1).map tq=s.Drinkers.map tq
  refine List.ext_getElem? fun n=>?_
  rw [List.getElem?_map,List.getElem?_map,List.getElem?_set]
  split
  ·rename_i e
   subst e
   rw [hdb];simp [hq]
  ·rfl
 ·have hq:(NX.fireDr d1).1.Need=db.Need:=(Zhm d1).2.trans (by rw [hd1])
  show (s.Drinkers.set b.toNat (NX.fireDr d1).1).map (·.Need)=s.Drinkers.map (·.Need)
  refine List.ext_getElem? fun n=>?_
  rw [List.getElem?_map,List.getElem?_map,List.getElem?_set]
  split
  ·rename_i e
   subst e
   rw [hdb];simp [hq]
  ·rfl
def phiB (g:Graph) (s:Bar):Nat:=(g.Edges.map fun e=>pe s e.A.toNat e.B.toNat).sum
theorem mail_sum {g:Graph} (hg:okG g=true):∀M:List Mail,(∀m∈M,mailR g m)→M.length≤(g.Edges.map fun e=>(ch M e.A e.B).length+(ch M e.B e.A).length).sum
 | [],_=>by simp
 | m::M,h=>by
   have ih:=mail_sum hg M fun x hx=>h x (by simp [hx])
   have hm:=(h m (by simp)).2.2.2
   have cons:∀p q:Int,(ch (m::M) p q).length=(if m.From=p∧m.To=q then 1 else 0)+(ch M p q).length:=fun p q=>by
    unfold ch
    rw [List.filter_cons]
    by_cases hh:m.From=p∧m.To=q
    ·simp [hh.1,hh.2];omega
    ·rw [if_neg hh,if_neg (by simpa using hh)];omega
   rw [List.length_cons]
   refine Nat.le_trans (Nat.succ_le_succ ih) (sum_lt (fun e _=>by rw [cons,cons];omega) ?_)
   rcases (Zu9 hg).1 hm with h1 | h1
   ·exact ⟨_,h1,by rw [cons,cons,if_pos ⟨rfl,rfl⟩];dsimp only;omega⟩
   ·exact ⟨_,h1,by rw [cons m.To m.From,cons m.From m.To,if_pos (⟨rfl,rfl⟩:m.From=m.From∧m.To=m.To)];dsimp only;omega⟩
theorem len_split (c:List Int):c.length=(f12 c).length+(f34 c).length:=by
 unfold f12 f34
 induction c with
 | nil=>rfl
 | cons k c ih=>
   rw [List.filter_cons,List.filter_cons,List.length_cons,ih]
   cases decide (k≤2)<;>simp<;>omega
theorem Zwn.few {x y:Side} {cab cba:List Int} (h:Zwn x y cab cba):cab.length+cba.length≤2:=by
 rcases h with ⟨h1,h2,⟨h3,h4 | h4 | h4⟩ | ⟨h3,h4,h5 | h5⟩⟩ | ⟨h1,h2,⟨h3,h4 | h4 | h4⟩ | ⟨h3,h4,h5 | h5⟩⟩<;>simp_all
theorem Fork.mails {g:Graph} {s:Bar} (hg:okG g=true) (h:Fork g s):s.Mail.length≤4*g.Edges.length:=by
 obtain ⟨r,hr⟩:=h.edge
 refine Nat.le_trans (mail_sum hg s.Mail h.inv.mail) (sum_const fun e he=>?_)
 obtain ⟨e1,e2,e3,e4⟩:=Zdo hg he
 obtain ⟨da,hda⟩:=h.inv.get (a:=e.A) e1 (by omega)
 obtain ⟨db,hdb⟩:=h.inv.get (a:=e.B) (by omega) e3
 obtain ⟨x,hx,_⟩:=h.inv.tab.sided e1 (Zym hda) e4
 obtain ⟨y,hy,_⟩:=h.inv.tab.sided (show 0≤e.B by omega) (Zym hdb) (Z4a hg e4)
 have ea:((e.A.toNat:Nat):Int)=e.A:=Int.toNat_of_nonneg e1
 have eb:((e.B.toNat:Nat):Int)=e.B:=Int.toNat_of_nonneg (by omega)
 have hE:=hr _ _ da db x y hda hdb (by rw [eb];exact hx) (by rw [ea];exact hy)
 rw [ea,eb] at hE
 have h1:=hE.1.few
 have h2:=hE.2.few
 rw [len_split (ch s.Mail e.A e.B),len_split (ch s.Mail e.B e.A)]
 omega
theorem Rest.step {g:Graph} {s:Bar} (hg:okG g=true) (hN:g.N≤60) (h:Rest g s) {m:Mail} (hm:s.Mail[0]?=some m):
  ∃t,Znm s m.From m.To=(t,0)∧Rest g t∧phiB g t+1≤phiB g s∧t.Drinkers.map tq=s.Drinkers.map tq∧t.Drinkers.map (·.Need)=s.Drinkers.map (·.Need):=by
 obtain ⟨r,hr⟩:=h.fork.edge
 have hmm:m∈s.Mail:=List.mem_iff_getElem?.2 ⟨_,hm⟩
 have hnear:=(h.inv.mail m hmm).2.2.2
 obtain ⟨n1,n2,n3,n4,n5⟩:=Zv9 hg hnear
 have hl:=h.inv.tab.len
 have el:(Zxm s).Diners.length=s.Drinkers.length:=by simp [Zxm]
 have ht:Zcm s m.From=true:=Zem.2 ⟨n4,by omega⟩
 have ht':Zcm s m.To=true:=Zem.2 ⟨n1,by omega⟩
 have hi:Zmm s m.From m.To=some 0:=by
  unfold Zmm
  obtain ⟨M,hM⟩:∃M,s.Mail=m::M:=by
   cases hs:s.Mail with
   | nil=>rw [hs] at hm;simp at hm
   | cons y M=>rw [hs] at hm;simp at hm;exact ⟨M,by rw [hm]⟩
  rw [hM,List.findIdx?_cons]
  simp
 obtain ⟨t,e1,e2,e3,e4,e5,e6⟩:=h.deliv hg hN ht ht' hi
 obtain ⟨r2,hr2⟩:=e2.fork.edge
 refine ⟨t,e1,e2,sum_lt (fun e he=>?_) ?_,e5,e6⟩
 ·obtain ⟨k1,k2,k3,_⟩:=Zdo hg he
  exact e3 _ _ (by omega)
 ·rcases (Zu9 hg).1 hnear with h1 | h1
  ·exact ⟨_,h1,e4⟩
  ·exact ⟨_,h1,by rw [Zeo hr2,Zeo hr];exact e4⟩
theorem Rest.lack {g:Graph} {s:Bar} (hg:okG g=true) (h:Rest g s) (hM:s.Mail=[]) {a:Nat} {d:Drinker} (hd:s.Drinkers[a]?=some d) (ht:d.Thirst=1) {x:Side} (hx:x∈d.Diner.Sides) (hn:Zsi d x=true) (hb:x.Bottle=false):
  ∃(b:Nat) (e:Drinker),x.Peer=(b:Int)∧s.Drinkers[b]?=some e∧(a:Int)∈e.Need∧(e.Thirst=2∨e.Thirst=1∧x.Fork=false):=by
 obtain ⟨r,hr⟩:=h.fork.edge
 have hdt:=Zym hd
 have hpw:=h.inv.tab.pw hg hdt
 obtain ⟨_,hsh⟩:=h.inv.tab.shp a _ hdt
 have hnear:x.Peer∈Zq9 g a:=by rw [←hsh];exact List.mem_map_of_mem hx
 obtain ⟨n1,n2,_,_,_⟩:=Zv9 hg hnear
 obtain ⟨e,he⟩:=h.inv.get n1 n2
 obtain ⟨y,hy,ym⟩:=h.inv.tab.sided n1 (Zym he) (Z4a hg hnear)
 have ep:((x.Peer.toNat:Nat):Int)=x.Peer:=Int.toNat_of_nonneg n1
 have hE:=hr a x.Peer.toNat d e x y hd he (by rw [ep];exact Zln hpw hx) hy
 have e0:∀p q:Int,ch s.Mail p q=[]:=fun p q=>by rw [hM];rfl
 rw [e0,e0] at hE
 have hC:=h.calm d (List.mem_iff_getElem?.2 ⟨_,hd⟩)
 have hCe:=h.calm e (List.mem_iff_getElem?.2 ⟨_,he⟩)
 have hak:x.Ask=false:=by
  cases hh:x.Ask with
  | false=>rfl
  | true=>have:=hC.ask x hx ht hn hh;rw [hb] at this;simp at this
 have hyb:y.Bottle=true∧y.Ask=true:=by
  rcases hE.2 with ⟨h1,h2,⟨h3,h4⟩ | ⟨h3,h4,h5 | h5⟩⟩ | ⟨h1,h2,⟨h3,h4 | h4 | h4⟩ | ⟨h3,h4,h5 | h5⟩⟩
  ·rw [hb] at h3;exact absurd h3 (by simp)
  ·exact absurd h5.2 (by simp [f34])
  ·exact absurd h5.2 (by simp [f34])
  ·exact ⟨h3,h4.1⟩
  ·rw [hak] at h4;exact absurd h4.2.1 (by simp)
  ·exact absurd h4.2.2 (by simp [f34])
  ·exact absurd h5.2 (by simp [f34])
  ·exact absurd h5.2 (by simp [f34])
 have hk:=hCe.give y ym hyb.1 hyb.2
 unfold Zti at hk
 rw [Bool.and_eq_true,Bool.or_eq_true,Bool.and_eq_true,decide_eq_true_eq,decide_eq_true_eq] at hk
 refine ⟨x.Peer.toNat,e,ep.symm,he,?_,?_⟩
 ·have h1:=hk.1
  unfold Zsi at h1
  rw [(Zmb hy).2] at h1
  simpa using h1
 ·rcases hk.2 with q | ⟨q1,q2⟩
  ·exact .inl q
  ·refine .inr ⟨q1,?_⟩
   rcases Z9o hE.1 with ⟨w,_⟩ | ⟨w,_⟩
   ·rw [q2] at w;exact absurd w (by simp)
   ·exact w
set_option maxRecDepth 100000
set_option maxHeartbeats 4000000
@[go_sem] def e45:EC:=.seq (.reg [(Qx 2 25 2 0),(Qa 3 (.mv (.c .ff)))]) (.seq (.reg [(Qe 7 2 2),(Qa 8 (.call 26 [(.t 7)])),(Qa 9 (.call 46 [(.t 8)])),(Qm 4 9)]) (.seq (.reg [(Qf 11 0 1),(Ql 12 11),(Qm 13 4),(Qa 14 (.call 47 [(.t 12),(.t 13)])),(Qm 10 14),(Qa 15 (.ext (.t 10) 0)),(Qa 16 (.ext (.t 10) 1)),(Qm 5 15),(Qm 6 16)]) (.seq (.reg [(Qm 17 6),(Qm 18 17),(Qg 19 18 true (.mv (.t 4))),(Qg 20 18 true (.len (.t 19))),(Qh 21 18 true 1 1),(Qn 22 18 true 21),(Qg 23 18 true (.len (.t 22))),(Qg 24 18 true (.bin .eql (.t 20) (.t 23))),(Qp 25 18 24),(Qm 3 25)]) (.ret))))
theorem ok45:FnOK Tryz.prog 45 Tryz.f45 e45 [.t 3] 2 24:=⟨by kernel_rfl,⟨_,rfl,by kernel_rfl⟩,by kernel_rfl,by kernel_rfl⟩
noncomputable def Zho:Bool→Option Bool
| x6=>
 some x6
noncomputable def Zio (x1:Bar) (x2:Graph):Option Bool:=
 (Z5k x1).bind fun x3=>
 (Zhf x3).bind fun x4=>
 (Zvg x2.N x4).bind fun x5=>
 ifb x5.2 (
 Zho (decide ((ln Arc.row x4)=(ln Edge.row x2.Edges)))) (
 Zho false)
theorem Zjo (x1:Bar) (x2:Graph) (r:Bool) (h:Zio x1 x2=some r):Zu2 Tryz.prog 45 [.agg (Bar.row x1),.elt (Graph.row x2) 0] (.bv r):=by
 refine Zy2 ok45 rfl rfl fun w0 H0=>?_
 rw [Zio] at h
 refine Zo2 8 ?_;dsimp only [go_sem];refine An ?_;obtain ⟨x3,ex3,h⟩:=Bs h;refine Z33 trivial (Z6k x1 _ ex3) (h:=?_);obtain ⟨x4,ex4,h⟩:=Bs h;refine Z33 trivial (k_place_Arcs x3 _ ex4) (h:=?_);refine Zo2 7 ?_;dsimp only [go_sem];refine An ?_;obtain ⟨x5,ex5,h⟩:=Bs h;refine Z33 trivial (k_dag_Order x2.N x4 _ ex5) (h:=?_);refine Zo2 10 ?_;dsimp only [go_sem];refine An ?_;refine Zl4 (fun (x6:Bool)=>(⟨(an 3 (.bv x6::an 22 [])),[],[]⟩:St)) Zho r ?_ fun J1=>?_
 ·intro x6 h;rw [Zho] at h;(try dsimp only);exact Zv4 (res:=fun (r:Bool)=>.bv r) ok45 h
 ·refine Zu4 18 h rfl (fun _ h=>?_) fun _ h=>?_
  ·dsimp only [go_sem];refine Zo2 9 ?_;dsimp only [go_sem];refine An ?_;exact Zx4 J1 (s:=decide ((ln Arc.row x4)=(ln Edge.row x2.Edges))) h
  ·dsimp only [go_sem];refine Zo2 9 ?_;dsimp only [go_sem];refine An ?_;exact Zx4 J1 (s:=false) h
set_option maxRecDepth 100000
set_option maxHeartbeats 4000000
@[go_sem] def e10:EC:=.seq (.reg [(Qx 2 53 2 0),(Qa 4 (.mv (.c .ff)))]) (.seq (.seq (.reg [(Qa 7 (.call 11 [])),(Qa 8 (.not (.t 7))),(Qm 9 8),(Qg 10 9 false (.loadA 2 (.t 2))),(Qg 11 9 false (.mv (.t 1))),(Qg 12 9 false (.call 28 [(.t 10),(.t 11)])),(Qg 13 9 false (.not (.t 12))),(Qq 14 9 13)]) (.ite (.t 14) (.seq (.reg [(Qa 15 (.call 11 [])),(Qm 4 15)]) (.ret)) (.skip))) (.seq (.reg [(Qe 17 2 2),(Qm 18 1),(Qa 19 (.mkf 45 [(.t 2)])),(Qa 20 (.call 29 [(.t 17),(.t 18),(.t 19)])),(Qm 16 20),(Qa 21 (.ext (.t 16) 0)),(Qa 22 (.ext (.t 16) 1)),(Qa 5 (.alloc 25 [.nl,.nl])),(Qs 2 5 21),(Qm 6 22)]) (.seq (.reg [(Qm 23 6),(Qm 4 23)]) (.ret))))
theorem ok10:FnOK Tryz.prog 10 Tryz.f10 e10 [.t 4] 2 22:=⟨by kernel_rfl,⟨_,rfl,by kernel_rfl⟩,by kernel_rfl,by kernel_rfl⟩
noncomputable def Zko (x1:Graph) (x2:(List narthexlaw16_Act)):Bool→Option Bool
| x5=>
 ifb x5 (
 (Ztm).bind fun x6=>
 some x6) (
 (Zan x1 x2 ((fun z=>Zio z x1))).bind fun x7=>
 some x7.2)
noncomputable def Zlo (x1:Graph) (x2:(List narthexlaw16_Act)):Option Bool:=
 (Ztm).bind fun x3=>
 ifb (!x3) (
 (Zko x1 x2) true) (
 (Zgn x1 x2).bind fun x4=>
 (Zko x1 x2) (!x4))
theorem k_narthexlaw16_BarRound (x1:Graph) (x2:(List narthexlaw16_Act)) (r:Bool) (h:Zlo x1 x2=some r):Zu2 Tryz.prog 10 [.agg (Graph.row x1),.sl 4 (List.map narthexlaw16_Act.row x2)] (.bv r):=by
 refine Zy2 ok10 rfl rfl fun w0 H0=>?_
 rw [Zlo] at h
 refine Zo2 8 ?_;dsimp only [go_sem];refine An ?_;obtain ⟨x3,ex3,h⟩:=Bs h;refine Z33 trivial (Zum _ ex3) (h:=?_);refine Zo2 2 ?_;dsimp only [go_sem];refine An ?_;refine Zl4 (fun (x5:Bool)=>(⟨(.any :: .sl 4 (List.map narthexlaw16_Act.row x2) :: .ptr 0 0::an 11 (.bv x5::an 9 [])),[some ⟨53,[.iv x1.N,.sl 2 (List.map Edge.row x1.Edges)]⟩],[]⟩:St)) (Zko x1 x2) r ?_ fun J1=>?_
 ·intro x5 h;rw [Zko] at h;(try dsimp only);refine Zn4 h rfl (fun _ h=>?_) fun _ h=>?_
  ·refine Zo2 2 ?_;dsimp only [go_sem];refine An ?_;obtain ⟨x6,ex6,h⟩:=Bs h;refine Z33 trivial (Zum _ ex6) (h:=?_);refine Zo2 2 ?_;dsimp only [go_sem];refine An ?_;exact Zv4 (res:=fun (r:Bool)=>.bv r) ok10 h
  ·refine Zo2 6 ?_;dsimp only [go_sem];refine An ?_;refine V_sealB 0 rfl rfl ?_;dsimp only [go_sem];obtain ⟨x7,ex7,h⟩:=Bs h;refine Z33 trivial (Zbn x1 x2 _ _ ((fun z=>Zio z x1)) ⟨by kernel_rfl,rfl,fun z r hz=>Zjo z x1 r hz⟩ _ ex7) (h:=?_);refine Zo2 12 ?_;dsimp only [go_sem];refine An ?_;exact Zv4 (res:=fun (r:Bool)=>.bv r) ok10 h
 ·refine Zu4 9 h rfl (fun _ h=>?_) fun _ h=>?_
  ·dsimp only [go_sem];refine Zo2 6 ?_;dsimp only [go_sem];refine An ?_;exact Zx4 J1 (s:=true) h
  ·dsimp only [go_sem];refine Zo2 2 ?_;dsimp only [go_sem];refine An ?_;obtain ⟨x4,ex4,h⟩:=Bs h;refine Z33 trivial (Zhn x1 x2 _ ex4) (h:=?_);refine Zo2 3 ?_;dsimp only [go_sem];refine An ?_;exact Zx4 J1 (s:=!x4) h
theorem arcPair_k12 (M:List Mail) (a b:Diner):Zmf M a b=Zmf (M.filter k12) a b:=by
 have key:∀(p q:Diner) (e:Int),decide (Zlf p q e∈M.filter k12)=decide (Zlf p q e∈M):=fun p q e=>by
  rw [decide_eq_decide,List.mem_filter]
  exact ⟨fun h=>h.1,fun h=>⟨h,rfl⟩⟩
 unfold Zmf
 simp only [key]
theorem arcsP_k12 (s:Bar):Zpf (scB s)=Zpf (Zxm s):=by
 have key:∀k,Zof s.Mail (s.Drinkers.map (·.Diner)) k=Zof (s.Mail.filter k12) (s.Drinkers.map (·.Diner)) k:=fun k=>by
  have e:∀a,Zmf s.Mail a=Zmf (s.Mail.filter k12) a:=fun a=>by funext b;exact arcPair_k12 _ _ _
  induction k with
  | zero=>rfl
  | succ k ih=>
    simp only [Zof]
    rw [ih]
    simp only [e]
 exact key _
theorem s_BRound1 {g:Graph} (hg:okG g=true) (s:Bar) (h:Fork g s):Zio s g=some true:=by
 obtain ⟨r,hr⟩:=h.edge
 have he:=hr.tab
 obtain ⟨g1,g2,g3,_⟩:=Zl7 hg
 have hM:=h.mails hg
 have hF:=h.inv.fewL hg
 obtain ⟨O,hO⟩:=s_orderG hg h.inv.tab he
 unfold Zio
 rw [s_Scene s hF (by omega),Option.bind_some,s_Arcs (scB s) (fewL_D hF) (by show s.Mail.length≤5000;omega),Option.bind_some,arcsP_k12,hO,Option.bind_some]
 dsimp only [Zho]
 rw [Z26,Z45,Z45,arcs_len hg h.inv.tab he,decide_eq_true rfl]
theorem p_narthexlaw16_BarRound (g:Graph) (l:List narthexlaw16_Act):Zlo g l=some true:=by
 have yes:Zko g l true=some true:=by
  simp only [Zko,Z26,s_awake16,Option.bind_some]
 simp only [Zlo,s_awake16,Option.bind_some,Bool.not_true,Z36,s_few16]
 cases hf:fewA g l with
 | false=>exact yes
 | true=>
   obtain ⟨hN,hg,hl,hn⟩:=fewA_iff hf
   rw [Bool.not_true]
   simp only [Zko,Z36]
   have:=(s_run16 hg (by omega) (J:=Fork g) (fun _ h=>h.inv) (Fork.first hg) (fun s k a b n h he=>h.actR hg (by omega) k a b n he) l hl (fun a ha=>by have:=hn a ha;omega) (fun z=>Zio z g) (fun s h _=>s_BRound1 hg s h)).1
   rw [this];rfl
end NX
end Go.Proofs.YtacfbmldajmjiaaGreat
