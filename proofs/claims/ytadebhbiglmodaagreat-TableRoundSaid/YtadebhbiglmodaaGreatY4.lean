/-
  Plain laws: all mail comes in the end; who is hungry and goes ahead of all who are hungry eats. No statement of the seat is proved here.
-/
import Derived.KernelRfl
import Derived.Test.YtadebhbiglmodaaGreatY3
import Derived.Test.YtadebhbiglmodaaGreatY2
import Derived.Test.YtadebhbiglmodaaGreatY1
namespace Go.Proofs.YtadebhbiglmodaaGreat
namespace NX
open Go
theorem actS_set {s:Scene} (hs:∀(k:Nat) x,s.Diners[k]?=some x→x.ID=k) {a:Int} (h0:0≤a) (d:Diner):actS s a d=⟨s.Diners.set a.toNat (Zxa d),s.Mail++Zya d⟩:=by
 have:=Zrd hs a.toNat (Zxa d)
 rw [Int.toNat_of_nonneg h0] at this
 unfold actS
 rw [this]
theorem turnS_ok {g:Graph} {s:Scene} (hg:okG g=true) (hN:g.N≤60) (h:Inv g s) {a p:Int} (q:Int) (h0:0≤a) {d:Diner} (hd:s.Diners[a.toNat]?=some d) (hp:d.Phase=p) (h1:0≤q) (h2:q<2):
  (Zic s a fun d=>Zsa d p q)=(⟨s.Diners.set a.toNat (Zxa ⟨d.ID,q,d.Sides⟩),s.Mail++Zya ⟨d.ID,q,d.Sides⟩⟩,0):=by
 have ht:Zhc s a=true:=Ztd.2 ⟨h0,by have:=(List.getElem?_eq_some_iff.1 hd).1;omega⟩
 obtain ⟨d',hd1,hd'⟩:=Zjc ht
 have e:d'=d:=by rw [hd] at hd';simpa using hd'.symm
 subst e
 have hok:=h.okd hg hN (List.mem_iff_getElem?.2 ⟨_,hd⟩)
 have h3:=h.phase hg hd (p:=q) h1 h2
 obtain ⟨k1,_⟩:=Inv.act (s:=s) hg hN h3 (Zsd hd) rfl rfl h.ids
 unfold Zic
 rw [h.ok hg hN,if_pos rfl,ht,if_pos rfl,hd1]
 dsimp only
 unfold Zsa actP
 rw [hok,if_pos rfl,if_pos hp,if_pos rfl,if_pos k1,actS_set h.ids h0]
theorem turnS_eq {g:Graph} {s:Scene} (hg:okG g=true) (hN:g.N≤60) (h:Inv g s) {a p q:Int} (h1:0≤q) (h2:q<2) (he:(Zic s a fun d=>Zsa d p q).2=0):
  ∃d,0≤a∧s.Diners[a.toNat]?=some d∧d.Phase=p∧(Zic s a fun d=>Zsa d p q).1=⟨s.Diners.set a.toNat (Zxa ⟨d.ID,q,d.Sides⟩),s.Mail++Zya ⟨d.ID,q,d.Sides⟩⟩:=by
 cases ht:Zhc s a with
 | false=>
   unfold Zic at he
   rw [h.ok hg hN,if_pos rfl,ht] at he
   exact absurd he (by show ¬(140:Int)=0;omega)
 | true=>
   obtain ⟨h0,_⟩:=Ztd.1 ht
   obtain ⟨d,hd1,hd⟩:=Zjc ht
   have hok:=h.okd hg hN (List.mem_iff_getElem?.2 ⟨_,hd⟩)
   by_cases hp:d.Phase=p
   ·exact ⟨d,h0,hd,hp,by rw [turnS_ok hg hN h q h0 hd hp h1 h2]⟩
   ·unfold Zic at he
    rw [h.ok hg hN,if_pos rfl,ht,if_pos rfl,hd1] at he
    dsimp only at he
    unfold Zsa at he
    rw [hok,if_pos rfl,if_neg hp] at he
    exact absurd he (by show ¬(134:Int)=0;omega)
theorem sideO_none {d:Diner} {a:Int} (h:Zw7 d a=none) (p:Int):Zw7 ⟨d.ID,p,d.Sides⟩ a=none:=h
theorem Fair.turn {g:Graph} {s:Scene} (hg:okG g=true) (h:Fair g s) {a:Nat} {d:Diner} (hd:s.Diners[a]?=some d) (hp:d.Phase≠1) {q:Int} (h1:0≤q) (h2:q<2):Fair g ⟨s.Diners.set a (Zxa ⟨d.ID,q,d.Sides⟩),s.Mail++Zya ⟨d.ID,q,d.Sides⟩⟩:=by
 obtain ⟨r,he⟩:=h.edge
 refine Fair.fire hg h.set (List.getElem?_eq_some_iff.1 hd).1 (h.inv.phase hg hd h1 h2) (r:=r) (he.set (sideO_none (h.inv.self hg hd) q) (fun _ _=>rfl) (fun _ _ _ _=>rfl) fun b db x y hb hdb hx hy=>?_)
 exact (he a b d db x y hd hdb hx hy).phase hp q
def pdD (d:Diner) (q:Int):Nat:=match Zw7 d q with | some x=>if x.Fork&&(x.Dirty&&!decide (d.Phase=2)) then 2 else 0 | none=>0
def pd (s:Scene) (p:Nat) (q:Int):Nat:=match s.Diners[p]? with | some d=>pdD d q | none=>0
def psi (s:Scene) (p q:Nat):Nat:=(ch s.Mail p q).length+(ch s.Mail q p).length+pd s p q+pd s q p
theorem Zxg (s:Scene) (p q:Nat):psi s p q=psi s q p:=by unfold psi;omega
theorem pdD_le (d:Diner) (q:Int):pdD d q≤2:=by
 unfold pdD
 split
 ·split<;>omega
 ·omega
theorem pd_le (s:Scene) (p:Nat) (q:Int):pd s p q≤2:=by
 unfold pd
 split
 ·exact pdD_le _ _
 ·omega
theorem Zyg (d:Diner):(Zxa d).Phase=d.Phase∧(∀y,Z8b d y=Zua d.Phase y)∨d.Phase=1∧(Zxa d).Phase=2:=by
 unfold Zxa Z8b
 cases hq:decide (d.Phase=1)&&(d.Sides.map (Zua d.Phase)).all (·.Fork) with
 | false=>exact .inl ⟨rfl,fun _=>rfl⟩
 | true=>
   rw [Bool.and_eq_true,decide_eq_true_eq] at hq
   exact .inr ⟨hq.1,rfl⟩
theorem deliv_pd {d d1:Diner} {a:Int} {x:Side} {k:Int} (hs:SetD d) (hpw:d1.Sides.Pairwise fun x y=>x.Peer<y.Peer) (hx:Zw7 d a=some x) (hd:x.Dirty=true→x.Fork=true) (hk:k=1∧x.Fork=false∨k=2∧x.Fork=true)
  (hph:d1.Phase=d.Phase) (h1:∀z:Int,Zw7 d1 z=if z=a then some (Zvd x k) else Zw7 d z):∀z:Int,pdD (Zxa d1) z+(ch (Zya d1) d1.ID z).length≤pdD d z:=fun z=>by
 have hc:(ch (Zya d1) d1.ID z).length=match Zw7 d1 z with | some y=>(Zva d1.ID d1.Phase y).length | none=>0:=by
  unfold Zya
  rw [ch_fires d1.ID d1.Phase z d1.Sides hpw]
  unfold Zw7
  cases d1.Sides.find? (fun x=>decide (x.Peer=z))<;>simp
 have hp:pdD (Zxa d1) z=match Zw7 d1 z with | some y=>if (Z8b d1 y).Fork&&((Z8b d1 y).Dirty&&!decide ((Zxa d1).Phase=2)) then 2 else 0 | none=>0:=by
  unfold pdD
  rw [Zbb]
  cases Zw7 d1 z<;>rfl
 rw [hc,hp,h1]
 by_cases hz:z=a
 ·subst hz
  rw [if_pos rfl]
  dsimp only
  unfold pdD
  rw [hx]
  dsimp only
  obtain ⟨p,e,st,f,dd,t,bo,ak⟩:=x
  dsimp only at hd hk ⊢
  rcases Zyg d1 with ⟨q1,q2⟩ | ⟨q1,q2⟩
  ·rw [q1,q2,hph]
   unfold Zvd Zva Zua Zta
   rcases hk with ⟨rfl,hf⟩ | ⟨rfl,hf⟩
   ·subst hf
    cases dd<;>simp_all
   ·subst hf
    by_cases c2:d.Phase=2
    ·rw [c2];cases dd<;>cases t<;>simp
    ·by_cases c1:d.Phase=1
     ·rw [c1];cases dd<;>cases t<;>simp
     ·cases dd<;>cases t<;>simp [c1,c2]
  ·rw [q2,←hph,q1,show decide ((2:Int)=2)=true from rfl,Bool.not_true,Bool.and_false,Bool.and_false,if_neg (by simp),Nat.zero_add]
   unfold Zvd Zva Zta
   rcases hk with ⟨rfl,hf⟩ | ⟨rfl,hf⟩
   ·subst hf
    cases dd<;>simp_all
   ·subst hf
    cases dd<;>cases t<;>simp
 ·rw [if_neg hz]
  cases hy:Zw7 d z with
  | none=>simp
  | some y=>
    dsimp only
    have hset:=(hs.side y (Zcb hy).1).fire d1.ID
    rw [←hph] at hset
    rw [hset.2]
    rcases Zyg d1 with ⟨q1,q2⟩ | ⟨q1,q2⟩
    ·unfold pdD
     rw [q1,q2,hset.1,hy,hph]
     simp
    ·rw [q2]
     simp
def tz (d:Diner):Bool:=decide (d.Phase=0)
theorem map_set_same {α β:Type} {f:α→β} {l:List α} {k:Nat} {x y:α} (hx:l[k]?=some x) (h:f y=f x):(l.set k y).map f=l.map f:=by
 refine List.ext_getElem? fun n=>?_
 rw [List.getElem?_map,List.getElem?_map,List.getElem?_set]
 split
 ·rename_i e
  subst e
  have:=(List.getElem?_eq_some_iff.1 hx).1
  rw [hx,if_pos this];simp [h]
 ·rfl
theorem fireD_tz (d:Diner):tz (Zxa d)=tz d:=by
 unfold tz
 rcases Zyg d with ⟨h,_⟩ | ⟨h1,h2⟩
 ·rw [h]
 ·rw [h1,h2];rfl
theorem Fair.deliv {g:Graph} {s:Scene} (hg:okG g=true) (hN:g.N≤60) (h:Fair g s) {a b:Int} (ht:Zhc s a=true) (ht':Zhc s b=true) {i:Nat} (hf:Zkc s a b=some i):
  ∃t,Zlc s a b=(t,0)∧Fair g t∧(∀p q:Nat,p≠q→psi t p q≤psi s p q)∧psi t a.toNat b.toNat+1≤psi s a.toNat b.toNat∧t.Diners.map tz=s.Diners.map tz:=by
 obtain ⟨a0,a1⟩:=Ztd.1 ht
 obtain ⟨b0,b1⟩:=Ztd.1 ht'
 obtain ⟨da,_,hda⟩:=Zjc ht
 obtain ⟨m,db,x,d1,hm,m1,m2,hdb,hx,hk,i1,i2,i3,hI,heq,_⟩:=delivS_eq hg hN h.inv ht ht' hf
 have hids:∀(k:Nat) x,s.Diners[k]?=some x→x.ID=k:=h.inv.ids
 rw [actS_set (s:=⟨s.Diners,s.Mail.take i++s.Mail.drop (i+1)⟩) hids b0] at heq
 dsimp only at heq
 obtain ⟨r,he⟩:=h.edge
 unfold Zkc at hf
 obtain ⟨c1,c2⟩:=ch_take hf hm
 have hmm:m∈s.Mail:=List.mem_iff_getElem?.2 ⟨_,hm⟩
 have hnear:=(h.inv.mail m hmm).2.2.2
 rw [m1,m2] at hnear
 have nab:=Zz9 hg hnear
 have hne:a≠b:=fun e=>(Zs9 hg hnear).2.2.1 e.symm
 obtain ⟨y,hy,_⟩:=h.inv.sided a0 hda hnear
 have ea:((a.toNat:Nat):Int)=a:=Int.toNat_of_nonneg a0
 have eb:((b.toNat:Nat):Int)=b:=Int.toNat_of_nonneg b0
 have hE:=he b.toNat a.toNat db da x y hdb hda (by rw [ea];exact hx) (by rw [eb];exact hy)
 rw [ea,eb,c1] at hE
 have hxd:=((h.inv.loc db (List.mem_iff_getElem?.2 ⟨_,hdb⟩)).side x (Zcb hx).1).2.2
 have hget:Zqe (Zvd x m.Msg.Kind) y db.Phase da.Phase (ch s.Mail b a) (ch (s.Mail.take i++s.Mail.drop (i+1)) a b) (r b.toNat) (r a.toNat)∧(m.Msg.Kind=1∧x.Fork=false∨m.Msg.Kind=2∧x.Fork=true):=by
  rcases hk with h1 | h1
  ·rw [h1] at hE ⊢
   obtain ⟨k1,k2,k3⟩:=hE.getF hxd
   exact ⟨k1,.inl ⟨rfl,k2⟩⟩
  ·rw [h1] at hE ⊢
   obtain ⟨k1,k2⟩:=hE.getT
   exact ⟨k1,.inr ⟨rfl,k2⟩⟩
 have hself:Zw7 d1 b.toNat=none:=by
  rw [i3,if_neg (by rw [eb];exact fun e=>hne e.symm)];exact h.inv.self hg hdb
 have hcm:∀p q:Int,¬(p=a∧q=b)→ch (s.Mail.take i++s.Mail.drop (i+1)) p q=ch s.Mail p q:=c2
 have he1:Zte r ⟨s.Diners.set b.toNat d1,s.Mail.take i++s.Mail.drop (i+1)⟩:=by
  refine he.set hself (fun _ _=>rfl) (fun p q hp hq=>hcm p q (by omega)) fun c dc x' y' hc hdc hx' hy'=>?_
  rw [i3] at hx'
  rw [eb,hcm b c (by omega)]
  by_cases hca:(c:Int)=a
  ·rw [if_pos hca] at hx'
   have hca':c=a.toNat:=by omega
   subst hca'
   have e1:dc=da:=by rw [hda] at hdc;simpa using hdc.symm
   subst e1
   rw [eb,hy] at hy'
   simp only [Option.some.injEq] at hx' hy'
   subst hx';subst hy'
   rw [ea,i2]
   exact hget.1
  ·rw [if_neg hca] at hx'
   rw [hcm c b (by omega),i2]
   have:=he b.toNat c db dc x' y' hdb hdc hx' hy'
   rwa [eb] at this
 have hlt:b.toNat<s.Diners.length:=by omega
 have hF:=Fair.fire hg h.set hlt hI he1
 have hd1:(s.Diners.set b.toNat d1)[b.toNat]?=some d1:=Zsd hdb
 have hpw:=hI.pw hg hd1
 have hid1:d1.ID=b:=by rw [i1,hids _ _ hdb,eb]
 have hpd:=deliv_pd (h.set db (List.mem_iff_getElem?.2 ⟨_,hdb⟩)) hpw hx hxd hget.2 i2 i3
 rw [hid1] at hpd
 refine ⟨_,heq,hF,?_,?_,?_⟩
 ·have hB:∀q:Nat,q≠b.toNat→psi ⟨s.Diners.set b.toNat (Zxa d1),s.Mail.take i++s.Mail.drop (i+1)++Zya d1⟩ b.toNat q≤psi s b.toNat q:=fun q hq=>by
   have p1:=hpd q
   unfold psi pd
   dsimp only
   rw [Zsd hdb,List.getElem?_set,if_neg (fun e=>hq e.symm),hdb]
   dsimp only
   rw [eb,Zre _ (Zya d1),Zre _ (Zya d1),hcm b q (by omega),Zse (p:=q) (by rw [hid1];omega),List.append_nil,List.length_append]
   by_cases hqa:(q:Int)=a
   ·rw [hqa] at p1 ⊢
    rw [c1,List.length_cons]
    omega
   ·rw [hcm q b (by omega)]
    omega
  intro p q hpq
  by_cases hp:p=b.toNat
  ·subst hp
   exact hB q fun e=>hpq e.symm
  ·by_cases hq:q=b.toNat
   ·subst hq
    rw [Zxg _ p,Zxg s p]
    exact hB p hp
   ·unfold psi pd
    dsimp only
    rw [List.getElem?_set,List.getElem?_set,if_neg (fun e=>hp e.symm),if_neg (fun e=>hq e.symm),Zre _ (Zya d1),Zre _ (Zya d1),hcm p q (by omega),hcm q p (by omega),Zse (p:=p) (by rw [hid1];omega),Zse (p:=q) (by rw [hid1];omega),List.append_nil,List.append_nil]
    exact Nat.le_refl _
 ·have p1:=hpd a
  rw [Zxg _ a.toNat,Zxg s a.toNat]
  unfold psi pd
  dsimp only
  rw [Zsd hdb,List.getElem?_set,if_neg (by omega),hdb]
  dsimp only
  rw [ea,eb,Zre _ (Zya d1),Zre _ (Zya d1),hcm b a (by omega),Zse (p:=a) (by rw [hid1];exact hne),List.append_nil,List.length_append,c1,List.length_cons]
  omega
 ·dsimp only
  exact map_set_same hdb (by rw [fireD_tz];unfold tz;rw [i2])
theorem Fair.act {g:Graph} {s:Scene} (hg:okG g=true) (hN:g.N≤60) (h:Fair g s) (k a b:Int) (he:(Zmc s k a b).2=0):Fair g (Zmc s k a b).1:=by
 unfold Zmc at he ⊢
 split at he
 ·rename_i h1
  rw [if_pos h1]
  obtain ⟨d,d0,d1,d2,d3⟩:=turnS_eq hg hN h.inv (by omega) (by omega) he
  rw [d3]
  exact h.turn hg d1 (by omega) (by omega) (by omega)
 ·rename_i h1
  rw [if_neg h1]
  split at he
  ·rename_i h2
   rw [if_pos h2]
   obtain ⟨d,d0,d1,d2,d3⟩:=turnS_eq hg hN h.inv (by omega) (by omega) he
   rw [d3]
   exact h.turn hg d1 (by omega) (by omega) (by omega)
  ·rename_i h2
   rw [if_neg h2]
   cases ht:Zhc s a with
   | false=>
     unfold Zlc at he
     rw [h.inv.ok hg hN,if_pos rfl,ht] at he
     exact absurd he (by show ¬(140:Int)=0;omega)
   | true=>
     cases ht':Zhc s b with
     | false=>
       unfold Zlc at he
       rw [h.inv.ok hg hN,if_pos rfl,ht,ht'] at he
       exact absurd he (by show ¬(140:Int)=0;omega)
     | true=>
       cases hf:Zkc s a b with
       | none=>
         unfold Zlc at he
         rw [h.inv.ok hg hN,if_pos rfl,ht,ht',Bool.true_and,if_pos rfl,hf] at he
         exact absurd he (by show ¬(141:Int)=0;omega)
       | some i=>
         obtain ⟨t,e,k,_⟩:=h.deliv hg hN ht ht' hf
         rw [e]
         exact k
theorem sum_le {α:Type} {f g:α→Nat}:∀ {l:List α},(∀x∈l,f x≤g x)→(l.map f).sum≤(l.map g).sum
 | [],_=>Nat.le_refl _
 | x::l,h=>by
   have h1:=h x (by simp)
   have h2:=sum_le (l:=l) fun y hy=>h y (by simp [hy])
   simp only [List.map_cons,List.sum_cons];omega
theorem sum_lt {α:Type} {f g:α→Nat}:∀ {l:List α},(∀x∈l,f x≤g x)→(∃x∈l,f x+1≤g x)→(l.map f).sum+1≤(l.map g).sum
 | [],_,h=>by obtain ⟨x,hx,_⟩:=h;simp at hx
 | x::l,h,h'=>by
   have h1:=h x (by simp)
   have h3:∀y∈l,f y≤g y:=fun y hy=>h y (by simp [hy])
   simp only [List.map_cons,List.sum_cons]
   obtain ⟨y,hy,hlt⟩:=h'
   rcases List.mem_cons.1 hy with rfl | hy
   ·have:=sum_le h3;omega
   ·have:=sum_lt h3 ⟨y,hy,hlt⟩;omega
theorem sum_const {α:Type} {f:α→Nat} {c:Nat}:∀ {l:List α},(∀x∈l,f x≤c)→(l.map f).sum≤c*l.length
 | [],_=>Nat.zero_le _
 | x::l,h=>by
   have h1:=h x (by simp)
   have h2:=sum_const (l:=l) fun y hy=>h y (by simp [hy])
   simp only [List.map_cons,List.sum_cons,List.length_cons,Nat.mul_add];omega
def phi (g:Graph) (s:Scene):Nat:=(g.Edges.map fun e=>psi s e.A.toNat e.B.toNat).sum
theorem Fair.psi6 {g:Graph} {s:Scene} (h:Fair g s) {a b:Nat} (ha:(a:Int)<g.N) (hb:(b:Int)<g.N) (hab:(b:Int)∈Zo9 g a) (hg:okG g=true):psi s a b≤6:=by
 obtain ⟨r,he⟩:=h.edge
 obtain ⟨da,hda⟩:=h.inv.get (a:=(a:Int)) (by omega) ha
 obtain ⟨db,hdb⟩:=h.inv.get (a:=(b:Int)) (by omega) hb
 obtain ⟨x,hx,_⟩:=h.inv.sided (by omega) hda hab
 obtain ⟨y,hy,_⟩:=h.inv.sided (by omega) hdb (Zz9 hg hab)
 have:=(he a b da db x y (by simpa using hda) (by simpa using hdb) hx hy).few
 have h1:=pd_le s a b
 have h2:=pd_le s b a
 unfold psi
 omega
theorem Zzg {g:Graph} (hg:okG g=true) {e:Edge} (he:e∈g.Edges):0≤e.A∧e.A<e.B∧e.B<g.N∧e.B∈Zo9 g e.A:=by
 obtain ⟨g1,g2,g3,g4,g5⟩:=Zd7 hg
 obtain ⟨e1,e2,e3⟩:=g4 e he
 exact ⟨e1,e2,e3,(Zr9 hg).2 (.inl he)⟩
theorem Fair.phi6 {g:Graph} {s:Scene} (hg:okG g=true) (h:Fair g s):phi g s≤6*g.Edges.length:=by
 refine sum_const fun e he=>?_
 obtain ⟨e1,e2,e3,e4⟩:=Zzg hg he
 refine h.psi6 (by omega) (by omega) ?_ hg
 rw [Int.toNat_of_nonneg e1,Int.toNat_of_nonneg (by omega)];exact e4
theorem mail_phi {g:Graph} (hg:okG g=true):∀M:List Mail,(∀m∈M,mailG g m)→M.length≤(g.Edges.map fun e=>(ch M e.A e.B).length+(ch M e.B e.A).length).sum
 | [],_=>by simp
 | m::M,h=>by
   have ih:=mail_phi hg M fun x hx=>h x (by simp [hx])
   have hm:=(h m (by simp)).2.2.2
   have cons:∀p q:Int,(ch (m::M) p q).length=(if m.From=p∧m.To=q then 1 else 0)+(ch M p q).length:=fun p q=>by
    unfold ch
    rw [List.filter_cons]
    by_cases hh:m.From=p∧m.To=q
    ·simp [hh.1,hh.2];omega
    ·rw [if_neg hh,if_neg (by simpa using hh)];omega
   rw [List.length_cons]
   refine Nat.le_trans (Nat.succ_le_succ ih) (sum_lt (fun e _=>by rw [cons,cons];omega) ?_)
   rcases (Zr9 hg).1 hm with h1 | h1
   ·exact ⟨_,h1,by rw [cons,cons,if_pos ⟨rfl,rfl⟩];dsimp only;omega⟩
   ·exact ⟨_,h1,by rw [cons m.To m.From,cons m.From m.To,if_pos (⟨rfl,rfl⟩:m.From=m.From∧m.To=m.To)];dsimp only;omega⟩
theorem Fair.mails {g:Graph} {s:Scene} (hg:okG g=true) (h:Fair g s):s.Mail.length≤phi g s:=by
 refine Nat.le_trans (mail_phi hg s.Mail h.inv.mail) (sum_le fun e he=>?_)
 obtain ⟨e1,e2,e3,_⟩:=Zzg hg he
 unfold psi
 rw [Int.toNat_of_nonneg e1,Int.toNat_of_nonneg (show 0≤e.B by omega)]
 omega
theorem Fair.step {g:Graph} {s:Scene} (hg:okG g=true) (hN:g.N≤60) (h:Fair g s) {m:Mail} (hm:s.Mail[0]?=some m):
  ∃t,Zlc s m.From m.To=(t,0)∧Fair g t∧phi g t+1≤phi g s∧t.Diners.map tz=s.Diners.map tz:=by
 have hmm:m∈s.Mail:=List.mem_iff_getElem?.2 ⟨_,hm⟩
 have hnear:=(h.inv.mail m hmm).2.2.2
 obtain ⟨n1,n2,n3,n4,n5⟩:=Zs9 hg hnear
 have hl:=h.inv.len
 have ht:Zhc s m.From=true:=Ztd.2 ⟨n4,by omega⟩
 have ht':Zhc s m.To=true:=Ztd.2 ⟨n1,by omega⟩
 have hi:Zkc s m.From m.To=some 0:=by
  unfold Zkc
  obtain ⟨M,hM⟩:∃M,s.Mail=m::M:=by
   cases hs:s.Mail with
   | nil=>rw [hs] at hm;simp at hm
   | cons y M=>rw [hs] at hm;simp at hm;exact ⟨M,by rw [hm]⟩
  rw [hM,List.findIdx?_cons]
  simp
 obtain ⟨t,e1,e2,e3,e4,e5⟩:=h.deliv hg hN ht ht' hi
 refine ⟨t,e1,e2,sum_lt (fun e he=>?_) ?_,e5⟩
 ·obtain ⟨k1,k2,k3,_⟩:=Zzg hg he
  exact e3 _ _ (by omega)
 ·rcases (Zr9 hg).1 hnear with h1 | h1
  ·exact ⟨_,h1,e4⟩
  ·exact ⟨_,h1,by rw [Zxg t,Zxg s];exact e4⟩
set_option maxRecDepth 100000
set_option maxHeartbeats 4000000
@[go_sem] def e97:EC:=.seq (.reg [(Qx 3 70 3 0),(Qa 6 (.alloc 70 [.iv 0,.iv 0,.nl])),(Qi 7 0)]) (.seq (.reg [(Qe 9 3 3),(Qa 10 (.call 43 [(.t 9)])),(Qm 8 10)]) (.seq (.seq (.reg [(Qm 11 8),(Qa 12 (.bin .eql (.t 11) (.c (.iv 0)))),(Qm 13 12),(Qh 14 13 true 1 3),(Qn 15 13 true 14),(Qg 16 13 true (.mv (.t 1))),(Qg 17 13 true (.bin .neq (.t 15) (.t 16))),(Qp 18 13 17)]) (.ite (.t 18) (.reg [(Qi 8 134)]) (.skip))) (.seq (.seq (.reg [(Qm 19 8),(Qa 20 (.bin .neq (.t 19) (.c (.iv 0))))]) (.ite (.t 20) (.seq (.reg [(Qa 21 (.build [.iv 0,.iv 0,.nl] [])),(Qm 22 8),(Qs 3 6 21),(Qm 7 22)]) (.ret)) (.skip))) (.seq (.drw [(Qf 23 0 3),(Ql 24 23),(Qm 25 2),(Qf 26 2 3),(Ql 27 26),(Qa 28 (.call 100 [(.t 27)])),(Qa 29 (.build [.iv 0,.iv 0,.nl] [(0,1,(.t 24)),(1,1,(.t 25)),(2,1,(.t 28))])),(Qs 3 6 29),(Qi 7 0)] [[],[0],[],[],[3],[4],[1,2,5],[6,5,0,1,2,3,4,5,6],[7,0,1,2,3,4,5,6,7]] [[1],[0,6],[6],[4],[3,5],[4,6],[1,2,5,7],[6],[]]) (.ret)))))
theorem ok97:FnOK Tryz.prog 97 Tryz.f97 e97 [.c 6 (some 3),.t 7] 3 27:=⟨by kernel_rfl,⟨_,rfl,by kernel_rfl⟩,by kernel_rfl,by kernel_rfl⟩
noncomputable def Z0h (x1:Diner) (x3:Int):Int→Option (Diner×Int)
| x6=>
 ifb (!decide (x6=0)) (
 some ((Diner.mk 0 0 (([]:(List Side)))),x6)) (
 (Zfa x1.Sides).bind fun x7=>
 some ((Diner.mk x1.ID x3 x7),0))
noncomputable def Z1h (x1:Diner) (x3:Int) (x4:Int):Bool→Option (Diner×Int)
| x5=>
 ifb x5 (
 (Z0h x1 x3) 134) (
 (Z0h x1 x3) x4)
noncomputable def Z2h (x1:Diner) (x2:Int) (x3:Int):Option (Diner×Int):=
 (Zba x1).bind fun x4=>
 ifb (decide (x4=0)) (
 (Z1h x1 x3 x4) (!decide (x1.Phase=x2))) (
 (Z1h x1 x3 x4) false)
theorem Z3h (x1:Diner) (x2:Int) (x3:Int) (r:(Diner×Int)) (h:Z2h x1 x2 x3=some r):Zu2 Tryz.prog 97 [.agg (Diner.row x1),.iv x2,.iv x3] (.tup [.agg (Diner.row r.1),.iv r.2]):=by
 refine Zy2 ok97 rfl rfl fun w0 H0=>?_
 rw [Z2h] at h
 refine Zo2 9 ?_;dsimp only [go_sem];refine An ?_;obtain ⟨x4,ex4,h⟩:=Bs h;refine Z33 trivial (Zca x1 _ ex4) (h:=?_);refine Zo2 8 ?_;dsimp only [go_sem];refine An ?_;refine Zh4 (fun (x5:Bool)=>(⟨(.any :: .any :: .iv x3 :: .ptr 0 0 :: .any :: .any :: .ptr 1 0 :: .any :: .iv x4::an 9 (.bv x5::an 11 [])),[some ⟨70,[.iv x1.ID,.iv x1.Phase,.sl 8 (List.map Side.row x1.Sides)]⟩,some ⟨70,[.iv 0,.iv 0,.nl]⟩],[]⟩:St)) (Z1h x1 x3 x4) r ?_ fun J1=>?_
 ·intro x5 h;rw [Z1h] at h;(try dsimp only);refine Zh4 (fun (x6:Int)=>(⟨(.any :: .any :: .iv x3 :: .ptr 0 0 :: .any :: .any :: .ptr 1 0 :: .any :: .iv x6::an 21 []),[some ⟨70,[.iv x1.ID,.iv x1.Phase,.sl 8 (List.map Side.row x1.Sides)]⟩,some ⟨70,[.iv 0,.iv 0,.nl]⟩],[]⟩:St)) (Z0h x1 x3) r ?_ fun J2=>?_
  ·intro x6 h;rw [Z0h] at h;(try dsimp only);refine Zo2 6 ?_;dsimp only [go_sem];refine An ?_;refine Zj4 h rfl (fun _ h=>?_) fun _ h=>?_
   ·refine Zo2 7 ?_;dsimp only [go_sem];refine An ?_;exact Zr4 (res:=fun (r:(Diner×Int))=>.tup [.agg (Diner.row r.1),.iv r.2]) ok97 h
   ·refine Zo2 2 ?_;dsimp only [go_sem];refine An ?_;refine Zj3 (by kernel_rfl) fun all hall hs hnap haf=>?_;dsimp only [go_sem];refine Z75 hall hs haf hnap 5 4 ?_;dsimp only [go_sem];refine An ?_;refine Zu3 5 rfl ?_;obtain ⟨x7,ex7,h⟩:=Bs h;refine GO_callO hall rfl trivial (Zga x1.Sides _ ex7) (h:=?_);dsimp only [go_sem];refine Z75 hall hs haf hnap 1 2 ?_;dsimp only [go_sem];refine An ?_;refine Zu3 7 rfl ?_;refine Zz3 hall rfl trivial ?_;dsimp only [go_sem];refine Z75 hall hs haf hnap 1 0 ?_;dsimp only [go_sem];refine An ?_
    refine Zt3 rfl ?_ _;refine Zb3 0 rfl ?_;dsimp only [go_sem];exact Zr4 (res:=fun (r:(Diner×Int))=>.tup [.agg (Diner.row r.1),.iv r.2]) ok97 h
  ·refine Zj4 h rfl (fun _ h=>?_) fun _ h=>?_
   ·refine Zo2 3 ?_;dsimp only [go_sem];refine An ?_;exact Zt4 J2 (s:=134) h
   ·refine Zo2 1 ?_;dsimp only [go_sem];refine An ?_;exact Zt4 J2 (s:=x4) h
 ·refine Zq4 13 h rfl (fun _ h=>?_) fun _ h=>?_
  ·dsimp only [go_sem];refine Zo2 6 ?_;dsimp only [go_sem];refine An ?_;exact Zt4 J1 (s:=!decide (x1.Phase=x2)) h
  ·dsimp only [go_sem];refine Zo2 6 ?_;dsimp only [go_sem];refine An ?_;exact Zt4 J1 (s:=false) h
set_option maxRecDepth 100000
set_option maxHeartbeats 4000000
@[go_sem] def e67:EC:=.seq (.reg [(Qx 1 70 3 0),(Qa 2 (.alloc 70 [.iv 0,.iv 0,.nl])),(Qi 3 0)]) (.seq (.reg [(Qe 4 3 1),(Qa 5 (.call 97 [(.t 4),(.c (.iv 0)),(.c (.iv 1))])),(Qa 6 (.ext (.t 5) 0)),(Qa 7 (.ext (.t 5) 1)),(Qs 3 2 6),(Qm 3 7)]) (.ret))
theorem ok67:FnOK Tryz.prog 67 Tryz.f67 e67 [.c 2 (some 3),.t 3] 1 7:=⟨by kernel_rfl,⟨_,rfl,by kernel_rfl⟩,by kernel_rfl,by kernel_rfl⟩
noncomputable def Z4h (x1:Diner):Option (Diner×Int):=
 (Z2h x1 0 1).bind fun x2=>
 some (x2.1,x2.2)
theorem k_dine_Start (x1:Diner) (r:(Diner×Int)) (h:Z4h x1=some r):Zu2 Tryz.prog 67 [.agg (Diner.row x1)] (.tup [.agg (Diner.row r.1),.iv r.2]):=by
 refine Zy2 ok67 rfl rfl fun w0 H0=>?_
 rw [Z4h] at h
 refine Zo2 9 ?_;dsimp only [go_sem];refine An ?_;obtain ⟨x2,ex2,h⟩:=Bs h;refine Z33 trivial (Z3h x1 0 1 _ ex2) (h:=?_);refine Zo2 5 ?_;dsimp only [go_sem];refine An ?_;exact Zr4 (res:=fun (r:(Diner×Int))=>.tup [.agg (Diner.row r.1),.iv r.2]) ok67 h
set_option maxRecDepth 100000
set_option maxHeartbeats 4000000
@[go_sem] def e74:EC:=.seq (.reg [(Qx 1 70 3 0),(Qa 2 (.alloc 70 [.iv 0,.iv 0,.nl])),(Qi 3 0)]) (.seq (.reg [(Qe 4 3 1),(Qa 5 (.call 97 [(.t 4),(.c (.iv 2)),(.c (.iv 0))])),(Qa 6 (.ext (.t 5) 0)),(Qa 7 (.ext (.t 5) 1)),(Qs 3 2 6),(Qm 3 7)]) (.ret))
theorem ok74:FnOK Tryz.prog 74 Tryz.f74 e74 [.c 2 (some 3),.t 3] 1 7:=⟨by kernel_rfl,⟨_,rfl,by kernel_rfl⟩,by kernel_rfl,by kernel_rfl⟩
noncomputable def Z5h (x1:Diner):Option (Diner×Int):=
 (Z2h x1 2 0).bind fun x2=>
 some (x2.1,x2.2)
theorem k_dine_Stop (x1:Diner) (r:(Diner×Int)) (h:Z5h x1=some r):Zu2 Tryz.prog 74 [.agg (Diner.row x1)] (.tup [.agg (Diner.row r.1),.iv r.2]):=by
 refine Zy2 ok74 rfl rfl fun w0 H0=>?_
 rw [Z5h] at h
 refine Zo2 9 ?_;dsimp only [go_sem];refine An ?_;obtain ⟨x2,ex2,h⟩:=Bs h;refine Z33 trivial (Z3h x1 2 0 _ ex2) (h:=?_);refine Zo2 5 ?_;dsimp only [go_sem];refine An ?_;exact Zr4 (res:=fun (r:(Diner×Int))=>.tup [.agg (Diner.row r.1),.iv r.2]) ok74 h
theorem s_turned (d:Diner) (a b:Int):Z2h d a b=some (Zsa d a b):=by
 simp only [Z2h,Zoa,Option.bind_some,Z1h,Zsa]
 cases h:okD d with
 | false=>simp [Z0h,Zra]
 | true=>
   have:=Zqa h
   by_cases hp:d.Phase=a
   ·simp [hp,Z0h,Zpa d.Sides (by omega)]
   ·simp [hp,Z0h,Zra]
theorem s_dStart (d:Diner):Z4h d=some (Zsa d 0 1):=by simp [Z4h,s_turned]
theorem s_dStop (d:Diner):Z5h d=some (Zsa d 2 0):=by simp [Z5h,s_turned]
set_option maxRecDepth 100000
set_option maxHeartbeats 4000000
@[go_sem] def e121:EC:=.drw [(Ql 5 1),(Qf 6 0 2),(Ql 7 6),(Ql 8 3),(Qa 9 (.nilchk (.t 8))),(Qf 10 0 9),(Ql 11 10),(Qm 12 0),(Ql 13 3),(Qa 14 (.nilchk (.t 13))),(Qf 15 1 14),(Ql 16 15),(Qa 17 (.build [.iv 0,.iv 0,.iv 0] [(0,1,(.t 12)),(1,1,(.t 16))])),(Qa 18 (.build [.iv 0,.iv 0,.iv 0,.iv 0,.iv 0] [(0,1,(.t 7)),(1,1,(.t 11)),(2,3,(.t 17))])),(Qa 19 (.bsl 78 5 1 [.iv 0,.iv 0,.iv 0,.iv 0,.iv 0] [(0,(.t 18))])),(Qa 20 (.app 78 5 40 (.t 5) (.t 19))),(Qs 1 1 20)] [[],[],[1],[],[3],[4],[5],[],[],[8],[9],[10],[7,11],[2,6,12],[13],[0,14],[15,15,0,1,2,3,4,5,6,7,8,9,10,11,12,13,14,15]] [[15],[2],[1,13],[4],[3,5],[4,6],[5,13],[12],[9],[8,10],[9,11],[10,12],[7,11,13],[2,6,12,14],[13,15],[0,14,16],[15]]
theorem Z6h:FnOK Tryz.prog 121 Tryz.f121 e121 [] 4 17:=⟨by kernel_rfl,⟨_,rfl,by kernel_rfl⟩,by kernel_rfl,by kernel_rfl⟩
set_option maxRecDepth 100000
set_option maxHeartbeats 4000000
@[go_sem] def e99_L1:EC:=.seq (.reg [(Qa 102 (.bin .lss (.t 101) (.t 100)))]) (.seq (.ite (.t 102) (.skip) (.exit 2)) (.seq (.blk 3 (.seq (.reg [(Qm 103 101),(Qm 11 103)]) (.reg [(Qf 104 2 1),(Ql 105 104),(Qm 106 11),(Qk 107 8 105 106),(Qf 108 4 107),(Qb (.store 1 (.t 108) (.c .tt)))]))) (.reg [(Qv 109 101 1),(Qm 101 109)])))
@[go_sem] def e99_L0:EC:=.seq (.reg [(Qa 26 (.bin .lss (.t 25) (.t 24)))]) (.seq (.ite (.t 26) (.skip) (.exit 0)) (.seq (.blk 1 (.seq (.reg [(Qm 27 25),(Qm 8 27)]) (.seq (.reg [(Qf 28 2 1),(Ql 29 28),(Qm 30 8),(Qk 31 8 29 30),(Qa 9 (.alloc 141 [.nlp])),(Qs 1 9 31)]) (.seq (.reg [(Qa 32 (.mkf 121 [(.t 6),(.t 1),(.t 9)])),(Qm 10 32)]) (.seq (.seq (.reg [(Ql 33 9),(Qa 34 (.nilchk (.t 33))),(Qf 35 3 34),(Ql 36 35),(Qm 37 36),(Qn 38 37 true 9),(Qg 39 37 true (.nilchk (.t 38))),(Qh 40 37 true 4 39),(Qn 41 37 true 40),(Qp 42 37 41),(Qm 43 42),(Qn 44 43 true 9),(Qg 45 43 true (.nilchk (.t 44))),(Qh 46 43 true 5 45),(Qn 47 43 true 46),(Qp 48 43 47),(Qm 49 48),(Qh 50 49 true 1 1),(Qn 51 49 true 50),(Qg 52 49 true (.bin .neq (.t 51) (.c (.iv 2)))),(Qp 53 49 52)]) (.ite (.t 53) (.seq (.drw [(Ql 54 9),(Ql 55 9),(Qa 56 (.nilchk (.t 54))),(Qf 57 3 56),(Qb (.store 1 (.t 57) (.c .ff))),(Qa 58 (.nilchk (.t 55))),(Qf 59 4 58),(Qb (.store 1 (.t 59) (.c .ff)))] [[],[],[0,0],[2,0],[3,0],[1,0,1,2,3,4],[5,0,1,2,3,4],[6,4,0,1,2,3,4]] [[2],[5],[0,3],[2,4],[3],[1,6],[5,7],[6]]) (.reg [(Qm 60 10),(Qa 61 (.callv (.t 60) [(.c (.iv 1))]))])) (.skip))) (.seq (.seq (.reg [(Qf 62 1 1),(Ql 63 62),(Qa 64 (.bin .eql (.t 63) (.c (.iv 1)))),(Qm 65 64),(Qn 66 65 true 9),(Qg 67 65 true (.nilchk (.t 66))),(Qh 68 65 true 5 67),(Qn 69 65 true 68),(Qp 70 65 69),(Qm 71 70),(Qn 72 71 true 9),(Qg 73 71 true (.nilchk (.t 72))),(Qh 74 71 true 3 73),(Qn 75 71 true 74),(Qg 76 71 true (.not (.t 75))),(Qp 77 71 76)]) (.ite (.t 77) (.seq (.reg [(Ql 78 9),(Qa 79 (.nilchk (.t 78))),(Qf 80 5 79),(Qb (.store 1 (.t 80) (.c .ff)))]) (.reg [(Qm 81 10),(Qa 82 (.callv (.t 81) [(.c (.iv 2))]))])) (.skip))) (.reg [(Qm 83 7),(Qm 84 83),(Qn 85 84 true 9),(Qg 86 84 true (.nilchk (.t 85))),(Qh 87 84 true 3 86),(Qn 88 84 true 87),(Qp 89 84 88),(Qm 7 89)]))))))) (.reg [(Qv 90 25 1),(Qm 25 90)])))
@[go_sem] def e99:EC:=.seq (.reg [(Qx 1 70 3 0),(Qa 2 (.alloc 70 [.iv 0,.iv 0,.nl])),(Qa 3 (.mv (.c .nl))),(Qi 4 0)]) (.seq (.seq (.reg [(Qe 12 3 1),(Qa 13 (.call 43 [(.t 12)])),(Qm 5 13)]) (.seq (.reg [(Qm 14 5),(Qa 15 (.bin .neq (.t 14) (.c (.iv 0))))]) (.ite (.t 15) (.seq (.reg [(Qa 16 (.build [.iv 0,.iv 0,.nl] [])),(Qm 17 5),(Qs 3 2 16),(Qa 3 (.mv (.c .nl))),(Qm 4 17)]) (.ret)) (.skip)))) (.seq (.reg [(Qf 18 2 1),(Ql 19 18),(Qa 20 (.call 100 [(.t 19)])),(Qf 21 2 1),(Qs 1 21 20)]) (.seq (.reg [(Qa 6 (.alloc 23 [.nl]))]) (.seq (.reg [(Qa 7 (.mv (.c .tt)))]) (.seq (.seq (.reg [(Qf 22 2 1),(Ql 23 22),(Qa 24 (.len (.t 23))),(Qi 25 0)]) (.blk 0 (.loop e99_L0))) (.seq (.seq (.reg [(Qf 91 1 1),(Ql 92 91),(Qa 93 (.bin .eql (.t 92) (.c (.iv 1)))),(Qm 94 93),(Qg 95 94 true (.mv (.t 7))),(Qp 96 94 95)]) (.ite (.t 96) (.seq (.reg [(Qf 97 1 1),(Qb (.store 1 (.t 97) (.c (.iv 2))))]) (.seq (.reg [(Qf 98 2 1),(Ql 99 98),(Qa 100 (.len (.t 99))),(Qi 101 0)]) (.blk 2 (.loop e99_L1)))) (.skip))) (.seq (.drw [(Qe 110 3 1),(Ql 111 6),(Qs 3 2 110),(Qm 3 111),(Qi 4 0)] [[],[],[0,0],[1,2,0,1,2],[3,0,1,2,3]] [[2],[3],[0],[1],[]]) (.ret))))))))
theorem ok99:FnOK Tryz.prog 99 Tryz.f99 e99 [.c 2 (some 3),.t 3,.t 4] 1 111:=⟨by kernel_rfl,⟨_,rfl,by kernel_rfl⟩,by kernel_rfl,by kernel_rfl⟩
noncomputable def Z7h (x1:Int) (x2:Int) (_x3:Int) (x4:Int) (x5:(List Side)) (x6:(List Mail)):Option (List Mail):=
 (at_ x5 x4).bind fun x7=>
 (Za4 40 x6 ([(Mail.mk x2 x7.Peer ((Msg.mk x1 x7.Epoch 0)))])).bind fun x8=>
 some x8
theorem Z8h (x1:Int) (x2:Int) (x3:Int) (x4:Int) (x5:(List Side)) (x6:(List Mail)) (r:(List Mail)) (h:Z7h x1 x2 x3 x4 x5 x6=some r):FunT Tryz.prog 121 [.iv x1,.ptr 2 0,.ptr 0 0,.ptr 3 0] [some ⟨70,[.iv x2,.iv x3,.osl 0]⟩,none,some ⟨23,[.osl 1]⟩,some ⟨141,[.oel 0 ((x4).toNat*8) 0]⟩] [some ⟨65,8,List.map Side.row x5⟩,some ⟨78,5,List.map Mail.row x6⟩] (.tup []) [some ⟨70,[.iv x2,.iv x3,.osl 0]⟩,none,some ⟨23,[.osl 3]⟩,some ⟨141,[.oel 0 ((x4).toNat*8) 0]⟩] [some ⟨65,8,List.map Side.row x5⟩,none,none,some ⟨78,5,List.map Mail.row r⟩]:=by
 refine Zk5 Z6h rfl rfl rfl (by first | rfl | simp [go_sem]) fun w0 M0=>?_
 rw [Z7h] at h
 dsimp only [lun,List.cons_append,List.nil_append]
 refine Zj3 (by kernel_rfl) fun all hall hs hnap haf=>?_;dsimp only [go_sem];refine Z75 hall hs haf hnap 3 14 ?_;dsimp only [go_sem];refine An ?_;refine Zw3 0 3 8 rfl ?_ ?_ ?_
 ·refine Zz3 hall rfl trivial ?_;dsimp only [go_sem];refine Zv3 3 8 rfl ?_ ?_
  ·refine Zz3 hall rfl trivial ?_;dsimp only [go_sem];refine Z75 hall hs haf hnap 2 10 ?_;dsimp only [go_sem];refine An ?_;obtain ⟨x7,ex7,h⟩:=Bs h;refine Zv3 6 8 rfl ?_ ?_
   ·refine Zn5 hall Side.row ex7 rfl trivial rfl rfl rfl ?_;dsimp only [go_sem];refine Zu3 8 rfl ?_;refine Zz3 hall rfl trivial ?_;dsimp only [go_sem];refine Z75 hall hs haf hnap 2 6 ?_;dsimp only [go_sem];refine An ?_;refine Zu3 11 rfl ?_;refine Zn5 hall Side.row ex7 rfl trivial rfl rfl rfl ?_;dsimp only [go_sem];refine Z75 hall hs haf hnap 2 3 ?_;dsimp only [go_sem];refine An ?_;refine Zu3 14 rfl ?_;refine Zz3 hall rfl trivial ?_;dsimp only [go_sem];refine Zu3 15 rfl ?_;obtain ⟨x8,ex8,h⟩:=Bs h
    refine Zp4 Mail.row ex8 hall rfl trivial rfl rfl rfl ?_;dsimp only [go_sem];refine Zu3 16 rfl ?_;refine Zz3 hall rfl trivial ?_;dsimp only [go_sem];refine Zt3 rfl ?_ _;obtain rfl:=Option.some.inj h;exact Zl5 Z6h rfl (by simp [go_sem])
   ·refine Zz3 hall rfl trivial ?_;dsimp only [go_sem];refine Z75 hall hs haf hnap 2 7 ?_;dsimp only [go_sem];refine An ?_;refine Zv3 6 11 rfl ?_ ?_
    ·refine Zn5 hall Side.row ex7 rfl trivial rfl rfl rfl ?_;dsimp only [go_sem];refine Zu3 11 rfl ?_;refine Zn5 hall Side.row ex7 rfl trivial rfl rfl rfl ?_;dsimp only [go_sem];refine Z75 hall hs haf hnap 2 3 ?_;dsimp only [go_sem];refine An ?_;refine Zu3 14 rfl ?_;refine Zz3 hall rfl trivial ?_;dsimp only [go_sem];refine Zu3 15 rfl ?_;obtain ⟨x8,ex8,h⟩:=Bs h;refine Zp4 Mail.row ex8 hall rfl trivial rfl rfl rfl ?_;dsimp only [go_sem];refine Zu3 16 rfl ?_;refine Zz3 hall rfl trivial ?_;dsimp only [go_sem];refine Zt3 rfl ?_ _
     obtain rfl:=Option.some.inj h;exact Zl5 Z6h rfl (by simp [go_sem])
    ·refine Zn5 hall Side.row ex7 rfl trivial rfl rfl rfl ?_;dsimp only [go_sem];refine Z75 hall hs haf hnap 1 5 ?_;dsimp only [go_sem];refine An ?_;refine Zu3 6 rfl ?_;refine Zn5 hall Side.row ex7 rfl trivial rfl rfl rfl ?_;dsimp only [go_sem];refine Z75 hall hs haf hnap 1 3 ?_;dsimp only [go_sem];refine An ?_;refine Zu3 14 rfl ?_;refine Zz3 hall rfl trivial ?_;dsimp only [go_sem];refine Zu3 15 rfl ?_;obtain ⟨x8,ex8,h⟩:=Bs h;refine Zp4 Mail.row ex8 hall rfl trivial rfl rfl rfl ?_;dsimp only [go_sem];refine Zu3 16 rfl ?_
     refine Zz3 hall rfl trivial ?_;dsimp only [go_sem];refine Zt3 rfl ?_ _;obtain rfl:=Option.some.inj h;exact Zl5 Z6h rfl (by simp [go_sem])
  ·refine Zz3 hall rfl trivial ?_;dsimp only [go_sem];refine Z75 hall hs haf hnap 2 10 ?_;dsimp only [go_sem];refine An ?_;obtain ⟨x7,ex7,h⟩:=Bs h;refine Zv3 3 11 rfl ?_ ?_
   ·refine Zz3 hall rfl trivial ?_;dsimp only [go_sem];refine Z75 hall hs haf hnap 2 7 ?_;dsimp only [go_sem];refine An ?_;refine Zv3 6 11 rfl ?_ ?_
    ·refine Zn5 hall Side.row ex7 rfl trivial rfl rfl rfl ?_;dsimp only [go_sem];refine Zu3 11 rfl ?_;refine Zn5 hall Side.row ex7 rfl trivial rfl rfl rfl ?_;dsimp only [go_sem];refine Z75 hall hs haf hnap 2 3 ?_;dsimp only [go_sem];refine An ?_;refine Zu3 14 rfl ?_;refine Zz3 hall rfl trivial ?_;dsimp only [go_sem];refine Zu3 15 rfl ?_;obtain ⟨x8,ex8,h⟩:=Bs h;refine Zp4 Mail.row ex8 hall rfl trivial rfl rfl rfl ?_;dsimp only [go_sem];refine Zu3 16 rfl ?_;refine Zz3 hall rfl trivial ?_;dsimp only [go_sem];refine Zt3 rfl ?_ _
     obtain rfl:=Option.some.inj h;exact Zl5 Z6h rfl (by simp [go_sem])
    ·refine Zn5 hall Side.row ex7 rfl trivial rfl rfl rfl ?_;dsimp only [go_sem];refine Z75 hall hs haf hnap 1 5 ?_;dsimp only [go_sem];refine An ?_;refine Zu3 6 rfl ?_;refine Zn5 hall Side.row ex7 rfl trivial rfl rfl rfl ?_;dsimp only [go_sem];refine Z75 hall hs haf hnap 1 3 ?_;dsimp only [go_sem];refine An ?_;refine Zu3 14 rfl ?_;refine Zz3 hall rfl trivial ?_;dsimp only [go_sem];refine Zu3 15 rfl ?_;obtain ⟨x8,ex8,h⟩:=Bs h;refine Zp4 Mail.row ex8 hall rfl trivial rfl rfl rfl ?_;dsimp only [go_sem];refine Zu3 16 rfl ?_
     refine Zz3 hall rfl trivial ?_;dsimp only [go_sem];refine Zt3 rfl ?_ _;obtain rfl:=Option.some.inj h;exact Zl5 Z6h rfl (by simp [go_sem])
   ·refine Zn5 hall Side.row ex7 rfl trivial rfl rfl rfl ?_;dsimp only [go_sem];refine Z75 hall hs haf hnap 1 8 ?_;dsimp only [go_sem];refine An ?_;refine Zu3 3 rfl ?_;refine Zz3 hall rfl trivial ?_;dsimp only [go_sem];refine Z75 hall hs haf hnap 2 5 ?_;dsimp only [go_sem];refine An ?_;refine Zu3 6 rfl ?_;refine Zn5 hall Side.row ex7 rfl trivial rfl rfl rfl ?_;dsimp only [go_sem];refine Z75 hall hs haf hnap 1 3 ?_;dsimp only [go_sem];refine An ?_;refine Zu3 14 rfl ?_;refine Zz3 hall rfl trivial ?_;dsimp only [go_sem];refine Zu3 15 rfl ?_
    obtain ⟨x8,ex8,h⟩:=Bs h;refine Zp4 Mail.row ex8 hall rfl trivial rfl rfl rfl ?_;dsimp only [go_sem];refine Zu3 16 rfl ?_;refine Zz3 hall rfl trivial ?_;dsimp only [go_sem];refine Zt3 rfl ?_ _;obtain rfl:=Option.some.inj h;exact Zl5 Z6h rfl (by simp [go_sem])
 ·refine Zz3 hall rfl trivial ?_;dsimp only [go_sem];refine Z75 hall hs haf hnap 2 11 ?_;dsimp only [go_sem];refine An ?_;obtain ⟨x7,ex7,h⟩:=Bs h;refine Zw3 0 6 8 rfl ?_ ?_ ?_
  ·refine Zz3 hall rfl trivial ?_;dsimp only [go_sem];refine Zv3 6 8 rfl ?_ ?_
   ·refine Zn5 hall Side.row ex7 rfl trivial rfl rfl rfl ?_;dsimp only [go_sem];refine Zu3 8 rfl ?_;refine Zz3 hall rfl trivial ?_;dsimp only [go_sem];refine Z75 hall hs haf hnap 2 6 ?_;dsimp only [go_sem];refine An ?_;refine Zu3 11 rfl ?_;refine Zn5 hall Side.row ex7 rfl trivial rfl rfl rfl ?_;dsimp only [go_sem];refine Z75 hall hs haf hnap 2 3 ?_;dsimp only [go_sem];refine An ?_;refine Zu3 14 rfl ?_;refine Zz3 hall rfl trivial ?_;dsimp only [go_sem];refine Zu3 15 rfl ?_;obtain ⟨x8,ex8,h⟩:=Bs h
    refine Zp4 Mail.row ex8 hall rfl trivial rfl rfl rfl ?_;dsimp only [go_sem];refine Zu3 16 rfl ?_;refine Zz3 hall rfl trivial ?_;dsimp only [go_sem];refine Zt3 rfl ?_ _;obtain rfl:=Option.some.inj h;exact Zl5 Z6h rfl (by simp [go_sem])
   ·refine Zz3 hall rfl trivial ?_;dsimp only [go_sem];refine Z75 hall hs haf hnap 2 7 ?_;dsimp only [go_sem];refine An ?_;refine Zv3 6 11 rfl ?_ ?_
    ·refine Zn5 hall Side.row ex7 rfl trivial rfl rfl rfl ?_;dsimp only [go_sem];refine Zu3 11 rfl ?_;refine Zn5 hall Side.row ex7 rfl trivial rfl rfl rfl ?_;dsimp only [go_sem];refine Z75 hall hs haf hnap 2 3 ?_;dsimp only [go_sem];refine An ?_;refine Zu3 14 rfl ?_;refine Zz3 hall rfl trivial ?_;dsimp only [go_sem];refine Zu3 15 rfl ?_;obtain ⟨x8,ex8,h⟩:=Bs h;refine Zp4 Mail.row ex8 hall rfl trivial rfl rfl rfl ?_;dsimp only [go_sem];refine Zu3 16 rfl ?_;refine Zz3 hall rfl trivial ?_;dsimp only [go_sem];refine Zt3 rfl ?_ _
     obtain rfl:=Option.some.inj h;exact Zl5 Z6h rfl (by simp [go_sem])
    ·refine Zn5 hall Side.row ex7 rfl trivial rfl rfl rfl ?_;dsimp only [go_sem];refine Z75 hall hs haf hnap 1 5 ?_;dsimp only [go_sem];refine An ?_;refine Zu3 6 rfl ?_;refine Zn5 hall Side.row ex7 rfl trivial rfl rfl rfl ?_;dsimp only [go_sem];refine Z75 hall hs haf hnap 1 3 ?_;dsimp only [go_sem];refine An ?_;refine Zu3 14 rfl ?_;refine Zz3 hall rfl trivial ?_;dsimp only [go_sem];refine Zu3 15 rfl ?_;obtain ⟨x8,ex8,h⟩:=Bs h;refine Zp4 Mail.row ex8 hall rfl trivial rfl rfl rfl ?_;dsimp only [go_sem];refine Zu3 16 rfl ?_
     refine Zz3 hall rfl trivial ?_;dsimp only [go_sem];refine Zt3 rfl ?_ _;obtain rfl:=Option.some.inj h;exact Zl5 Z6h rfl (by simp [go_sem])
  ·refine Zn5 hall Side.row ex7 rfl trivial rfl rfl rfl ?_;dsimp only [go_sem];refine Zv3 0 8 rfl ?_ ?_
   ·refine Zz3 hall rfl trivial ?_;dsimp only [go_sem];refine Zu3 8 rfl ?_;refine Zz3 hall rfl trivial ?_;dsimp only [go_sem];refine Z75 hall hs haf hnap 2 6 ?_;dsimp only [go_sem];refine An ?_;refine Zu3 11 rfl ?_;refine Zn5 hall Side.row ex7 rfl trivial rfl rfl rfl ?_;dsimp only [go_sem];refine Z75 hall hs haf hnap 2 3 ?_;dsimp only [go_sem];refine An ?_;refine Zu3 14 rfl ?_;refine Zz3 hall rfl trivial ?_;dsimp only [go_sem];refine Zu3 15 rfl ?_;obtain ⟨x8,ex8,h⟩:=Bs h;refine Zp4 Mail.row ex8 hall rfl trivial rfl rfl rfl ?_
    dsimp only [go_sem];refine Zu3 16 rfl ?_;refine Zz3 hall rfl trivial ?_;dsimp only [go_sem];refine Zt3 rfl ?_ _;obtain rfl:=Option.some.inj h;exact Zl5 Z6h rfl (by simp [go_sem])
   ·refine Zz3 hall rfl trivial ?_;dsimp only [go_sem];refine Z75 hall hs haf hnap 2 7 ?_;dsimp only [go_sem];refine An ?_;refine Zv3 0 11 rfl ?_ ?_
    ·refine Zz3 hall rfl trivial ?_;dsimp only [go_sem];refine Zu3 11 rfl ?_;refine Zn5 hall Side.row ex7 rfl trivial rfl rfl rfl ?_;dsimp only [go_sem];refine Z75 hall hs haf hnap 2 3 ?_;dsimp only [go_sem];refine An ?_;refine Zu3 14 rfl ?_;refine Zz3 hall rfl trivial ?_;dsimp only [go_sem];refine Zu3 15 rfl ?_;obtain ⟨x8,ex8,h⟩:=Bs h;refine Zp4 Mail.row ex8 hall rfl trivial rfl rfl rfl ?_;dsimp only [go_sem];refine Zu3 16 rfl ?_;refine Zz3 hall rfl trivial ?_;dsimp only [go_sem];refine Zt3 rfl ?_ _;obtain rfl:=Option.some.inj h
     exact Zl5 Z6h rfl (by simp [go_sem])
    ·refine Zn5 hall Side.row ex7 rfl trivial rfl rfl rfl ?_;dsimp only [go_sem];refine Z75 hall hs haf hnap 2 4 ?_;dsimp only [go_sem];refine An ?_;refine Zv3 0 14 rfl ?_ ?_
     ·refine Zz3 hall rfl trivial ?_;dsimp only [go_sem];refine Zu3 14 rfl ?_;refine Zz3 hall rfl trivial ?_;dsimp only [go_sem];refine Zu3 15 rfl ?_;obtain ⟨x8,ex8,h⟩:=Bs h;refine Zp4 Mail.row ex8 hall rfl trivial rfl rfl rfl ?_;dsimp only [go_sem];refine Zu3 16 rfl ?_;refine Zz3 hall rfl trivial ?_;dsimp only [go_sem];refine Zt3 rfl ?_ _;obtain rfl:=Option.some.inj h;exact Zl5 Z6h rfl (by simp [go_sem])
     ·refine Zz3 hall rfl trivial ?_;dsimp only [go_sem];refine Zu3 0 rfl ?_;refine Zz3 hall rfl trivial ?_;dsimp only [go_sem];refine Zu3 15 rfl ?_;obtain ⟨x8,ex8,h⟩:=Bs h;refine Zp4 Mail.row ex8 hall rfl trivial rfl rfl rfl ?_;dsimp only [go_sem];refine Zu3 16 rfl ?_;refine Zz3 hall rfl trivial ?_;dsimp only [go_sem];refine Zt3 rfl ?_ _;obtain rfl:=Option.some.inj h;exact Zl5 Z6h rfl (by simp [go_sem])
  ·refine Zz3 hall rfl trivial ?_;dsimp only [go_sem];refine Z75 hall hs haf hnap 2 8 ?_;dsimp only [go_sem];refine An ?_;refine Zw3 0 6 11 rfl ?_ ?_ ?_
   ·refine Zz3 hall rfl trivial ?_;dsimp only [go_sem];refine Zv3 6 11 rfl ?_ ?_
    ·refine Zn5 hall Side.row ex7 rfl trivial rfl rfl rfl ?_;dsimp only [go_sem];refine Zu3 11 rfl ?_;refine Zn5 hall Side.row ex7 rfl trivial rfl rfl rfl ?_;dsimp only [go_sem];refine Z75 hall hs haf hnap 2 3 ?_;dsimp only [go_sem];refine An ?_;refine Zu3 14 rfl ?_;refine Zz3 hall rfl trivial ?_;dsimp only [go_sem];refine Zu3 15 rfl ?_;obtain ⟨x8,ex8,h⟩:=Bs h;refine Zp4 Mail.row ex8 hall rfl trivial rfl rfl rfl ?_;dsimp only [go_sem];refine Zu3 16 rfl ?_;refine Zz3 hall rfl trivial ?_;dsimp only [go_sem];refine Zt3 rfl ?_ _
     obtain rfl:=Option.some.inj h;exact Zl5 Z6h rfl (by simp [go_sem])
    ·refine Zn5 hall Side.row ex7 rfl trivial rfl rfl rfl ?_;dsimp only [go_sem];refine Z75 hall hs haf hnap 1 5 ?_;dsimp only [go_sem];refine An ?_;refine Zu3 6 rfl ?_;refine Zn5 hall Side.row ex7 rfl trivial rfl rfl rfl ?_;dsimp only [go_sem];refine Z75 hall hs haf hnap 1 3 ?_;dsimp only [go_sem];refine An ?_;refine Zu3 14 rfl ?_;refine Zz3 hall rfl trivial ?_;dsimp only [go_sem];refine Zu3 15 rfl ?_;obtain ⟨x8,ex8,h⟩:=Bs h;refine Zp4 Mail.row ex8 hall rfl trivial rfl rfl rfl ?_;dsimp only [go_sem];refine Zu3 16 rfl ?_
     refine Zz3 hall rfl trivial ?_;dsimp only [go_sem];refine Zt3 rfl ?_ _;obtain rfl:=Option.some.inj h;exact Zl5 Z6h rfl (by simp [go_sem])
   ·refine Zn5 hall Side.row ex7 rfl trivial rfl rfl rfl ?_;dsimp only [go_sem];refine Zv3 0 11 rfl ?_ ?_
    ·refine Zz3 hall rfl trivial ?_;dsimp only [go_sem];refine Zu3 11 rfl ?_;refine Zn5 hall Side.row ex7 rfl trivial rfl rfl rfl ?_;dsimp only [go_sem];refine Z75 hall hs haf hnap 2 3 ?_;dsimp only [go_sem];refine An ?_;refine Zu3 14 rfl ?_;refine Zz3 hall rfl trivial ?_;dsimp only [go_sem];refine Zu3 15 rfl ?_;obtain ⟨x8,ex8,h⟩:=Bs h;refine Zp4 Mail.row ex8 hall rfl trivial rfl rfl rfl ?_;dsimp only [go_sem];refine Zu3 16 rfl ?_;refine Zz3 hall rfl trivial ?_;dsimp only [go_sem];refine Zt3 rfl ?_ _;obtain rfl:=Option.some.inj h
     exact Zl5 Z6h rfl (by simp [go_sem])
    ·refine Zn5 hall Side.row ex7 rfl trivial rfl rfl rfl ?_;dsimp only [go_sem];refine Z75 hall hs haf hnap 2 4 ?_;dsimp only [go_sem];refine An ?_;refine Zv3 0 14 rfl ?_ ?_
     ·refine Zz3 hall rfl trivial ?_;dsimp only [go_sem];refine Zu3 14 rfl ?_;refine Zz3 hall rfl trivial ?_;dsimp only [go_sem];refine Zu3 15 rfl ?_;obtain ⟨x8,ex8,h⟩:=Bs h;refine Zp4 Mail.row ex8 hall rfl trivial rfl rfl rfl ?_;dsimp only [go_sem];refine Zu3 16 rfl ?_;refine Zz3 hall rfl trivial ?_;dsimp only [go_sem];refine Zt3 rfl ?_ _;obtain rfl:=Option.some.inj h;exact Zl5 Z6h rfl (by simp [go_sem])
     ·refine Zz3 hall rfl trivial ?_;dsimp only [go_sem];refine Zu3 0 rfl ?_;refine Zz3 hall rfl trivial ?_;dsimp only [go_sem];refine Zu3 15 rfl ?_;obtain ⟨x8,ex8,h⟩:=Bs h;refine Zp4 Mail.row ex8 hall rfl trivial rfl rfl rfl ?_;dsimp only [go_sem];refine Zu3 16 rfl ?_;refine Zz3 hall rfl trivial ?_;dsimp only [go_sem];refine Zt3 rfl ?_ _;obtain rfl:=Option.some.inj h;exact Zl5 Z6h rfl (by simp [go_sem])
   ·refine Zn5 hall Side.row ex7 rfl trivial rfl rfl rfl ?_;dsimp only [go_sem];refine Z75 hall hs haf hnap 1 6 ?_;dsimp only [go_sem];refine An ?_;refine Zv3 0 6 rfl ?_ ?_
    ·refine Zz3 hall rfl trivial ?_;dsimp only [go_sem];refine Zu3 6 rfl ?_;refine Zn5 hall Side.row ex7 rfl trivial rfl rfl rfl ?_;dsimp only [go_sem];refine Z75 hall hs haf hnap 1 3 ?_;dsimp only [go_sem];refine An ?_;refine Zu3 14 rfl ?_;refine Zz3 hall rfl trivial ?_;dsimp only [go_sem];refine Zu3 15 rfl ?_;obtain ⟨x8,ex8,h⟩:=Bs h;refine Zp4 Mail.row ex8 hall rfl trivial rfl rfl rfl ?_;dsimp only [go_sem];refine Zu3 16 rfl ?_;refine Zz3 hall rfl trivial ?_;dsimp only [go_sem];refine Zt3 rfl ?_ _;obtain rfl:=Option.some.inj h
     exact Zl5 Z6h rfl (by simp [go_sem])
    ·refine Zn5 hall Side.row ex7 rfl trivial rfl rfl rfl ?_;dsimp only [go_sem];refine Z75 hall hs haf hnap 1 4 ?_;dsimp only [go_sem];refine An ?_;refine Zv3 0 14 rfl ?_ ?_
     ·refine Zz3 hall rfl trivial ?_;dsimp only [go_sem];refine Zu3 14 rfl ?_;refine Zz3 hall rfl trivial ?_;dsimp only [go_sem];refine Zu3 15 rfl ?_;obtain ⟨x8,ex8,h⟩:=Bs h;refine Zp4 Mail.row ex8 hall rfl trivial rfl rfl rfl ?_;dsimp only [go_sem];refine Zu3 16 rfl ?_;refine Zz3 hall rfl trivial ?_;dsimp only [go_sem];refine Zt3 rfl ?_ _;obtain rfl:=Option.some.inj h;exact Zl5 Z6h rfl (by simp [go_sem])
     ·refine Zz3 hall rfl trivial ?_;dsimp only [go_sem];refine Zu3 0 rfl ?_;refine Zz3 hall rfl trivial ?_;dsimp only [go_sem];refine Zu3 15 rfl ?_;obtain ⟨x8,ex8,h⟩:=Bs h;refine Zp4 Mail.row ex8 hall rfl trivial rfl rfl rfl ?_;dsimp only [go_sem];refine Zu3 16 rfl ?_;refine Zz3 hall rfl trivial ?_;dsimp only [go_sem];refine Zt3 rfl ?_ _;obtain rfl:=Option.some.inj h;exact Zl5 Z6h rfl (by simp [go_sem])
 ·refine Zz3 hall rfl trivial ?_;dsimp only [go_sem];refine Z75 hall hs haf hnap 2 11 ?_;dsimp only [go_sem];refine An ?_;obtain ⟨x7,ex7,h⟩:=Bs h;refine Zw3 0 3 11 rfl ?_ ?_ ?_
  ·refine Zz3 hall rfl trivial ?_;dsimp only [go_sem];refine Zv3 3 11 rfl ?_ ?_
   ·refine Zz3 hall rfl trivial ?_;dsimp only [go_sem];refine Z75 hall hs haf hnap 2 7 ?_;dsimp only [go_sem];refine An ?_;refine Zv3 6 11 rfl ?_ ?_
    ·refine Zn5 hall Side.row ex7 rfl trivial rfl rfl rfl ?_;dsimp only [go_sem];refine Zu3 11 rfl ?_;refine Zn5 hall Side.row ex7 rfl trivial rfl rfl rfl ?_;dsimp only [go_sem];refine Z75 hall hs haf hnap 2 3 ?_;dsimp only [go_sem];refine An ?_;refine Zu3 14 rfl ?_;refine Zz3 hall rfl trivial ?_;dsimp only [go_sem];refine Zu3 15 rfl ?_;obtain ⟨x8,ex8,h⟩:=Bs h;refine Zp4 Mail.row ex8 hall rfl trivial rfl rfl rfl ?_;dsimp only [go_sem];refine Zu3 16 rfl ?_;refine Zz3 hall rfl trivial ?_;dsimp only [go_sem];refine Zt3 rfl ?_ _
     obtain rfl:=Option.some.inj h;exact Zl5 Z6h rfl (by simp [go_sem])
    ·refine Zn5 hall Side.row ex7 rfl trivial rfl rfl rfl ?_;dsimp only [go_sem];refine Z75 hall hs haf hnap 1 5 ?_;dsimp only [go_sem];refine An ?_;refine Zu3 6 rfl ?_;refine Zn5 hall Side.row ex7 rfl trivial rfl rfl rfl ?_;dsimp only [go_sem];refine Z75 hall hs haf hnap 1 3 ?_;dsimp only [go_sem];refine An ?_;refine Zu3 14 rfl ?_;refine Zz3 hall rfl trivial ?_;dsimp only [go_sem];refine Zu3 15 rfl ?_;obtain ⟨x8,ex8,h⟩:=Bs h;refine Zp4 Mail.row ex8 hall rfl trivial rfl rfl rfl ?_;dsimp only [go_sem];refine Zu3 16 rfl ?_
     refine Zz3 hall rfl trivial ?_;dsimp only [go_sem];refine Zt3 rfl ?_ _;obtain rfl:=Option.some.inj h;exact Zl5 Z6h rfl (by simp [go_sem])
   ·refine Zn5 hall Side.row ex7 rfl trivial rfl rfl rfl ?_;dsimp only [go_sem];refine Z75 hall hs haf hnap 1 8 ?_;dsimp only [go_sem];refine An ?_;refine Zu3 3 rfl ?_;refine Zz3 hall rfl trivial ?_;dsimp only [go_sem];refine Z75 hall hs haf hnap 2 5 ?_;dsimp only [go_sem];refine An ?_;refine Zu3 6 rfl ?_;refine Zn5 hall Side.row ex7 rfl trivial rfl rfl rfl ?_;dsimp only [go_sem];refine Z75 hall hs haf hnap 1 3 ?_;dsimp only [go_sem];refine An ?_;refine Zu3 14 rfl ?_;refine Zz3 hall rfl trivial ?_;dsimp only [go_sem];refine Zu3 15 rfl ?_
    obtain ⟨x8,ex8,h⟩:=Bs h;refine Zp4 Mail.row ex8 hall rfl trivial rfl rfl rfl ?_;dsimp only [go_sem];refine Zu3 16 rfl ?_;refine Zz3 hall rfl trivial ?_;dsimp only [go_sem];refine Zt3 rfl ?_ _;obtain rfl:=Option.some.inj h;exact Zl5 Z6h rfl (by simp [go_sem])
  ·refine Zz3 hall rfl trivial ?_;dsimp only [go_sem];refine Z75 hall hs haf hnap 2 8 ?_;dsimp only [go_sem];refine An ?_;refine Zw3 0 6 11 rfl ?_ ?_ ?_
   ·refine Zz3 hall rfl trivial ?_;dsimp only [go_sem];refine Zv3 6 11 rfl ?_ ?_
    ·refine Zn5 hall Side.row ex7 rfl trivial rfl rfl rfl ?_;dsimp only [go_sem];refine Zu3 11 rfl ?_;refine Zn5 hall Side.row ex7 rfl trivial rfl rfl rfl ?_;dsimp only [go_sem];refine Z75 hall hs haf hnap 2 3 ?_;dsimp only [go_sem];refine An ?_;refine Zu3 14 rfl ?_;refine Zz3 hall rfl trivial ?_;dsimp only [go_sem];refine Zu3 15 rfl ?_;obtain ⟨x8,ex8,h⟩:=Bs h;refine Zp4 Mail.row ex8 hall rfl trivial rfl rfl rfl ?_;dsimp only [go_sem];refine Zu3 16 rfl ?_;refine Zz3 hall rfl trivial ?_;dsimp only [go_sem];refine Zt3 rfl ?_ _
     obtain rfl:=Option.some.inj h;exact Zl5 Z6h rfl (by simp [go_sem])
    ·refine Zn5 hall Side.row ex7 rfl trivial rfl rfl rfl ?_;dsimp only [go_sem];refine Z75 hall hs haf hnap 1 5 ?_;dsimp only [go_sem];refine An ?_;refine Zu3 6 rfl ?_;refine Zn5 hall Side.row ex7 rfl trivial rfl rfl rfl ?_;dsimp only [go_sem];refine Z75 hall hs haf hnap 1 3 ?_;dsimp only [go_sem];refine An ?_;refine Zu3 14 rfl ?_;refine Zz3 hall rfl trivial ?_;dsimp only [go_sem];refine Zu3 15 rfl ?_;obtain ⟨x8,ex8,h⟩:=Bs h;refine Zp4 Mail.row ex8 hall rfl trivial rfl rfl rfl ?_;dsimp only [go_sem];refine Zu3 16 rfl ?_
     refine Zz3 hall rfl trivial ?_;dsimp only [go_sem];refine Zt3 rfl ?_ _;obtain rfl:=Option.some.inj h;exact Zl5 Z6h rfl (by simp [go_sem])
   ·refine Zn5 hall Side.row ex7 rfl trivial rfl rfl rfl ?_;dsimp only [go_sem];refine Zv3 0 11 rfl ?_ ?_
    ·refine Zz3 hall rfl trivial ?_;dsimp only [go_sem];refine Zu3 11 rfl ?_;refine Zn5 hall Side.row ex7 rfl trivial rfl rfl rfl ?_;dsimp only [go_sem];refine Z75 hall hs haf hnap 2 3 ?_;dsimp only [go_sem];refine An ?_;refine Zu3 14 rfl ?_;refine Zz3 hall rfl trivial ?_;dsimp only [go_sem];refine Zu3 15 rfl ?_;obtain ⟨x8,ex8,h⟩:=Bs h;refine Zp4 Mail.row ex8 hall rfl trivial rfl rfl rfl ?_;dsimp only [go_sem];refine Zu3 16 rfl ?_;refine Zz3 hall rfl trivial ?_;dsimp only [go_sem];refine Zt3 rfl ?_ _;obtain rfl:=Option.some.inj h
     exact Zl5 Z6h rfl (by simp [go_sem])
    ·refine Zn5 hall Side.row ex7 rfl trivial rfl rfl rfl ?_;dsimp only [go_sem];refine Z75 hall hs haf hnap 2 4 ?_;dsimp only [go_sem];refine An ?_;refine Zv3 0 14 rfl ?_ ?_
     ·refine Zz3 hall rfl trivial ?_;dsimp only [go_sem];refine Zu3 14 rfl ?_;refine Zz3 hall rfl trivial ?_;dsimp only [go_sem];refine Zu3 15 rfl ?_;obtain ⟨x8,ex8,h⟩:=Bs h;refine Zp4 Mail.row ex8 hall rfl trivial rfl rfl rfl ?_;dsimp only [go_sem];refine Zu3 16 rfl ?_;refine Zz3 hall rfl trivial ?_;dsimp only [go_sem];refine Zt3 rfl ?_ _;obtain rfl:=Option.some.inj h;exact Zl5 Z6h rfl (by simp [go_sem])
     ·refine Zz3 hall rfl trivial ?_;dsimp only [go_sem];refine Zu3 0 rfl ?_;refine Zz3 hall rfl trivial ?_;dsimp only [go_sem];refine Zu3 15 rfl ?_;obtain ⟨x8,ex8,h⟩:=Bs h;refine Zp4 Mail.row ex8 hall rfl trivial rfl rfl rfl ?_;dsimp only [go_sem];refine Zu3 16 rfl ?_;refine Zz3 hall rfl trivial ?_;dsimp only [go_sem];refine Zt3 rfl ?_ _;obtain rfl:=Option.some.inj h;exact Zl5 Z6h rfl (by simp [go_sem])
   ·refine Zn5 hall Side.row ex7 rfl trivial rfl rfl rfl ?_;dsimp only [go_sem];refine Z75 hall hs haf hnap 1 6 ?_;dsimp only [go_sem];refine An ?_;refine Zv3 0 6 rfl ?_ ?_
    ·refine Zz3 hall rfl trivial ?_;dsimp only [go_sem];refine Zu3 6 rfl ?_;refine Zn5 hall Side.row ex7 rfl trivial rfl rfl rfl ?_;dsimp only [go_sem];refine Z75 hall hs haf hnap 1 3 ?_;dsimp only [go_sem];refine An ?_;refine Zu3 14 rfl ?_;refine Zz3 hall rfl trivial ?_;dsimp only [go_sem];refine Zu3 15 rfl ?_;obtain ⟨x8,ex8,h⟩:=Bs h;refine Zp4 Mail.row ex8 hall rfl trivial rfl rfl rfl ?_;dsimp only [go_sem];refine Zu3 16 rfl ?_;refine Zz3 hall rfl trivial ?_;dsimp only [go_sem];refine Zt3 rfl ?_ _;obtain rfl:=Option.some.inj h
     exact Zl5 Z6h rfl (by simp [go_sem])
    ·refine Zn5 hall Side.row ex7 rfl trivial rfl rfl rfl ?_;dsimp only [go_sem];refine Z75 hall hs haf hnap 1 4 ?_;dsimp only [go_sem];refine An ?_;refine Zv3 0 14 rfl ?_ ?_
     ·refine Zz3 hall rfl trivial ?_;dsimp only [go_sem];refine Zu3 14 rfl ?_;refine Zz3 hall rfl trivial ?_;dsimp only [go_sem];refine Zu3 15 rfl ?_;obtain ⟨x8,ex8,h⟩:=Bs h;refine Zp4 Mail.row ex8 hall rfl trivial rfl rfl rfl ?_;dsimp only [go_sem];refine Zu3 16 rfl ?_;refine Zz3 hall rfl trivial ?_;dsimp only [go_sem];refine Zt3 rfl ?_ _;obtain rfl:=Option.some.inj h;exact Zl5 Z6h rfl (by simp [go_sem])
     ·refine Zz3 hall rfl trivial ?_;dsimp only [go_sem];refine Zu3 0 rfl ?_;refine Zz3 hall rfl trivial ?_;dsimp only [go_sem];refine Zu3 15 rfl ?_;obtain ⟨x8,ex8,h⟩:=Bs h;refine Zp4 Mail.row ex8 hall rfl trivial rfl rfl rfl ?_;dsimp only [go_sem];refine Zu3 16 rfl ?_;refine Zz3 hall rfl trivial ?_;dsimp only [go_sem];refine Zt3 rfl ?_ _;obtain rfl:=Option.some.inj h;exact Zl5 Z6h rfl (by simp [go_sem])
  ·refine Zn5 hall Side.row ex7 rfl trivial rfl rfl rfl ?_;dsimp only [go_sem];refine Z75 hall hs haf hnap 1 9 ?_;dsimp only [go_sem];refine An ?_;refine Zv3 0 3 rfl ?_ ?_
   ·refine Zz3 hall rfl trivial ?_;dsimp only [go_sem];refine Zu3 3 rfl ?_;refine Zz3 hall rfl trivial ?_;dsimp only [go_sem];refine Z75 hall hs haf hnap 2 5 ?_;dsimp only [go_sem];refine An ?_;refine Zu3 6 rfl ?_;refine Zn5 hall Side.row ex7 rfl trivial rfl rfl rfl ?_;dsimp only [go_sem];refine Z75 hall hs haf hnap 1 3 ?_;dsimp only [go_sem];refine An ?_;refine Zu3 14 rfl ?_;refine Zz3 hall rfl trivial ?_;dsimp only [go_sem];refine Zu3 15 rfl ?_;obtain ⟨x8,ex8,h⟩:=Bs h;refine Zp4 Mail.row ex8 hall rfl trivial rfl rfl rfl ?_
    dsimp only [go_sem];refine Zu3 16 rfl ?_;refine Zz3 hall rfl trivial ?_;dsimp only [go_sem];refine Zt3 rfl ?_ _;obtain rfl:=Option.some.inj h;exact Zl5 Z6h rfl (by simp [go_sem])
   ·refine Zz3 hall rfl trivial ?_;dsimp only [go_sem];refine Z75 hall hs haf hnap 2 6 ?_;dsimp only [go_sem];refine An ?_;refine Zv3 0 6 rfl ?_ ?_
    ·refine Zz3 hall rfl trivial ?_;dsimp only [go_sem];refine Zu3 6 rfl ?_;refine Zn5 hall Side.row ex7 rfl trivial rfl rfl rfl ?_;dsimp only [go_sem];refine Z75 hall hs haf hnap 1 3 ?_;dsimp only [go_sem];refine An ?_;refine Zu3 14 rfl ?_;refine Zz3 hall rfl trivial ?_;dsimp only [go_sem];refine Zu3 15 rfl ?_;obtain ⟨x8,ex8,h⟩:=Bs h;refine Zp4 Mail.row ex8 hall rfl trivial rfl rfl rfl ?_;dsimp only [go_sem];refine Zu3 16 rfl ?_;refine Zz3 hall rfl trivial ?_;dsimp only [go_sem];refine Zt3 rfl ?_ _;obtain rfl:=Option.some.inj h
     exact Zl5 Z6h rfl (by simp [go_sem])
    ·refine Zn5 hall Side.row ex7 rfl trivial rfl rfl rfl ?_;dsimp only [go_sem];refine Z75 hall hs haf hnap 1 4 ?_;dsimp only [go_sem];refine An ?_;refine Zv3 0 14 rfl ?_ ?_
     ·refine Zz3 hall rfl trivial ?_;dsimp only [go_sem];refine Zu3 14 rfl ?_;refine Zz3 hall rfl trivial ?_;dsimp only [go_sem];refine Zu3 15 rfl ?_;obtain ⟨x8,ex8,h⟩:=Bs h;refine Zp4 Mail.row ex8 hall rfl trivial rfl rfl rfl ?_;dsimp only [go_sem];refine Zu3 16 rfl ?_;refine Zz3 hall rfl trivial ?_;dsimp only [go_sem];refine Zt3 rfl ?_ _;obtain rfl:=Option.some.inj h;exact Zl5 Z6h rfl (by simp [go_sem])
     ·refine Zz3 hall rfl trivial ?_;dsimp only [go_sem];refine Zu3 0 rfl ?_;refine Zz3 hall rfl trivial ?_;dsimp only [go_sem];refine Zu3 15 rfl ?_;obtain ⟨x8,ex8,h⟩:=Bs h;refine Zp4 Mail.row ex8 hall rfl trivial rfl rfl rfl ?_;dsimp only [go_sem];refine Zu3 16 rfl ?_;refine Zz3 hall rfl trivial ?_;dsimp only [go_sem];refine Zt3 rfl ?_ _;obtain rfl:=Option.some.inj h;exact Zl5 Z6h rfl (by simp [go_sem])
noncomputable def Z9h (x1:Diner) (x50:(List Mail)):(Int×(List Side))→Option (Diner×(List Mail)×Int)
| (x65,x66)=>
 some ((Diner.mk x1.ID x65 x66),x50,0)
noncomputable def Zah (x1:Diner) (x49:(List Side)) (x50:(List Mail)):(Int×(List Side))→Option ((Int×(List Side)) ⊕ (Diner×(List Mail)×Int))
| (x55,x56)=>
 ifb (decide (x55<(ln Side.row x49))) (
 (at_ x56 x55).bind fun x57=>
 some (.inl (wr (x55+1),x56.set (x55).toNat ((Side.mk x57.Peer x57.Epoch x57.State x57.Fork true x57.Token x57.Bottle x57.Ask))))) (
 Option.map Sum.inr ((Z9h x1 x50) (2,x56)))
noncomputable def Zbh (x1:Diner) (x49:(List Side)) (x50:(List Mail)):Bool→Option (Diner×(List Mail)×Int)
| x51=>
 ifb x51 (
 loop (Zah x1 x49 x50) (0,x49)) (
 (Z9h x1 x50) (x1.Phase,x49))
noncomputable def Zch (x1:Diner):(Bool×(List Side)×(List Mail))→Option (Diner×(List Mail)×Int)
| (x48,x49,x50)=>
 ifb (decide (x1.Phase=1)) (
 (Zbh x1 x49 x50) x48) (
 (Zbh x1 x49 x50) false)
noncomputable def Zdh (x21:Int) (x33:(List Side)) (x34:(List Mail)):Bool→Option ((Bool×Int×(List Side)×(List Mail)) ⊕ (Diner×(List Mail)×Int))
| x36=>
 some (.inl (x36,wr (x21+1),x33,x34))
noncomputable def Zeh (x20:Bool) (x21:Int):((List Side)×(List Mail))→Option ((Bool×Int×(List Side)×(List Mail)) ⊕ (Diner×(List Mail)×Int))
| (x33,x34)=>
 ifb x20 (
 (at_ x33 x21).bind fun x35=>
 (Zdh x21 x33 x34) x35.Fork) (
 (Zdh x21 x33 x34) false)
noncomputable def Zfh (x1:Diner) (x20:Bool) (x21:Int) (x27:(List Side)) (x28:(List Mail)):Bool→Option ((Bool×Int×(List Side)×(List Mail)) ⊕ (Diner×(List Mail)×Int))
| x30=>
 ifb x30 (
 (at_ x27 x21).bind fun x31=>
 (Z7h 2 x1.ID x1.Phase x21 (x27.set (x21).toNat ((Side.mk x31.Peer x31.Epoch x31.State x31.Fork x31.Dirty false x31.Bottle x31.Ask))) x28).bind fun x32=>
 (Zeh x20 x21) ((x27.set (x21).toNat ((Side.mk x31.Peer x31.Epoch x31.State x31.Fork x31.Dirty false x31.Bottle x31.Ask))),x32)) (
 (Zeh x20 x21) (x27,x28))
noncomputable def Zgh (x1:Diner) (x20:Bool) (x21:Int):((List Side)×(List Mail))→Option ((Bool×Int×(List Side)×(List Mail)) ⊕ (Diner×(List Mail)×Int))
| (x27,x28)=>
 ifb (decide (x1.Phase=1)) (
 (at_ x27 x21).bind fun x29=>
 ifb x29.Token (
 (Zfh x1 x20 x21 x27 x28) (!x29.Fork)) (
 (Zfh x1 x20 x21 x27 x28) false)) (
 (Zfh x1 x20 x21 x27 x28) false)
noncomputable def Zhh (x1:Diner) (x20:Bool) (x21:Int) (x22:(List Side)) (x23:(List Mail)) (x24:Side):Bool→Option ((Bool×Int×(List Side)×(List Mail)) ⊕ (Diner×(List Mail)×Int))
| x25=>
 ifb x25 (
 (Z7h 1 x1.ID x1.Phase x21 (x22.set (x21).toNat ((Side.mk x24.Peer x24.Epoch x24.State false false x24.Token x24.Bottle x24.Ask))) x23).bind fun x26=>
 (Zgh x1 x20 x21) ((x22.set (x21).toNat ((Side.mk x24.Peer x24.Epoch x24.State false false x24.Token x24.Bottle x24.Ask))),x26)) (
 (Zgh x1 x20 x21) (x22,x23))
noncomputable def Zih (x1:Diner) (x3:(List Side)):(Bool×Int×(List Side)×(List Mail))→Option ((Bool×Int×(List Side)×(List Mail)) ⊕ (Diner×(List Mail)×Int))
| (x20,x21,x22,x23)=>
 ifb (decide (x21<(ln Side.row x3))) (
 (at_ x22 x21).bind fun x24=>
 ifb x24.Fork (
 ifb x24.Dirty (
 ifb x24.Token (
 (Zhh x1 x20 x21 x22 x23 x24) (!decide (x1.Phase=2))) (
 (Zhh x1 x20 x21 x22 x23 x24) false)) (
 (Zhh x1 x20 x21 x22 x23 x24) false)) (
 (Zhh x1 x20 x21 x22 x23 x24) false)) (
 Option.map Sum.inr ((Zch x1) (x20,x22,x23)))
noncomputable def Zjh (x1:Diner):Option (Diner×(List Mail)×Int):=
 (Zba x1).bind fun x2=>
 ifb (!decide (x2=0)) (
 some ((Diner.mk 0 0 (([]:(List Side)))),([]:(List Mail)),x2)) (
 (Zfa x1.Sides).bind fun x3=>
 loop (Zih x1 x3) (true,0,x3,([]:List Mail)))
theorem k_dine_Fire (x1:Diner) (r:(Diner×(List Mail)×Int)) (h:Zjh x1=some r):Zu2 Tryz.prog 99 [.agg (Diner.row x1)] (.tup [.agg (Diner.row r.1),.sl 5 (List.map Mail.row r.2.1),.iv r.2.2]):=by
 refine Zy2 ok99 rfl rfl fun w0 H0=>?_
 rw [Zjh] at h
 refine Zo2 11 ?_;dsimp only [go_sem];refine An ?_;obtain ⟨x2,ex2,h⟩:=Bs h;refine Z33 trivial (Zca x1 _ ex2) (h:=?_);refine Zo2 7 ?_;dsimp only [go_sem];refine An ?_;refine Zj4 h rfl (fun _ h=>?_) fun _ h=>?_
 ·refine Zo2 8 ?_;dsimp only [go_sem];refine An ?_;exact Zr4 (res:=fun (r:(Diner×(List Mail)×Int))=>.tup [.agg (Diner.row r.1),.sl 5 (List.map Mail.row r.2.1),.iv r.2.2]) ok99 h
 ·refine Zo2 5 ?_;dsimp only [go_sem];refine An ?_;obtain ⟨x3,ex3,h⟩:=Bs h;refine Z65 trivial (Zga x1.Sides _ ex3) (h:=?_);refine Zo2 19 ?_;dsimp only [go_sem];refine An ?_;refine Zh4 (fun ((x48,x49,x50):(Bool×(List Side)×(List Mail)))=>(⟨(.any :: .ptr 0 0 :: .ptr 1 0::an 3 (.ptr 2 0 :: .bv x48::an 104 [])),[some ⟨70,[.iv x1.ID,.iv x1.Phase,.osl 0]⟩,some ⟨70,[.iv 0,.iv 0,.nl]⟩,some ⟨23,[.osl 1]⟩],[some ⟨65,8,List.map Side.row x49⟩,some ⟨78,5,List.map Mail.row x50⟩]⟩:St)) (Zch x1) r ?_ fun J1=>?_
  ·rintro ⟨x48,x49,x50⟩ h;rw [Zch] at h;(try dsimp only);refine Zo2 7 ?_;dsimp only [go_sem];refine An ?_;refine Zh4 (fun (x51:Bool)=>(⟨(.any :: .ptr 0 0 :: .ptr 1 0::an 3 (.ptr 2 0::an 89 (.bv x51::an 15 []))),[some ⟨70,[.iv x1.ID,.iv x1.Phase,.osl 0]⟩,some ⟨70,[.iv 0,.iv 0,.nl]⟩,some ⟨23,[.osl 1]⟩],[some ⟨65,8,List.map Side.row x49⟩,some ⟨78,5,List.map Mail.row x50⟩]⟩:St)) (Zbh x1 x49 x50) r ?_ fun J7=>?_
   ·intro x51 h;rw [Zbh] at h;(try dsimp only);refine Zh4 (fun ((x65,x66):(Int×(List Side)))=>(⟨(.any :: .ptr 0 0 :: .ptr 1 0::an 3 (.ptr 2 0::an 105 [])),[some ⟨70,[.iv x1.ID,.iv x65,.osl 0]⟩,some ⟨70,[.iv 0,.iv 0,.nl]⟩,some ⟨23,[.osl 1]⟩],[some ⟨65,8,List.map Side.row x66⟩,some ⟨78,5,List.map Mail.row x50⟩]⟩:St)) (Z9h x1 x50) r ?_ fun J8=>?_
    ·rintro ⟨x65,x66⟩ h;rw [Z9h] at h;(try dsimp only);refine Zo2 1 ?_;dsimp only [go_sem];refine An ?_;refine Zj3 (by kernel_rfl) fun all hall hs hnap haf=>?_;dsimp only [go_sem];refine Zv3 0 1 rfl ?_ ?_
     ·refine Zz3 hall rfl trivial ?_;dsimp only [go_sem];refine Zv3 1 2 rfl ?_ ?_
      ·refine Zz3 hall rfl trivial ?_;dsimp only [go_sem];refine Zu3 2 rfl ?_;refine Zz3 hall rfl trivial ?_;dsimp only [go_sem];refine Z75 hall hs haf hnap 2 0 ?_;dsimp only [go_sem];refine An ?_;refine Zt3 rfl ?_ _;refine Zb3 0 rfl ?_;dsimp only [go_sem];refine Zb3 1 rfl ?_;dsimp only [go_sem];exact Zr4 (res:=fun (r:(Diner×(List Mail)×Int))=>.tup [.agg (Diner.row r.1),.sl 5 (List.map Mail.row r.2.1),.iv r.2.2]) ok99 h
      ·refine Zz3 hall rfl trivial ?_;dsimp only [go_sem];refine Zu3 1 rfl ?_;refine Zz3 hall rfl trivial ?_;dsimp only [go_sem];refine Z75 hall hs haf hnap 2 0 ?_;dsimp only [go_sem];refine An ?_;refine Zt3 rfl ?_ _;refine Zb3 0 rfl ?_;dsimp only [go_sem];refine Zb3 1 rfl ?_;dsimp only [go_sem];exact Zr4 (res:=fun (r:(Diner×(List Mail)×Int))=>.tup [.agg (Diner.row r.1),.sl 5 (List.map Mail.row r.2.1),.iv r.2.2]) ok99 h
     ·refine Zz3 hall rfl trivial ?_;dsimp only [go_sem];refine Zu3 0 rfl ?_;refine Zz3 hall rfl trivial ?_;dsimp only [go_sem];refine Zu3 2 rfl ?_;refine Zz3 hall rfl trivial ?_;dsimp only [go_sem];refine Z75 hall hs haf hnap 2 0 ?_;dsimp only [go_sem];refine An ?_;refine Zt3 rfl ?_ _;refine Zb3 0 rfl ?_;dsimp only [go_sem];refine Zb3 1 rfl ?_;dsimp only [go_sem];exact Zr4 (res:=fun (r:(Diner×(List Mail)×Int))=>.tup [.agg (Diner.row r.1),.sl 5 (List.map Mail.row r.2.1),.iv r.2.2]) ok99 h
    ·refine Zj4 h rfl (fun _ h=>?_) fun _ h=>?_
     ·refine Zo2 13 ?_;dsimp only [go_sem];refine An ?_;refine Zi4 h (fun ((x55,x56):(Int×(List Side)))=>(⟨(.any :: .ptr 0 0 :: .ptr 1 0::an 3 (.ptr 2 0::an 93 (.iv (ln Side.row x49) :: .iv x55::an 10 []))),[some ⟨70,[.iv x1.ID,.iv 2,.osl 0]⟩,some ⟨70,[.iv 0,.iv 0,.nl]⟩,some ⟨23,[.osl 1]⟩],[some ⟨65,8,List.map Side.row x56⟩,some ⟨78,5,List.map Mail.row x50⟩]⟩:St)) (by simp [go_sem]) (by rintro ⟨x55,x56⟩;first | rfl | simp [go_sem]) ?_;rintro n1 ⟨x55,x56⟩ y1 h hin1 hout1;rw [Zah] at h;(try dsimp only);refine Zo2 5 ?_
      dsimp only [go_sem];refine An ?_;refine Zj4 h rfl (fun _ h=>?_) fun _ h=>?_
      ·refine Zo2 12 ?_;dsimp only [go_sem];refine An ?_;obtain ⟨x57,ex57,h⟩:=Bs h;refine Za5 Side.row ex57 trivial rfl rfl rfl ?_;refine Zo2 1 ?_;dsimp only [go_sem];refine An ?_;refine Zf5 [.bv true] Side.row (y':=(Side.mk x57.Peer x57.Epoch x57.State x57.Fork true x57.Token x57.Bottle x57.Ask)) ex57 trivial rfl rfl rfl (by first | exact Z94 _ | simp [go_sem]) rfl rfl rfl rfl ?_;refine Zo2 6 ?_;dsimp only [go_sem];refine An ?_;exact Zs4 h hin1
      ·refine Zo2 1 ?_;dsimp only [go_sem];refine An ?_;exact Zt4 J8 (s:=(2,x56)) (Zg4 h hout1)
     ·refine Zo2 1 ?_;dsimp only [go_sem];refine An ?_;exact Zt4 J8 (s:=(x1.Phase,x49)) h
   ·refine Zq4 94 h rfl (fun _ h=>?_) fun _ h=>?_
    ·dsimp only [go_sem];refine Zo2 3 ?_;dsimp only [go_sem];refine An ?_;exact Zt4 J7 (s:=x48) h
    ·dsimp only [go_sem];refine Zo2 3 ?_;dsimp only [go_sem];refine An ?_;exact Zt4 J7 (s:=false) h
  ·refine Zo2 1 ?_;dsimp only [go_sem];refine An ?_;refine V_ownB 2 0 78 5 rfl rfl rfl ?_;dsimp only [go_sem];refine Zi4 h (fun ((x20,x21,x22,x23):(Bool×Int×(List Side)×(List Mail)))=>(⟨(.any :: .ptr 0 0 :: .ptr 1 0::an 3 (.ptr 2 0 :: .bv x20::an 16 (.iv (ln Side.row x3) :: .iv x21::an 86 []))),[some ⟨70,[.iv x1.ID,.iv x1.Phase,.osl 0]⟩,some ⟨70,[.iv 0,.iv 0,.nl]⟩,some ⟨23,[.osl 1]⟩],[some ⟨65,8,List.map Side.row x22⟩,some ⟨78,5,List.map Mail.row x23⟩]⟩:St)) (by simp [go_sem]) (by rintro ⟨x20,x21,x22,x23⟩;first | rfl | simp [go_sem]) ?_
   rintro n1 ⟨x20,x21,x22,x23⟩ y1 h hin1 hout1;rw [Zih] at h;(try dsimp only);refine Zo2 5 ?_;dsimp only [go_sem];refine An ?_;refine Zj4 h rfl (fun _ h=>?_) fun _ h=>?_
   ·refine Zo2 13 ?_;dsimp only [go_sem];refine An ?_;obtain ⟨x24,ex24,h⟩:=Bs h;refine Za5 Side.row ex24 trivial rfl rfl rfl ?_;refine Zo2 14 ?_;dsimp only [go_sem];refine An ?_;refine Zb5 Side.row ex24 trivial rfl rfl rfl ?_;refine Zo2 1 ?_;dsimp only [go_sem];refine An ?_
    refine Zh4 (fun (x25:Bool)=>(⟨(.any :: .ptr 0 0 :: .ptr 1 0::an 3 (.ptr 2 0 :: .bv x20 :: .any :: .ptr 3 0 :: .clo 121 [.ptr 2 0,.ptr 0 0,.ptr 3 0]::an 13 (.iv (ln Side.row x3) :: .iv x21::an 27 (.bv x25::an 58 [])))),[some ⟨70,[.iv x1.ID,.iv x1.Phase,.osl 0]⟩,some ⟨70,[.iv 0,.iv 0,.nl]⟩,some ⟨23,[.osl 1]⟩,some ⟨141,[.oel 0 ((x21).toNat*8) 0]⟩],[some ⟨65,8,List.map Side.row x22⟩,some ⟨78,5,List.map Mail.row x23⟩]⟩:St)) (Zhh x1 x20 x21 x22 x23 x24) y1 ?_ fun J2=>?_
    ·intro x25 h;rw [Zhh] at h;(try dsimp only);refine Zh4 (fun ((x27,x28):((List Side)×(List Mail)))=>(⟨(.any :: .ptr 0 0 :: .ptr 1 0::an 3 (.ptr 2 0 :: .bv x20 :: .any :: .ptr 3 0 :: .clo 121 [.ptr 2 0,.ptr 0 0,.ptr 3 0]::an 13 (.iv (ln Side.row x3) :: .iv x21::an 86 []))),[some ⟨70,[.iv x1.ID,.iv x1.Phase,.osl 0]⟩,some ⟨70,[.iv 0,.iv 0,.nl]⟩,some ⟨23,[.osl 1]⟩,some ⟨141,[.oel 0 ((x21).toNat*8) 0]⟩],[some ⟨65,8,List.map Side.row x27⟩,some ⟨78,5,List.map Mail.row x28⟩]⟩:St)) (Zgh x1 x20 x21) y1 ?_ fun J3=>?_
     ·rintro ⟨x27,x28⟩ h;rw [Zgh] at h;(try dsimp only);refine Zo2 7 ?_;dsimp only [go_sem];refine An ?_
      refine Zh4 (fun (x30:Bool)=>(⟨(.any :: .ptr 0 0 :: .ptr 1 0::an 3 (.ptr 2 0 :: .bv x20 :: .any :: .ptr 3 0 :: .clo 121 [.ptr 2 0,.ptr 0 0,.ptr 3 0]::an 13 (.iv (ln Side.row x3) :: .iv x21::an 51 (.bv x30::an 34 [])))),[some ⟨70,[.iv x1.ID,.iv x1.Phase,.osl 0]⟩,some ⟨70,[.iv 0,.iv 0,.nl]⟩,some ⟨23,[.osl 1]⟩,some ⟨141,[.oel 0 ((x21).toNat*8) 0]⟩],[some ⟨65,8,List.map Side.row x27⟩,some ⟨78,5,List.map Mail.row x28⟩]⟩:St)) (Zfh x1 x20 x21 x27 x28) y1 ?_ fun J4=>?_
      ·intro x30 h;rw [Zfh] at h;(try dsimp only);refine Zh4 (fun ((x33,x34):((List Side)×(List Mail)))=>(⟨(.any :: .ptr 0 0 :: .ptr 1 0::an 3 (.ptr 2 0 :: .bv x20 :: .any :: .ptr 3 0::an 14 (.iv (ln Side.row x3) :: .iv x21::an 86 []))),[some ⟨70,[.iv x1.ID,.iv x1.Phase,.osl 0]⟩,some ⟨70,[.iv 0,.iv 0,.nl]⟩,some ⟨23,[.osl 1]⟩,some ⟨141,[.oel 0 ((x21).toNat*8) 0]⟩],[some ⟨65,8,List.map Side.row x33⟩,some ⟨78,5,List.map Mail.row x34⟩]⟩:St)) (Zeh x20 x21) y1 ?_ fun J5=>?_
       ·rintro ⟨x33,x34⟩ h;rw [Zeh] at h;(try dsimp only);refine Zo2 3 ?_;dsimp only [go_sem];refine An ?_;refine Zh4 (fun (x36:Bool)=>(⟨(.any :: .ptr 0 0 :: .ptr 1 0::an 3 (.ptr 2 0 :: .bv x36::an 16 (.iv (ln Side.row x3) :: .iv x21::an 86 []))),[some ⟨70,[.iv x1.ID,.iv x1.Phase,.osl 0]⟩,some ⟨70,[.iv 0,.iv 0,.nl]⟩,some ⟨23,[.osl 1]⟩],[some ⟨65,8,List.map Side.row x33⟩,some ⟨78,5,List.map Mail.row x34⟩]⟩:St)) (Zdh x21 x33 x34) y1 ?_ fun J6=>?_
        ·intro x36 h;rw [Zdh] at h;(try dsimp only);refine Zo2 5 ?_;dsimp only [go_sem];refine An ?_;exact Zs4 h hin1
        ·refine Zq4 84 h rfl (fun _ h=>?_) fun _ h=>?_
         ·dsimp only [go_sem];refine Zo2 3 ?_;dsimp only [go_sem];refine An ?_;obtain ⟨x35,ex35,h⟩:=Bs h;refine Zb5 Side.row ex35 trivial rfl rfl rfl ?_;refine Zo2 3 ?_;dsimp only [go_sem];refine An ?_;exact Zt4 J6 (s:=x35.Fork) h
         ·dsimp only [go_sem];refine Zo2 7 ?_;dsimp only [go_sem];refine An ?_;exact Zt4 J6 (s:=false) h
       ·refine Zj4 h rfl (fun _ h=>?_) fun _ h=>?_
        ·refine Zo2 5 ?_;dsimp only [go_sem];refine An ?_;obtain ⟨x31,ex31,h⟩:=Bs h;refine Zf5 [.bv false] Side.row (y':=(Side.mk x31.Peer x31.Epoch x31.State x31.Fork x31.Dirty false x31.Bottle x31.Ask)) ex31 trivial rfl rfl rfl (by first | exact Z94 _ | simp [go_sem]) rfl rfl rfl rfl ?_;refine Zo2 3 ?_;dsimp only [go_sem];refine An ?_;obtain ⟨x32,ex32,h⟩:=Bs h
         refine Zm5 [true,false,true,true] [true,true] trivial rfl (Z8h 2 x1.ID x1.Phase x21 (x27.set (x21).toNat ((Side.mk x31.Peer x31.Epoch x31.State x31.Fork x31.Dirty false x31.Bottle x31.Ask))) x28 _ ex32) (by kernel_rfl) (h:=?_);dsimp only [go_sem];refine Zo2 1 ?_;dsimp only [go_sem];refine An ?_;refine Z54 3 1 rfl rfl rfl ?_;dsimp only [go_sem];exact Zt4 J5 (s:=((x27.set (x21).toNat ((Side.mk x31.Peer x31.Epoch x31.State x31.Fork x31.Dirty false x31.Bottle x31.Ask))),x32)) h
        ·refine Zo2 1 ?_;dsimp only [go_sem];refine An ?_;exact Zt4 J5 (s:=(x27,x28)) h
      ·refine Zq4 65 h rfl (fun _ h=>?_) fun _ h=>?_
       ·dsimp only [go_sem];refine Zo2 3 ?_;dsimp only [go_sem];refine An ?_;obtain ⟨x29,ex29,h⟩:=Bs h;refine Zb5 Side.row ex29 trivial rfl rfl rfl ?_;refine Zo2 2 ?_;dsimp only [go_sem];refine An ?_;refine Zq4 71 h rfl (fun _ h=>?_) fun _ h=>?_
        ·dsimp only [go_sem];refine Zo2 3 ?_;dsimp only [go_sem];refine An ?_;refine Zb5 Side.row ex29 trivial rfl rfl rfl ?_;refine Zo2 3 ?_;dsimp only [go_sem];refine An ?_;exact Zt4 J4 (s:=!x29.Fork) h
        ·dsimp only [go_sem];refine Zo2 7 ?_;dsimp only [go_sem];refine An ?_;exact Zt4 J4 (s:=false) h
       ·dsimp only [go_sem];refine Zo2 13 ?_;dsimp only [go_sem];refine An ?_;exact Zt4 J4 (s:=false) h
     ·refine Zj4 h rfl (fun _ h=>?_) fun _ h=>?_
      ·refine Zo2 1 ?_;dsimp only [go_sem];refine An ?_;refine Zj3 (by kernel_rfl) fun all hall hs hnap haf=>?_;dsimp only [go_sem];refine Zv3 0 1 rfl ?_ ?_
       ·refine Zz3 hall rfl trivial ?_;dsimp only [go_sem];refine Z75 hall hs haf hnap 2 5 ?_;dsimp only [go_sem];refine An ?_;refine Zv3 1 4 rfl ?_ ?_
        ·refine Zz3 hall rfl trivial ?_;dsimp only [go_sem];refine Zu3 4 rfl ?_;refine Zo5 hall [.bv false] Side.row (y':=(Side.mk x24.Peer x24.Epoch x24.State false x24.Dirty x24.Token x24.Bottle x24.Ask)) ex24 rfl trivial rfl rfl rfl (by first | exact Z94 _ | simp [go_sem]) rfl rfl rfl rfl ?_;dsimp only [go_sem];refine Z75 hall hs haf hnap 2 1 ?_;dsimp only [go_sem];refine An ?_;refine Zu3 7 rfl ?_
         refine Zp5 hall [.bv false] Side.row (y':=(Side.mk x24.Peer x24.Epoch x24.State false false x24.Token x24.Bottle x24.Ask)) (at_set ex24) rfl trivial rfl rfl rfl (by first | exact Z94 _ | simp [go_sem]) rfl rfl rfl rfl ?_;dsimp only [go_sem];refine Zt3 rfl ?_ _;refine Zo2 2 ?_;dsimp only [go_sem];refine An ?_;obtain ⟨x26,ex26,h⟩:=Bs h
         refine Zm5 [true,false,true,true] [true,true] trivial rfl (Z8h 1 x1.ID x1.Phase x21 (x22.set (x21).toNat ((Side.mk x24.Peer x24.Epoch x24.State false false x24.Token x24.Bottle x24.Ask))) x23 _ ex26) (by kernel_rfl) (h:=?_);dsimp only [go_sem];refine Zo2 1 ?_;dsimp only [go_sem];refine An ?_;refine Z54 3 1 rfl rfl rfl ?_;dsimp only [go_sem];exact Zt4 J3 (s:=((x22.set (x21).toNat ((Side.mk x24.Peer x24.Epoch x24.State false false x24.Token x24.Bottle x24.Ask))),x26)) h
        ·refine Zo5 hall [.bv false] Side.row (y':=(Side.mk x24.Peer x24.Epoch x24.State false x24.Dirty x24.Token x24.Bottle x24.Ask)) ex24 rfl trivial rfl rfl rfl (by first | exact Z94 _ | simp [go_sem]) rfl rfl rfl rfl ?_;dsimp only [go_sem];refine Zu3 1 rfl ?_;refine Zz3 hall rfl trivial ?_;dsimp only [go_sem];refine Z75 hall hs haf hnap 2 1 ?_;dsimp only [go_sem];refine An ?_;refine Zu3 7 rfl ?_
         refine Zp5 hall [.bv false] Side.row (y':=(Side.mk x24.Peer x24.Epoch x24.State false false x24.Token x24.Bottle x24.Ask)) (at_set ex24) rfl trivial rfl rfl rfl (by first | exact Z94 _ | simp [go_sem]) rfl rfl rfl rfl ?_;dsimp only [go_sem];refine Zt3 rfl ?_ _;refine Zo2 2 ?_;dsimp only [go_sem];refine An ?_;obtain ⟨x26,ex26,h⟩:=Bs h
         refine Zm5 [true,false,true,true] [true,true] trivial rfl (Z8h 1 x1.ID x1.Phase x21 (x22.set (x21).toNat ((Side.mk x24.Peer x24.Epoch x24.State false false x24.Token x24.Bottle x24.Ask))) x23 _ ex26) (by kernel_rfl) (h:=?_);dsimp only [go_sem];refine Zo2 1 ?_;dsimp only [go_sem];refine An ?_;refine Z54 3 1 rfl rfl rfl ?_;dsimp only [go_sem];exact Zt4 J3 (s:=((x22.set (x21).toNat ((Side.mk x24.Peer x24.Epoch x24.State false false x24.Token x24.Bottle x24.Ask))),x26)) h
       ·refine Zz3 hall rfl trivial ?_;dsimp only [go_sem];refine Zu3 0 rfl ?_;refine Zz3 hall rfl trivial ?_;dsimp only [go_sem];refine Z75 hall hs haf hnap 2 4 ?_;dsimp only [go_sem];refine An ?_;refine Zu3 4 rfl ?_;refine Zo5 hall [.bv false] Side.row (y':=(Side.mk x24.Peer x24.Epoch x24.State false x24.Dirty x24.Token x24.Bottle x24.Ask)) ex24 rfl trivial rfl rfl rfl (by first | exact Z94 _ | simp [go_sem]) rfl rfl rfl rfl ?_;dsimp only [go_sem];refine Z75 hall hs haf hnap 2 1 ?_;dsimp only [go_sem];refine An ?_;refine Zu3 7 rfl ?_
        refine Zp5 hall [.bv false] Side.row (y':=(Side.mk x24.Peer x24.Epoch x24.State false false x24.Token x24.Bottle x24.Ask)) (at_set ex24) rfl trivial rfl rfl rfl (by first | exact Z94 _ | simp [go_sem]) rfl rfl rfl rfl ?_;dsimp only [go_sem];refine Zt3 rfl ?_ _;refine Zo2 2 ?_;dsimp only [go_sem];refine An ?_;obtain ⟨x26,ex26,h⟩:=Bs h
        refine Zm5 [true,false,true,true] [true,true] trivial rfl (Z8h 1 x1.ID x1.Phase x21 (x22.set (x21).toNat ((Side.mk x24.Peer x24.Epoch x24.State false false x24.Token x24.Bottle x24.Ask))) x23 _ ex26) (by kernel_rfl) (h:=?_);dsimp only [go_sem];refine Zo2 1 ?_;dsimp only [go_sem];refine An ?_;refine Z54 3 1 rfl rfl rfl ?_;dsimp only [go_sem];exact Zt4 J3 (s:=((x22.set (x21).toNat ((Side.mk x24.Peer x24.Epoch x24.State false false x24.Token x24.Bottle x24.Ask))),x26)) h
      ·refine Zo2 1 ?_;dsimp only [go_sem];refine An ?_;exact Zt4 J3 (s:=(x22,x23)) h
    ·refine Zq4 37 h rfl (fun _ h=>?_) fun _ h=>?_
     ·dsimp only [go_sem];refine Zo2 3 ?_;dsimp only [go_sem];refine An ?_;refine Zb5 Side.row ex24 trivial rfl rfl rfl ?_;refine Zo2 2 ?_;dsimp only [go_sem];refine An ?_;refine Zq4 43 h rfl (fun _ h=>?_) fun _ h=>?_
      ·dsimp only [go_sem];refine Zo2 3 ?_;dsimp only [go_sem];refine An ?_;refine Zb5 Side.row ex24 trivial rfl rfl rfl ?_;refine Zo2 2 ?_;dsimp only [go_sem];refine An ?_;refine Zq4 49 h rfl (fun _ h=>?_) fun _ h=>?_
       ·dsimp only [go_sem];refine Zo2 5 ?_;dsimp only [go_sem];refine An ?_;exact Zt4 J2 (s:=!decide (x1.Phase=2)) h
       ·dsimp only [go_sem];refine Zo2 5 ?_;dsimp only [go_sem];refine An ?_;exact Zt4 J2 (s:=false) h
      ·dsimp only [go_sem];refine Zo2 11 ?_;dsimp only [go_sem];refine An ?_;exact Zt4 J2 (s:=false) h
     ·dsimp only [go_sem];refine Zo2 17 ?_;dsimp only [go_sem];refine An ?_;exact Zt4 J2 (s:=false) h
   ·refine Zo2 1 ?_;dsimp only [go_sem];refine An ?_;exact Zt4 J1 (s:=(x20,x22,x23)) (Zg4 h hout1)
theorem s_send (k id ph:Int) (a b:List Side) (x:Side) (E:List Mail) (hE:E.length≤1000000):Z7h k id ph (a.length:Int) (a++x::b) E=some (E++[⟨id,x.Peer,⟨k,x.Epoch,0⟩⟩]):=by
 simp only [Z7h]
 rw [at_mid rfl,Option.bind_some,Zz5 _ _ (by omega) (by simp;omega),Option.bind_some]
theorem fire_step (d:Diner) (l:List Side) (hl:l.length<64) (pre post:List Side) (x:Side) (h:l=pre++x::post) (all:Bool) (A:List Side) (hA:A.length=pre.length) (E:List Mail) (hE:E.length≤1000):
  Zih d l (all,(pre.length:Int),A++x::post,E)=some (.inl (all&&(Zua d.Phase x).Fork,((pre.length+1:Nat):Int),A++Zua d.Phase x::post,E++Zva d.ID d.Phase x)):=by
 have hx:=Zn7 h
 have hm:=Zo7 h
 have at1:∀y:Side,at_ (A++y::post) (pre.length:Int)=some y:=fun y=>by rw [←hA];exact at_mid rfl
 have st1:∀y z:Side,(A++y::post).set ((pre.length:Int)).toNat z=A++z::post:=fun y z=>by rw [←hA];exact Zq7 _ _ _ _
 have sd:∀(k:Int) (y:Side) (E:List Mail),E.length≤1000000→Z7h k d.ID d.Phase (pre.length:Int) (A++y::post) E=some (E++[⟨d.ID,y.Peer,⟨k,y.Epoch,0⟩⟩]):=fun k y E hE=>by rw [←hA];exact s_send k d.ID d.Phase A post y E hE
 have fin:∀(y:Side) (E':List Mail),Zeh all (pre.length:Int) (A++y::post,E')=some (.inl (all&&y.Fork,((pre.length+1:Nat):Int),A++y::post,E')):=fun y E'=>by
  dsimp only [Zeh,Zdh]
  rw [at1,Z26 (by omega)]
  cases all<;>rfl
 have j3:∀(y:Side) (E':List Mail),E'.length≤100000→Zgh d all (pre.length:Int) (A++y::post,E') =
   if decide (d.Phase=1)&&(y.Token&&!y.Fork) then some (.inl (all&&y.Fork,((pre.length+1:Nat):Int),A++{y with Token:=false}::post,E'++[⟨d.ID,y.Peer,⟨2,y.Epoch,0⟩⟩])) else some (.inl (all&&y.Fork,((pre.length+1:Nat):Int),A++y::post,E')):=fun y E' hE'=>by
  dsimp only [Zgh]
  by_cases h1:d.Phase=1
  ·rw [decide_eq_true h1,Zu5,at1,Option.bind_some]
   cases ht:y.Token with
   | false=>dsimp only [Zfh];rw [Zv5,Zv5,fin];simp
   | true=>
     cases hf:y.Fork with
     | true=>dsimp only [Zfh];rw [Zu5,Bool.not_true,Zv5,fin];simp [hf]
     | false=>
       dsimp only [Zfh]
       rw [Zu5,Bool.not_false,Zu5,at1,Option.bind_some,st1,sd _ _ _ (by omega),Option.bind_some,fin]
       simp [hf]
  ·rw [decide_eq_false h1,Zv5];dsimp only [Zfh];rw [Zv5,fin];simp
 dsimp only [Zih]
 rw [Z06 hx,Zu5,at1,Option.bind_some]
 have j2:∀z:Bool,Zhh d all (pre.length:Int) (A++x::post) E x z=if z then Zgh d all (pre.length:Int) (A++{x with Fork:=false,Dirty:=false}::post,E++[⟨d.ID,x.Peer,⟨1,x.Epoch,0⟩⟩]) else Zgh d all (pre.length:Int) (A++x::post,E):=fun z=>by
  cases z with
  | false=>dsimp only [Zhh];rw [Zv5];rfl
  | true=>
    dsimp only [Zhh]
    rw [Zu5,st1,sd _ _ _ (by omega),Option.bind_some];rfl
 have e:ifb x.Fork (ifb x.Dirty (ifb x.Token (Zhh d all (pre.length:Int) (A++x::post) E x (!decide (d.Phase=2))) (Zhh d all (pre.length:Int) (A++x::post) E x false)) (Zhh d all (pre.length:Int) (A++x::post) E x false)) (Zhh d all (pre.length:Int) (A++x::post) E x false)
   =Zhh d all (pre.length:Int) (A++x::post) E x (x.Fork&&(x.Dirty&&(x.Token&&!decide (d.Phase=2)))):=by
  cases x.Fork<;>cases x.Dirty<;>cases x.Token<;>rfl
 rw [e,j2]
 cases hz:(x.Fork&&(x.Dirty&&(x.Token&&!decide (d.Phase=2)))) with
 | false=>
   rw [if_neg (by simp),j3 _ _ (by omega)]
   have f1:Zta d.Phase x=x:=by simp only [Zta,hz];rfl
   unfold Zua Zva
   rw [f1,hz]
   cases hq:(decide (d.Phase=1)&&(x.Token&&!x.Fork))<;>simp
 | true=>
   rw [if_pos rfl,j3 _ _ (by simp;omega)]
   have f1:Zta d.Phase x={x with Fork:=false,Dirty:=false}:=by simp only [Zta,hz];rfl
   unfold Zua Zva
   rw [f1,hz]
   cases hq:(decide (d.Phase=1)&&(x.Token&&!false))<;>simp_all
theorem s_Fire (d:Diner):Zjh d=some (if okD d then (Zxa d,Zya d,0) else (Zra,[],130)):=by
 simp only [Zjh,Zoa,Option.bind_some]
 cases h:okD d with
 | false=>rfl
 | true=>
   have hl:=Zqa h
   simp only [if_true,decide_true,Bool.not_true,Zv5,Zpa d.Sides (by omega),Option.bind_some]
   have key:=Zl7 d.Sides (Zih d d.Sides) (fun pre=>((pre.map (Zua d.Phase)).all (·.Fork),(pre.length:Int),pre.map (Zua d.Phase)++d.Sides.drop pre.length,pre.flatMap (Zva d.ID d.Phase))) (fun _ _=>some (Zxa d,Zya d,0)) (fun pre x post hp=>?_) ?_
   ·simpa using key
   ·left
    have hd:d.Sides.drop pre.length=x::post:=by rw [hp];simp
    have hd':d.Sides.drop (pre++[x]).length=post:=by rw [hp];simp
    have hm:=Zo7 hp
    have hE:=Zza pre d.ID d.Phase
    refine ⟨?_,rfl⟩
    rw [hd,hd',fire_step d d.Sides hl pre post x hp _ _ (by simp) _ (by omega),Zr7]
    simp
   ·have hE:=Zza d.Sides d.ID d.Phase
    dsimp only [Zih]
    rw [Z16,Zv5]
    simp only [List.drop_length,List.append_nil]
    dsimp only [Zch]
    by_cases h1:d.Phase=1
    ·rw [decide_eq_true h1,Zu5]
     dsimp only [Zbh]
     cases hall:(d.Sides.map (Zua d.Phase)).all (·.Fork) with
     | false=>
       rw [Zv5]
       unfold Zxa
       rw [hall,Bool.and_false]
       rfl
     | true=>
       rw [Zu5]
       generalize hS:d.Sides.map (Zua d.Phase)=S at hall
       have hSl:S.length<64:=by rw [←hS];simpa using hl
       have k2:=Zm7 S (Zah d S (d.Sides.flatMap (Zva d.ID d.Phase))) (fun pre=>((pre.length:Int),pre.map Zwa++S.drop pre.length)) (⟨d.ID,2,S.map Zwa⟩,d.Sides.flatMap (Zva d.ID d.Phase),0) (fun pre x post hp=>?_) ?_
       ·have k3:loop (Zah d S (d.Sides.flatMap (Zva d.ID d.Phase))) (0,S)=some (⟨d.ID,2,S.map Zwa⟩,d.Sides.flatMap (Zva d.ID d.Phase),0):=by simpa using k2
        rw [k3]
        unfold Zxa
        rw [hS,hall,decide_eq_true h1]
        rfl
       ·have hx:=Zn7 hp
        have hm:=Zo7 hp
        have hd:S.drop pre.length=x::post:=by rw [hp];simp
        have hd':S.drop (pre++[x]).length=post:=by rw [hp];simp
        dsimp only [Zah]
        have e1:((pre.length:Nat):Int)=(((pre.map Zwa).length:Nat):Int):=by simp
        rw [Z06 hx,Zu5,hd,hd',e1,at_mid rfl,Option.bind_some,Zq7,←e1,Zr7,Z26 (by omega)]
        simp [Zwa]
       ·dsimp only [Zah]
        rw [Z16,Zv5]
        simp [Z9h]
    ·rw [decide_eq_false h1,Zv5]
     dsimp only [Zbh]
     rw [Zv5]
     unfold Zxa
     rw [decide_eq_false h1,Bool.false_and]
     rfl
set_option maxRecDepth 100000
set_option maxHeartbeats 4000000
@[go_sem] def e82_L0:EC:=.seq (.reg [(Qa 18 (.bin .lss (.t 17) (.t 16)))]) (.seq (.ite (.t 18) (.skip) (.exit 0)) (.seq (.blk 1 (.seq (.reg [(Qm 19 17),(Qk 20 3 15 17),(Qe 21 3 20),(Qa 8 (.alloc 70 [.iv 0,.iv 0,.nl])),(Qm 7 19),(Qs 3 8 21)]) (.seq (.reg [(Qm 22 1),(Qm 23 7),(Qk 24 3 22 23),(Qe 25 3 24),(Qa 9 (.alloc 70 [.iv 0,.iv 0,.nl])),(Qs 3 9 25)]) (.seq (.reg [(Qm 26 2),(Qe 27 3 8),(Qe 28 3 9),(Qa 29 (.callv (.t 26) [(.t 27),(.t 28)])),(Qa 30 (.not (.t 29)))]) (.ite (.t 30) (.seq (.reg [(Qa 6 (.mv (.c .ff)))]) (.ret)) (.skip)))))) (.reg [(Qv 31 17 1),(Qm 17 31)])))
@[go_sem] def e82:EC:=.seq (.reg [(Qa 6 (.mv (.c .ff)))]) (.seq (.seq (.reg [(Qm 10 0),(Qa 11 (.len (.t 10))),(Qm 12 1),(Qa 13 (.len (.t 12))),(Qa 14 (.bin .neq (.t 11) (.t 13)))]) (.ite (.t 14) (.seq (.reg [(Qa 6 (.mv (.c .ff)))]) (.ret)) (.skip))) (.seq (.seq (.reg [(Qm 15 0),(Qa 16 (.len (.t 15))),(Qi 17 0)]) (.blk 0 (.loop e82_L0))) (.seq (.reg [(Qa 6 (.mv (.c .tt)))]) (.ret))))
theorem ok82:FnOK Tryz.prog 82 Tryz.f82 e82 [.t 6] 3 29:=⟨by kernel_rfl,⟨_,rfl,by kernel_rfl⟩,by kernel_rfl,by kernel_rfl⟩
noncomputable def Zkh:Unit→Option Bool
| ()=>
 some true
noncomputable def Zlh (x1:(List Diner)) (x2:(List Diner)) (p2:((Diner×Diner)→Option Bool)):Int→Option (Int ⊕ Bool)
| x7=>
 ifb (decide (x7<(ln Diner.row x1))) (
 (at_ x1 x7).bind fun x8=>
 (at_ x2 x7).bind fun x9=>
 (p2 (x8,x9)).bind fun x10=>
 ifb (!x10) (
 Option.map Sum.inr (some false)) (
 some (.inl (wr (x7+1))))) (
 Option.map Sum.inr (Zkh ()))
noncomputable def Zmh (x1:(List Diner)) (x2:(List Diner)) (p2:((Diner×Diner)→Option Bool)):Option Bool:=
 ifb (!decide ((ln Diner.row x1)=(ln Diner.row x2))) (
 some false) (
 loop (Zlh x1 x2 p2) 0)
theorem Znh (x1:(List Diner)) (x2:(List Diner)) (g2:Nat) (caps2:List AV) (p2:((Diner×Diner)→Option Bool)) (hc2:CloOK Tryz.prog g2 caps2 (fun z=>[.agg (Diner.row z.1),.agg (Diner.row z.2)]) p2 (fun z=>.bv z)) (r:Bool) (h:Zmh x1 x2 p2=some r):Zu2 Tryz.prog 82 [.sl 3 (List.map Diner.row x1),.sl 3 (List.map Diner.row x2),.clo g2 caps2] (.bv r):=by
 refine Zy2 ok82 rfl rfl fun w0 H0=>?_
 rw [Zmh] at h
 refine Zo2 13 ?_;dsimp only [go_sem];refine An ?_;refine Zj4 h rfl (fun _ h=>?_) fun _ h=>?_
 ·refine Zo2 4 ?_;dsimp only [go_sem];refine An ?_;exact Zr4 (res:=fun (r:Bool)=>.bv r) ok82 h
 ·refine Zo2 8 ?_;dsimp only [go_sem];refine An ?_;refine Zh4 (fun (_:Unit)=>(⟨(an 32 []),[],[]⟩:St)) Zkh r ?_ fun J1=>?_
  ·rintro ⟨⟩ h;rw [Zkh] at h;(try dsimp only);refine Zo2 4 ?_;dsimp only [go_sem];refine An ?_;exact Zr4 (res:=fun (r:Bool)=>.bv r) ok82 h
  ·refine Zo2 1 ?_;dsimp only [go_sem];refine An ?_;refine Zi4 h (fun (x7:Int)=>(⟨(.any :: .sl 3 (List.map Diner.row x2) :: .clo g2 caps2::an 12 (.sl 3 (List.map Diner.row x1) :: .iv (ln Diner.row x1) :: .iv x7::an 14 [])),[],[]⟩:St)) (by simp [go_sem]) (by intro x7;first | rfl | simp [go_sem,Z84 _ hc2.pu]) ?_;rintro n1 x7 y1 h hin1 hout1;rw [Zlh] at h;(try dsimp only);refine Zo2 5 ?_;dsimp only [go_sem];refine An ?_;refine Zj4 h rfl (fun _ h=>?_) fun _ h=>?_
   ·refine Zo2 6 ?_;dsimp only [go_sem];refine An ?_;obtain ⟨x8,ex8,h⟩:=Bs h;refine Zm4 Diner.row ex8 trivial rfl rfl rfl ?_;refine Zo2 9 ?_;dsimp only [go_sem];refine An ?_;obtain ⟨x9,ex9,h⟩:=Bs h;refine Zm4 Diner.row ex9 trivial rfl rfl rfl ?_;refine Zo2 9 ?_;dsimp only [go_sem];refine An ?_;obtain ⟨x10,ex10,h⟩:=Bs h;refine Zw4 trivial rfl hc2 (x:=(x8,x9)) ex10 (by first | exact Z94 _ | simp [go_sem]) (by first | rfl | simp [go_sem,hc2.pu]) ?_;refine Zo2 2 ?_;dsimp only [go_sem];refine An ?_
    refine Zj4 h rfl (fun _ h=>?_) fun _ h=>?_
    ·refine Zo2 4 ?_;dsimp only [go_sem];refine An ?_;exact Zr4 (res:=fun (r:Bool)=>.bv r) ok82 (Zg4 h hout1)
    ·refine Zo2 6 ?_;dsimp only [go_sem];refine An ?_;exact Zs4 h hin1 (hok:=by first | rfl | simp [go_sem,Z84 _ hc2.pu])
   ·refine Zo2 1 ?_;dsimp only [go_sem];refine An ?_;exact Zt4 J1 (s:=()) (Zg4 h hout1) (hok:=by first | rfl | simp [go_sem,Z84 _ hc2.pu])
set_option maxRecDepth 100000
set_option maxHeartbeats 4000000
@[go_sem] def e83:EC:=.seq (.reg [(Qx 2 70 3 0),(Qx 3 70 3 1),(Qa 4 (.mv (.c .ff)))]) (.seq (.reg [(Qf 5 0 2),(Ql 6 5),(Qf 7 0 3),(Ql 8 7),(Qa 9 (.bin .eql (.t 6) (.t 8))),(Qm 10 9),(Qh 11 10 true 1 2),(Qn 12 10 true 11),(Qh 13 10 true 1 3),(Qn 14 10 true 13),(Qg 15 10 true (.bin .eql (.t 12) (.t 14))),(Qp 16 10 15),(Qm 17 16),(Qh 18 17 true 2 2),(Qn 19 17 true 18),(Qh 20 17 true 2 3),(Qn 21 17 true 20),(Qg 22 17 true (.call 84 [(.t 19),(.t 21)])),(Qp 23 17 22),(Qm 4 23)]) (.ret))
theorem ok83:FnOK Tryz.prog 83 Tryz.f83 e83 [.t 4] 2 22:=⟨by kernel_rfl,⟨_,rfl,by kernel_rfl⟩,by kernel_rfl,by kernel_rfl⟩
noncomputable def Zoh:Bool→Option Bool
| x4=>
 some x4
noncomputable def Zph (x1:Diner) (x2:Diner):Option Bool:=
 ifb (decide (x1.ID=x2.ID)) (
 ifb (decide (x1.Phase=x2.Phase)) (
 (Zs5 x1.Sides x2.Sides).bind fun x3=>
 Zoh x3) (
 Zoh false)) (
 Zoh false)
theorem Zqh (x1:Diner) (x2:Diner) (r:Bool) (h:Zph x1 x2=some r):Zu2 Tryz.prog 83 [.agg (Diner.row x1),.agg (Diner.row x2)] (.bv r):=by
 refine Zy2 ok83 rfl rfl fun w0 H0=>?_
 rw [Zph] at h
 refine Zo2 14 ?_;dsimp only [go_sem];refine An ?_;refine Zh4 (fun (x4:Bool)=>(⟨(an 4 (.bv x4::an 19 [])),[],[]⟩:St)) Zoh r ?_ fun J1=>?_
 ·intro x4 h;rw [Zoh] at h;(try dsimp only);exact Zr4 (res:=fun (r:Bool)=>.bv r) ok83 h
 ·refine Zq4 10 h rfl (fun _ h=>?_) fun _ h=>?_
  ·dsimp only [go_sem];refine Zo2 7 ?_;dsimp only [go_sem];refine An ?_;refine Zq4 17 h rfl (fun _ h=>?_) fun _ h=>?_
   ·dsimp only [go_sem];refine Zo2 4 ?_;dsimp only [go_sem];refine An ?_;obtain ⟨x3,ex3,h⟩:=Bs h;refine Z33 trivial (Zt5 x1.Sides x2.Sides _ ex3) (h:=?_);refine Zo2 3 ?_;dsimp only [go_sem];refine An ?_;exact Zt4 J1 (s:=x3) h
   ·dsimp only [go_sem];refine Zo2 8 ?_;dsimp only [go_sem];refine An ?_;exact Zt4 J1 (s:=false) h
  ·dsimp only [go_sem];refine Zo2 15 ?_;dsimp only [go_sem];refine An ?_;exact Zt4 J1 (s:=false) h
set_option maxRecDepth 100000
set_option maxHeartbeats 4000000
@[go_sem] def e53:EC:=.seq (.reg [(Qa 4 (.mv (.c .ff)))]) (.seq (.reg [(Qm 5 0),(Qm 6 1),(Qa 7 (.call 82 [(.t 5),(.t 6),(.c (.clo 83 []))])),(Qm 4 7)]) (.ret))
theorem ok53:FnOK Tryz.prog 53 Tryz.f53 e53 [.t 4] 2 6:=⟨by kernel_rfl,⟨_,rfl,by kernel_rfl⟩,by kernel_rfl,by kernel_rfl⟩
noncomputable def Zrh (x1:(List Diner)) (x2:(List Diner)):Option Bool:=
 (Zmh x1 x2 ((fun z=>Zph z.1 z.2))).bind fun x3=>
 some x3
theorem k_place_Same (x1:(List Diner)) (x2:(List Diner)) (r:Bool) (h:Zrh x1 x2=some r):Zu2 Tryz.prog 53 [.sl 3 (List.map Diner.row x1),.sl 3 (List.map Diner.row x2)] (.bv r):=by
 refine Zy2 ok53 rfl rfl fun w0 H0=>?_
 rw [Zrh] at h
 refine Zo2 8 ?_;dsimp only [go_sem];refine An ?_;obtain ⟨x3,ex3,h⟩:=Bs h;refine Z33 trivial (Znh x1 x2 _ _ ((fun z=>Zph z.1 z.2)) ⟨by kernel_rfl,rfl,fun z r hz=>Zqh z.1 z.2 r hz⟩ _ ex3) (h:=?_);refine Zo2 2 ?_;dsimp only [go_sem];refine An ?_;exact Zr4 (res:=fun (r:Bool)=>.bv r) ok53 h
set_option maxRecDepth 100000
set_option maxHeartbeats 4000000
@[go_sem] def e35_L0:EC:=.seq (.seq (.reg [(Qm 7 4),(Qm 8 0),(Qa 9 (.len (.t 8))),(Qa 10 (.bin .lss (.t 7) (.t 9)))]) (.ite (.t 10) (.skip) (.exit 0))) (.seq (.blk 1 (.seq (.reg [(Qm 13 0),(Qm 14 4),(Qk 15 3 13 14),(Qe 16 3 15),(Qa 5 (.alloc 70 [.iv 0,.iv 0,.nl])),(Qs 3 5 16)]) (.seq (.reg [(Qa 17 (.bsl 65 8 0 [.iv 0,.iv 0,.iv 0,.ff,.ff,.ff,.ff,.ff] [])),(Qf 18 2 5),(Ql 19 18),(Qa 20 (.app 65 8 32 (.t 17) (.t 19))),(Qf 21 2 5),(Qs 1 21 20)]) (.reg [(Qm 22 3),(Qe 23 3 5),(Qa 24 (.bsl 70 3 1 [.iv 0,.iv 0,.nl] [(0,(.t 23))])),(Qa 25 (.app 70 3 40 (.t 22) (.t 24))),(Qm 3 25)])))) (.reg [(Qm 11 4),(Qv 12 11 1),(Qm 4 12)]))
@[go_sem] def e35:EC:=.seq (.reg [(Qa 2 (.mv (.c .nl)))]) (.seq (.reg [(Qa 6 (.bsl 70 3 0 [.iv 0,.iv 0,.nl] [])),(Qm 3 6)]) (.seq (.seq (.reg [(Qi 4 0)]) (.blk 0 (.loop e35_L0))) (.seq (.reg [(Qm 26 3),(Qm 2 26)]) (.ret))))
theorem ok35:FnOK Tryz.prog 35 Tryz.f35 e35 [.t 2] 1 26:=⟨by kernel_rfl,⟨_,rfl,by kernel_rfl⟩,by kernel_rfl,by kernel_rfl⟩
noncomputable def Zsh:(List Diner)→Option (List Diner)
| x17=>
 some x17
noncomputable def Zth (x1:(List Diner)):(Int×(List Diner))→Option ((Int×(List Diner)) ⊕ (List Diner))
| (x7,x8)=>
 ifb (decide (x7<(ln Diner.row x1))) (
 (at_ x1 x7).bind fun x9=>
 (Za4 32 (([]:List Side)) x9.Sides).bind fun x10=>
 (Za4 40 x8 ([(Diner.mk x9.ID x9.Phase x10)])).bind fun x11=>
 some (.inl (wr (x7+1),x11))) (
 Option.map Sum.inr (Zsh x8))
noncomputable def Zuh (x1:(List Diner)):Option (List Diner):=
 loop (Zth x1) (0,([]:List Diner))
theorem Zvh (x1:(List Diner)) (r:(List Diner)) (h:Zuh x1=some r):FunO Tryz.prog 35 [.sl 3 (List.map Diner.row x1)] 70 3 (List.map Diner.row r):=by
 refine Z55 ok35 rfl fun w0 H0=>?_
 rw [Zuh] at h
 refine Zo2 14 ?_;dsimp only [go_sem];refine An ?_;refine Zh4 (fun (x17:(List Diner))=>(⟨(an 3 (.osl 0::an 23 [])),[],[some ⟨70,3,List.map Diner.row x17⟩]⟩:St)) Zsh r ?_ fun J1=>?_
 ·intro x17 h;rw [Zsh] at h;(try dsimp only);refine Zo2 5 ?_;dsimp only [go_sem];refine An ?_;exact Z95 Diner.row ok35 h rfl rfl
 ·refine Zo2 1 ?_;dsimp only [go_sem];refine An ?_;refine Zi4 h (fun ((x7,x8):(Int×(List Diner)))=>(⟨(.sl 3 (List.map Diner.row x1) :: .any :: .any :: .osl 0 :: .iv x7::an 22 []),[],[some ⟨70,3,List.map Diner.row x8⟩]⟩:St)) (by simp [go_sem]) (by rintro ⟨x7,x8⟩;first | rfl | simp [go_sem]) ?_;rintro n1 ⟨x7,x8⟩ y1 h hin1 hout1;rw [Zth] at h;(try dsimp only);refine Zo2 8 ?_;dsimp only [go_sem];refine An ?_;refine Zj4 h rfl (fun _ h=>?_) fun _ h=>?_
  ·refine Zo2 7 ?_;dsimp only [go_sem];refine An ?_;obtain ⟨x9,ex9,h⟩:=Bs h;refine Zm4 Diner.row ex9 trivial rfl rfl rfl ?_;refine Zo2 9 ?_;dsimp only [go_sem];refine An ?_;obtain ⟨x10,ex10,h⟩:=Bs h;refine Zo4 Side.row ex10 trivial rfl rfl rfl ?_;refine Zo2 6 ?_;dsimp only [go_sem];refine An ?_;refine Zb3 2 rfl ?_;dsimp only [go_sem];refine Zo2 1 ?_;dsimp only [go_sem];refine An ?_;obtain ⟨x11,ex11,h⟩:=Bs h;refine Zo4 Diner.row ex11 trivial rfl rfl rfl ?_;refine Zo2 8 ?_;dsimp only [go_sem];refine An ?_;refine Z54 4 0 rfl rfl rfl ?_
   dsimp only [go_sem];exact Zs4 h hin1
  ·refine Zo2 1 ?_;dsimp only [go_sem];refine An ?_;exact Zt4 J1 (s:=x8) (Zg4 h hout1)
theorem Zwh (x1:(List Diner)) (r:(List Diner)) (h:Zuh x1=some r):Zu2 Tryz.prog 35 [.sl 3 (List.map Diner.row x1)] (.sl 3 (List.map Diner.row r)):=(Zvh x1 r h).sealed
theorem s_placeSame1 (a b:Diner) (hl:a.Sides.length≤1000000):Zph a b=some (decide (a=b)):=by
 obtain ⟨a1,a2,l⟩:=a
 obtain ⟨b1,b2,m⟩:=b
 dsimp only at hl
 simp only [Zph,Zoh,s_EqualSide l m hl,Diner.mk.injEq]
 by_cases h1:a1=b1<;>by_cases h2:a2=b2<;>simp [h1,h2]
theorem s_placeSame (l m:List Diner) (hl:Zv7 l):Zrh l m=some (decide (l=m)):=by
 simp only [Zrh,Zmh,ln_dec]
 by_cases h:l.length=m.length
 ·simp only [h,decide_true,Bool.not_true,Zv5]
  rw [Zt7 l m _ (fun x y=>decide (x=y)) h (by have:=hl.1;omega) (fun k x y hx hy=>by
   simp only [Zlh,Z06 hx,Zu5,Zy5 hx,Zy5 hy,Option.bind_some,s_placeSame1 x y (by have:=hl.2 x (List.mem_iff_getElem?.2 ⟨k,hx⟩);omega),Z36 hx (show l.length≤4000000000000000000 by have:=hl.1;omega),Zw5,Option.map_some]
   cases decide (x=y)<;>rfl) (by simp only [Zlh,Z16,Zv5,Zkh,Option.map_some]),Zu7 l m h]
  rfl
 ·simp [h,len_ne h]
theorem s_Own (l:List Diner) (hl:Zv7 l):Zuh l=some l:=by
 unfold Zuh
 refine Zm7 l _ (fun pre=>((pre.length:Int),pre)) l (fun pre x post h=>?_) ?_
 ·have hx:=Zn7 h
  have hm:=Zo7 h
  have h1:=hl.1
  have h2:=hl.2 x (Zp7 h)
  dsimp only [Zth]
  rw [Z06 hx,Zu5,Zy5 hx,Option.bind_some,Zz5 _ _ (by omega) (by simp;omega),Option.bind_some,Zz5 _ _ (by omega) (by simp;omega),Option.bind_some,Z26 (by omega),Zr7]
  rfl
 ·dsimp only [Zth]
  rw [Z16,Zv5];rfl
set_option maxRecDepth 100000
set_option maxHeartbeats 4000000
@[go_sem] def e71_L0:EC:=.seq (.reg [(Qa 48 (.bin .lss (.t 47) (.t 46)))]) (.seq (.ite (.t 48) (.skip) (.exit 0)) (.seq (.blk 1 (.seq (.reg [(Qk 49 3 45 47),(Qe 50 3 49),(Qa 13 (.alloc 70 [.iv 0,.iv 0,.nl])),(Qs 3 13 50)]) (.seq (.seq (.reg [(Qf 51 0 13),(Ql 52 51),(Qm 53 1),(Qa 54 (.bin .eql (.t 52) (.t 53)))]) (.ite (.t 54) (.reg [(Qe 55 3 8),(Qs 3 13 55)]) (.skip))) (.seq (.reg [(Qf 56 2 13),(Ql 57 56),(Qa 58 (.call 100 [(.t 57)])),(Qf 59 2 13),(Qs 1 59 58)]) (.reg [(Qf 60 0 11),(Ql 61 60),(Qe 62 3 13),(Qa 63 (.bsl 70 3 1 [.iv 0,.iv 0,.nl] [(0,(.t 62))])),(Qa 64 (.app 70 3 40 (.t 61) (.t 63))),(Qf 65 0 11),(Qs 1 65 64)]))))) (.reg [(Qv 66 47 1),(Qm 47 66)])))
@[go_sem] def e71:EC:=.seq (.reg [(Qx 3 25 2 0),(Qa 6 (.alloc 25 [.nl,.nl])),(Qi 7 0)]) (.seq (.reg [(Qm 15 2),(Qf 16 0 3),(Ql 17 16),(Qm 18 1),(Qk 19 3 17 18),(Qe 20 3 19),(Qa 21 (.callv (.t 15) [(.t 20)])),(Qm 14 21),(Qa 22 (.ext (.t 14) 0)),(Qa 23 (.ext (.t 14) 1)),(Qa 8 (.alloc 70 [.iv 0,.iv 0,.nl])),(Qs 3 8 22),(Qm 9 23)]) (.seq (.seq (.reg [(Qm 24 9),(Qa 25 (.bin .neq (.t 24) (.c (.iv 0))))]) (.ite (.t 25) (.seq (.reg [(Qa 26 (.build [.nl,.nl] [])),(Qm 27 9),(Qs 2 6 26),(Qm 7 27)]) (.ret)) (.skip))) (.seq (.reg [(Qe 29 3 8),(Qa 30 (.call 99 [(.t 29)])),(Qm 28 30),(Qa 31 (.ext (.t 28) 0)),(Qa 32 (.ext (.t 28) 1)),(Qa 33 (.ext (.t 28) 2)),(Qs 3 8 31),(Qm 10 32),(Qm 9 33)]) (.seq (.seq (.reg [(Qm 34 9),(Qa 35 (.bin .neq (.t 34) (.c (.iv 0))))]) (.ite (.t 35) (.seq (.reg [(Qa 36 (.build [.nl,.nl] [])),(Qm 37 9),(Qs 2 6 36),(Qm 7 37)]) (.ret)) (.skip))) (.seq (.reg [(Qf 38 1 3),(Ql 39 38),(Qm 40 10),(Qa 41 (.bsl 23 1 2 [.nl] [(0,(.t 39)),(1,(.t 40))])),(Qa 42 (.call 70 [(.t 41)])),(Qa 43 (.build [.nl,.nl] [(1,1,(.t 42))])),(Qa 11 (.alloc 25 [.nl,.nl])),(Qs 2 11 43)]) (.seq (.seq (.reg [(Qf 44 0 3),(Ql 45 44),(Qa 46 (.len (.t 45))),(Qi 47 0)]) (.blk 0 (.loop e71_L0))) (.seq (.reg [(Qe 67 2 11),(Qs 2 6 67),(Qi 7 0)]) (.ret))))))))
theorem ok71:FnOK Tryz.prog 71 Tryz.f71 e71 [.c 6 (some 2),.t 7] 3 65:=⟨by kernel_rfl,⟨_,rfl,by kernel_rfl⟩,by kernel_rfl,by kernel_rfl⟩
noncomputable def Zxh (x6:(List Mail)):(List Diner)→Option (Scene×Int)
| x28=>
 some ((Scene.mk x28 x6),0)
noncomputable def Zyh (x13:Int) (x14:(List Diner)):Diner→Option ((Int×(List Diner)) ⊕ (Scene×Int))
| x16=>
 (Zfa x16.Sides).bind fun x17=>
 (Za4 40 x14 ([(Diner.mk x16.ID x16.Phase x17)])).bind fun x18=>
 some (.inl (wr (x13+1),x18))
noncomputable def Zzh (x1:Scene) (x2:Int) (x5:(Diner×(List Mail)×Int)) (x6:(List Mail)):(Int×(List Diner))→Option ((Int×(List Diner)) ⊕ (Scene×Int))
| (x13,x14)=>
 ifb (decide (x13<(ln Diner.row x1.Diners))) (
 (at_ x1.Diners x13).bind fun x15=>
 ifb (decide (x15.ID=x2)) (
 (Zyh x13 x14) x5.1) (
 (Zyh x13 x14) x15)) (
 Option.map Sum.inr ((Zxh x6) x14))
noncomputable def Z0i (x1:Scene) (x2:Int) (p2:(Diner→Option (Diner×Int))):Option (Scene×Int):=
 (at_ x1.Diners x2).bind fun x3=>
 (p2 x3).bind fun x4=>
 ifb (!decide (x4.2=0)) (
 some ((Scene.mk (([]:(List Diner))) (([]:(List Mail)))),x4.2)) (
 (Zjh x4.1).bind fun x5=>
 ifb (!decide (x5.2.2=0)) (
 some ((Scene.mk (([]:(List Diner))) (([]:(List Mail)))),x5.2.2)) (
 (Z9c ([x1.Mail,x5.2.1])).bind fun x6=>
 loop (Zzh x1 x2 x5 x6) (0,([]:List Diner))))
theorem Z1i (x1:Scene) (x2:Int) (g2:Nat) (caps2:List AV) (p2:(Diner→Option (Diner×Int))) (hc2:CloOK Tryz.prog g2 caps2 (fun z=>[.agg (Diner.row z)]) p2 (fun z=>.tup [.agg (Diner.row z.1),.iv z.2])) (r:(Scene×Int)) (h:Z0i x1 x2 p2=some r):Zu2 Tryz.prog 71 [.agg (Scene.row x1),.iv x2,.clo g2 caps2] (.tup [.agg (Scene.row r.1),.iv r.2]):=by
 refine Zy2 ok71 rfl rfl fun w0 H0=>?_
 rw [Z0i] at h
 refine Zo2 12 ?_;dsimp only [go_sem];refine An ?_;obtain ⟨x3,ex3,h⟩:=Bs h;refine Zm4 Diner.row ex3 trivial rfl rfl rfl ?_;refine Zo2 1 ?_;dsimp only [go_sem];refine An ?_;obtain ⟨x4,ex4,h⟩:=Bs h;refine Zw4 trivial rfl hc2 (x:=x3) ex4 (by first | exact Z94 _ | simp [go_sem]) (by first | rfl | simp [go_sem,hc2.pu]) ?_;refine Zo2 13 ?_;dsimp only [go_sem];refine An ?_;refine Zj4 h rfl (fun _ h=>?_) fun _ h=>?_
 ·refine Zo2 7 ?_;dsimp only [go_sem];refine An ?_;exact Zr4 (res:=fun (r:(Scene×Int))=>.tup [.agg (Scene.row r.1),.iv r.2]) ok71 h
 ·refine Zo2 4 ?_;dsimp only [go_sem];refine An ?_;obtain ⟨x5,ex5,h⟩:=Bs h;refine Z33 trivial (k_dine_Fire x4.1 _ ex5) (hp:=(by first | rfl | simp [go_sem,hc2.pu])) (h:=?_);refine Zo2 14 ?_;dsimp only [go_sem];refine An ?_;refine Zj4 h rfl (fun _ h=>?_) fun _ h=>?_
  ·refine Zo2 7 ?_;dsimp only [go_sem];refine An ?_;exact Zr4 (res:=fun (r:(Scene×Int))=>.tup [.agg (Scene.row r.1),.iv r.2]) ok71 h
  ·refine Zo2 7 ?_;dsimp only [go_sem];refine An ?_;refine Zb3 0 rfl ?_;dsimp only [go_sem];obtain ⟨x6,ex6,h⟩:=Bs h;refine Z65 trivial (Zac ([x1.Mail,x5.2.1]) _ ex6) (hp:=(by first | rfl | simp [go_sem,hc2.pu])) (h:=?_);refine Zo2 12 ?_;dsimp only [go_sem];refine An ?_
   refine Zh4 (fun (x28:(List Diner))=>(⟨(an 6 (.ptr 1 0::an 4 (.ptr 3 0::an 56 []))),[none,some ⟨25,[.nl,.nl]⟩,none,some ⟨25,[.osl 2,.osl 1]⟩],[none,some ⟨78,5,List.map Mail.row x6⟩,some ⟨70,3,List.map Diner.row x28⟩]⟩:St)) (Zxh x6) r ?_ fun J1=>?_
   ·intro x28 h;rw [Zxh] at h;(try dsimp only);refine Zo2 6 ?_;dsimp only [go_sem];refine An ?_;refine Zb3 2 rfl ?_;dsimp only [go_sem];refine Zb3 1 rfl ?_;dsimp only [go_sem];exact Zr4 (res:=fun (r:(Scene×Int))=>.tup [.agg (Scene.row r.1),.iv r.2]) ok71 h
   ·refine Zo2 1 ?_;dsimp only [go_sem];refine An ?_;refine V_ownB 3 0 70 3 rfl rfl rfl ?_;dsimp only [go_sem]
    refine Zi4 h (fun ((x13,x14):(Int×(List Diner)))=>(⟨(.any :: .iv x2::an 4 (.ptr 1 0 :: .any :: .ptr 2 0 :: .any :: .any :: .ptr 3 0::an 33 (.sl 3 (List.map Diner.row x1.Diners) :: .iv (ln Diner.row x1.Diners) :: .iv x13::an 20 []))),[none,some ⟨25,[.nl,.nl]⟩,some ⟨70,[.iv x5.1.ID,.iv x5.1.Phase,.sl 8 (List.map Side.row x5.1.Sides)]⟩,some ⟨25,[.osl 2,.osl 1]⟩],[none,some ⟨78,5,List.map Mail.row x6⟩,some ⟨70,3,List.map Diner.row x14⟩]⟩:St)) (by simp [go_sem]) (by rintro ⟨x13,x14⟩;first | rfl | simp [go_sem,Z84 _ hc2.pu]) ?_
    rintro n1 ⟨x13,x14⟩ y1 h hin1 hout1;rw [Zzh] at h;(try dsimp only);refine Zo2 5 ?_;dsimp only [go_sem];refine An ?_;refine Zj4 h rfl (fun _ h=>?_) fun _ h=>?_
    ·refine Zo2 5 ?_;dsimp only [go_sem];refine An ?_;obtain ⟨x15,ex15,h⟩:=Bs h;refine Zm4 Diner.row ex15 trivial rfl rfl rfl ?_;refine Zo2 12 ?_;dsimp only [go_sem];refine An ?_
     refine Zh4 (fun (x16:Diner)=>(⟨(.any :: .iv x2::an 4 (.ptr 1 0 :: .any :: .ptr 2 0 :: .any :: .any :: .ptr 3 0 :: .any :: .ptr 4 0::an 31 (.sl 3 (List.map Diner.row x1.Diners) :: .iv (ln Diner.row x1.Diners) :: .iv x13::an 20 []))),[none,some ⟨25,[.nl,.nl]⟩,some ⟨70,[.iv x5.1.ID,.iv x5.1.Phase,.sl 8 (List.map Side.row x5.1.Sides)]⟩,some ⟨25,[.osl 2,.osl 1]⟩,some ⟨70,[.iv x16.ID,.iv x16.Phase,.sl 8 (List.map Side.row x16.Sides)]⟩],[none,some ⟨78,5,List.map Mail.row x6⟩,some ⟨70,3,List.map Diner.row x14⟩]⟩:St)) (Zyh x13 x14) y1 ?_ fun J2=>?_
     ·intro x16 h;rw [Zyh] at h;(try dsimp only);refine Zo2 4 ?_;dsimp only [go_sem];refine An ?_;obtain ⟨x17,ex17,h⟩:=Bs h;refine Z65 trivial (Zga x16.Sides _ ex17) (hp:=(by first | rfl | simp [go_sem,hc2.pu])) (h:=?_);refine Zo2 7 ?_;dsimp only [go_sem];refine An ?_;refine Zb3 3 rfl ?_;dsimp only [go_sem];refine Zo2 1 ?_;dsimp only [go_sem];refine An ?_;obtain ⟨x18,ex18,h⟩:=Bs h;refine Zo4 Diner.row ex18 trivial rfl rfl rfl ?_;refine Zo2 8 ?_;dsimp only [go_sem];refine An ?_;refine Z54 5 2 rfl rfl rfl ?_
      dsimp only [go_sem];exact Zs4 h hin1 (hok:=by first | rfl | simp [go_sem,Z84 _ hc2.pu])
     ·refine Zj4 h rfl (fun _ h=>?_) fun _ h=>?_
      ·refine Zo2 4 ?_;dsimp only [go_sem];refine An ?_;exact Zt4 J2 (s:=x5.1) h (hok:=by first | rfl | simp [go_sem,Z84 _ hc2.pu])
      ·refine Zo2 1 ?_;dsimp only [go_sem];refine An ?_;exact Zt4 J2 (s:=x15) h (hok:=by first | rfl | simp [go_sem,Z84 _ hc2.pu])
    ·refine Zo2 1 ?_;dsimp only [go_sem];refine An ?_;exact Zt4 J1 (s:=x14) (Zg4 h hout1) (hok:=by first | rfl | simp [go_sem,Z84 _ hc2.pu])
set_option maxRecDepth 100000
set_option maxHeartbeats 4000000
@[go_sem] def e66:EC:=.seq (.reg [(Qx 3 25 2 0),(Qa 6 (.alloc 25 [.nl,.nl])),(Qi 7 0)]) (.seq (.seq (.reg [(Qe 9 2 3),(Qa 10 (.call 12 [(.t 9)])),(Qm 8 10)]) (.seq (.reg [(Qm 11 8),(Qa 12 (.bin .neq (.t 11) (.c (.iv 0))))]) (.ite (.t 12) (.seq (.reg [(Qa 13 (.build [.nl,.nl] [])),(Qm 14 8),(Qs 2 6 13),(Qm 7 14)]) (.ret)) (.skip)))) (.seq (.seq (.reg [(Qe 15 2 3),(Qm 16 1),(Qa 17 (.call 49 [(.t 15),(.t 16)])),(Qa 18 (.not (.t 17)))]) (.ite (.t 18) (.seq (.reg [(Qa 19 (.build [.nl,.nl] [])),(Qs 2 6 19),(Qi 7 140)]) (.ret)) (.skip))) (.seq (.reg [(Qe 20 2 3),(Qm 21 1),(Qm 22 2),(Qa 23 (.call 71 [(.t 20),(.t 21),(.t 22)])),(Qa 24 (.ext (.t 23) 0)),(Qa 25 (.ext (.t 23) 1)),(Qs 2 6 24),(Qm 7 25)]) (.ret))))
theorem ok66:FnOK Tryz.prog 66 Tryz.f66 e66 [.c 6 (some 2),.t 7] 3 23:=⟨by kernel_rfl,⟨_,rfl,by kernel_rfl⟩,by kernel_rfl,by kernel_rfl⟩
noncomputable def Z2i (x1:Scene) (x2:Int) (p2:(Diner→Option (Diner×Int))):Option (Scene×Int):=
 (Zyb x1).bind fun x3=>
 ifb (!decide (x3=0)) (
 some ((Scene.mk (([]:(List Diner))) (([]:(List Mail)))),x3)) (
 (Zeb x1 x2).bind fun x4=>
 ifb (!x4) (
 some ((Scene.mk (([]:(List Diner))) (([]:(List Mail)))),140)) (
 (Z0i x1 x2 p2).bind fun x5=>
 some (x5.1,x5.2)))
theorem Z3i (x1:Scene) (x2:Int) (g2:Nat) (caps2:List AV) (p2:(Diner→Option (Diner×Int))) (hc2:CloOK Tryz.prog g2 caps2 (fun z=>[.agg (Diner.row z)]) p2 (fun z=>.tup [.agg (Diner.row z.1),.iv z.2])) (r:(Scene×Int)) (h:Z2i x1 x2 p2=some r):Zu2 Tryz.prog 66 [.agg (Scene.row x1),.iv x2,.clo g2 caps2] (.tup [.agg (Scene.row r.1),.iv r.2]):=by
 refine Zy2 ok66 rfl rfl fun w0 H0=>?_
 rw [Z2i] at h
 refine Zo2 10 ?_;dsimp only [go_sem];refine An ?_;obtain ⟨x3,ex3,h⟩:=Bs h;refine Z33 trivial (Zzb x1 _ ex3) (hp:=(by first | rfl | simp [go_sem,hc2.pu])) (h:=?_);refine Zo2 7 ?_;dsimp only [go_sem];refine An ?_;refine Zj4 h rfl (fun _ h=>?_) fun _ h=>?_
 ·refine Zo2 7 ?_;dsimp only [go_sem];refine An ?_;exact Zr4 (res:=fun (r:(Scene×Int))=>.tup [.agg (Scene.row r.1),.iv r.2]) ok66 h
 ·refine Zo2 6 ?_;dsimp only [go_sem];refine An ?_;obtain ⟨x4,ex4,h⟩:=Bs h;refine Z33 trivial (Zfb x1 x2 _ ex4) (hp:=(by first | rfl | simp [go_sem,hc2.pu])) (h:=?_);refine Zo2 2 ?_;dsimp only [go_sem];refine An ?_;refine Zj4 h rfl (fun _ h=>?_) fun _ h=>?_
  ·refine Zo2 6 ?_;dsimp only [go_sem];refine An ?_;exact Zr4 (res:=fun (r:(Scene×Int))=>.tup [.agg (Scene.row r.1),.iv r.2]) ok66 h
  ·refine Zo2 6 ?_;dsimp only [go_sem];refine An ?_;obtain ⟨x5,ex5,h⟩:=Bs h;refine Z33 trivial (Z1i x1 x2 _ _ p2 hc2 _ ex5) (hp:=(by first | rfl | simp [go_sem,hc2.pu])) (h:=?_);refine Zo2 5 ?_;dsimp only [go_sem];refine An ?_;exact Zr4 (res:=fun (r:(Scene×Int))=>.tup [.agg (Scene.row r.1),.iv r.2]) ok66 h
set_option maxRecDepth 100000
set_option maxHeartbeats 4000000
@[go_sem] def e32:EC:=.seq (.reg [(Qx 2 25 2 0),(Qa 4 (.alloc 25 [.nl,.nl])),(Qi 5 0)]) (.seq (.reg [(Qe 6 2 2),(Qm 7 1),(Qa 8 (.call 66 [(.t 6),(.t 7),(.c (.clo 67 []))])),(Qa 9 (.ext (.t 8) 0)),(Qa 10 (.ext (.t 8) 1)),(Qs 2 4 9),(Qm 5 10)]) (.ret))
theorem ok32:FnOK Tryz.prog 32 Tryz.f32 e32 [.c 4 (some 2),.t 5] 2 9:=⟨by kernel_rfl,⟨_,rfl,by kernel_rfl⟩,by kernel_rfl,by kernel_rfl⟩
noncomputable def Z4i (x1:Scene) (x2:Int):Option (Scene×Int):=
 (Z2i x1 x2 ((fun z=>Z4h z))).bind fun x3=>
 some (x3.1,x3.2)
theorem Z5i (x1:Scene) (x2:Int) (r:(Scene×Int)) (h:Z4i x1 x2=some r):Zu2 Tryz.prog 32 [.agg (Scene.row x1),.iv x2] (.tup [.agg (Scene.row r.1),.iv r.2]):=by
 refine Zy2 ok32 rfl rfl fun w0 H0=>?_
 rw [Z4i] at h
 refine Zo2 10 ?_;dsimp only [go_sem];refine An ?_;obtain ⟨x3,ex3,h⟩:=Bs h;refine Z33 trivial (Z3i x1 x2 _ _ ((fun z=>Z4h z)) ⟨by kernel_rfl,rfl,fun z r hz=>k_dine_Start z r hz⟩ _ ex3) (h:=?_);refine Zo2 5 ?_;dsimp only [go_sem];refine An ?_;exact Zr4 (res:=fun (r:(Scene×Int))=>.tup [.agg (Scene.row r.1),.iv r.2]) ok32 h
set_option maxRecDepth 100000
set_option maxHeartbeats 4000000
@[go_sem] def e34:EC:=.seq (.reg [(Qx 2 25 2 0),(Qa 4 (.alloc 25 [.nl,.nl])),(Qi 5 0)]) (.seq (.reg [(Qe 6 2 2),(Qm 7 1),(Qa 8 (.call 66 [(.t 6),(.t 7),(.c (.clo 74 []))])),(Qa 9 (.ext (.t 8) 0)),(Qa 10 (.ext (.t 8) 1)),(Qs 2 4 9),(Qm 5 10)]) (.ret))
theorem ok34:FnOK Tryz.prog 34 Tryz.f34 e34 [.c 4 (some 2),.t 5] 2 9:=⟨by kernel_rfl,⟨_,rfl,by kernel_rfl⟩,by kernel_rfl,by kernel_rfl⟩
noncomputable def Z6i (x1:Scene) (x2:Int):Option (Scene×Int):=
 (Z2i x1 x2 ((fun z=>Z5h z))).bind fun x3=>
 some (x3.1,x3.2)
theorem Z7i (x1:Scene) (x2:Int) (r:(Scene×Int)) (h:Z6i x1 x2=some r):Zu2 Tryz.prog 34 [.agg (Scene.row x1),.iv x2] (.tup [.agg (Scene.row r.1),.iv r.2]):=by
 refine Zy2 ok34 rfl rfl fun w0 H0=>?_
 rw [Z6i] at h
 refine Zo2 10 ?_;dsimp only [go_sem];refine An ?_;obtain ⟨x3,ex3,h⟩:=Bs h;refine Z33 trivial (Z3i x1 x2 _ _ ((fun z=>Z5h z)) ⟨by kernel_rfl,rfl,fun z r hz=>k_dine_Stop z r hz⟩ _ ex3) (h:=?_);refine Zo2 5 ?_;dsimp only [go_sem];refine An ?_;exact Zr4 (res:=fun (r:(Scene×Int))=>.tup [.agg (Scene.row r.1),.iv r.2]) ok34 h
set_option maxRecDepth 100000
set_option maxHeartbeats 4000000
@[go_sem] def e69:EC:=.seq (.reg [(Qx 3 78 5 0),(Qa 4 (.mv (.c .ff)))]) (.seq (.reg [(Qf 5 0 3),(Ql 6 5),(Ql 7 1),(Qa 8 (.bin .eql (.t 6) (.t 7))),(Qm 9 8),(Qh 10 9 true 1 3),(Qn 11 9 true 10),(Qn 12 9 true 2),(Qg 13 9 true (.bin .eql (.t 11) (.t 12))),(Qp 14 9 13),(Qm 4 14)]) (.ret))
theorem ok69:FnOK Tryz.prog 69 Tryz.f69 e69 [.t 4] 3 12:=⟨by kernel_rfl,⟨_,rfl,by kernel_rfl⟩,by kernel_rfl,by kernel_rfl⟩
noncomputable def Z8i:Bool→Option Bool
| x4=>
 some x4
noncomputable def Z9i (x1:Mail) (x2:Int) (x3:Int):Option Bool:=
 ifb (decide (x1.From=x2)) (
 Z8i (decide (x1.To=x3))) (
 Z8i false)
theorem Zai (x1:Mail) (x2:Int) (x3:Int) (r:Bool) (h:Z9i x1 x2 x3=some r):Zu2 Tryz.prog 69 [.agg (Mail.row x1),.elt (Zx4 x2) 0,.elt (Zx4 x3) 0] (.bv r):=by
 refine Zy2 ok69 rfl rfl fun w0 H0=>?_
 rw [Z9i] at h
 refine Zo2 12 ?_;dsimp only [go_sem];refine An ?_;refine Zh4 (fun (x4:Bool)=>(⟨(an 4 (.bv x4::an 10 [])),[],[]⟩:St)) Z8i r ?_ fun J1=>?_
 ·intro x4 h;rw [Z8i] at h;(try dsimp only);exact Zr4 (res:=fun (r:Bool)=>.bv r) ok69 h
 ·refine Zq4 9 h rfl (fun _ h=>?_) fun _ h=>?_
  ·dsimp only [go_sem];refine Zo2 7 ?_;dsimp only [go_sem];refine An ?_;exact Zt4 J1 (s:=decide (x1.To=x3)) h
  ·dsimp only [go_sem];refine Zo2 7 ?_;dsimp only [go_sem];refine An ?_;exact Zt4 J1 (s:=false) h
set_option maxRecDepth 100000
set_option maxHeartbeats 4000000
@[go_sem] def e72:EC:=.seq (.reg [(Qx 3 70 3 0),(Qa 4 (.alloc 70 [.iv 0,.iv 0,.nl])),(Qi 5 0)]) (.seq (.reg [(Qe 6 3 3),(Ql 7 1),(Qe 8 3 2),(Qa 9 (.call 73 [(.t 6),(.t 7),(.t 8)])),(Qa 10 (.ext (.t 9) 0)),(Qa 11 (.ext (.t 9) 1)),(Qs 3 4 10),(Qm 5 11)]) (.ret))
theorem ok72:FnOK Tryz.prog 72 Tryz.f72 e72 [.c 4 (some 3),.t 5] 3 9:=⟨by kernel_rfl,⟨_,rfl,by kernel_rfl⟩,by kernel_rfl,by kernel_rfl⟩
noncomputable def Zbi (x1:Diner) (x2:Int) (x3:Msg):Option (Diner×Int):=
 (Zka x1 x2 x3).bind fun x4=>
 some (x4.1,x4.2)
theorem Zci (x1:Diner) (x2:Int) (x3:Msg) (r:(Diner×Int)) (h:Zbi x1 x2 x3=some r):Zu2 Tryz.prog 72 [.agg (Diner.row x1),.elt (Zx4 x2) 0,.elt (Msg.row x3) 0] (.tup [.agg (Diner.row r.1),.iv r.2]):=by
 refine Zy2 ok72 rfl rfl fun w0 H0=>?_
 rw [Zbi] at h
 refine Zo2 11 ?_;dsimp only [go_sem];refine An ?_;obtain ⟨x4,ex4,h⟩:=Bs h;refine Z33 trivial (k_dine_Get x1 x2 x3 _ ex4) (h:=?_);refine Zo2 5 ?_;dsimp only [go_sem];refine An ?_;exact Zr4 (res:=fun (r:(Diner×Int))=>.tup [.agg (Diner.row r.1),.iv r.2]) ok72 h
set_option maxRecDepth 100000
set_option maxHeartbeats 4000000
@[go_sem] def e33:EC:=.seq (.reg [(Qx 3 25 2 0),(Qx 4 3 1 1),(Qx 5 3 1 2),(Qa 6 (.alloc 25 [.nl,.nl])),(Qi 7 0)]) (.seq (.seq (.reg [(Qe 11 2 3),(Qa 12 (.call 12 [(.t 11)])),(Qm 8 12)]) (.seq (.reg [(Qm 13 8),(Qa 14 (.bin .neq (.t 13) (.c (.iv 0))))]) (.ite (.t 14) (.seq (.reg [(Qa 15 (.build [.nl,.nl] [])),(Qm 16 8),(Qs 2 6 15),(Qm 7 16)]) (.ret)) (.skip)))) (.seq (.seq (.reg [(Qe 17 2 3),(Ql 18 4),(Qa 19 (.call 49 [(.t 17),(.t 18)])),(Qa 20 (.not (.t 19))),(Qm 21 20),(Qg 22 21 false (.loadA 2 (.t 3))),(Qn 23 21 false 5),(Qg 24 21 false (.call 49 [(.t 22),(.t 23)])),(Qg 25 21 false (.not (.t 24))),(Qq 26 21 25)]) (.ite (.t 26) (.seq (.reg [(Qa 27 (.build [.nl,.nl] [])),(Qs 2 6 27),(Qi 7 140)]) (.ret)) (.skip))) (.seq (.reg [(Qf 28 1 3),(Ql 29 28),(Qa 30 (.mkf 69 [(.t 4),(.t 5)])),(Qa 31 (.call 68 [(.t 29),(.t 30)])),(Qm 9 31)]) (.seq (.seq (.reg [(Qm 32 9),(Qa 33 (.bin .lss (.t 32) (.c (.iv 0))))]) (.ite (.t 33) (.seq (.reg [(Qa 34 (.build [.nl,.nl] [])),(Qs 2 6 34),(Qi 7 141)]) (.ret)) (.skip))) (.seq (.reg [(Qf 35 1 3),(Ql 36 35),(Qm 37 9),(Qk 38 5 36 37),(Qf 39 2 38),(Qe 40 3 39),(Qa 10 (.alloc 76 [.iv 0,.iv 0,.iv 0])),(Qs 3 10 40)]) (.seq (.drw [(Qf 41 1 3),(Ql 42 41),(Qm 43 9),(Qa 44 (.slice 5 (.t 42) none (some (.t 43)))),(Qf 45 1 3),(Ql 46 45),(Qm 47 9),(Qv 48 47 1),(Qa 49 (.slice 5 (.t 46) (some (.t 48)) none)),(Qa 50 (.bsl 23 1 2 [.nl] [(0,(.t 44)),(1,(.t 49))])),(Qa 51 (.call 70 [(.t 50)])),(Qf 52 1 3),(Qs 1 52 51)] [[],[0],[],[1,2],[],[4],[],[6],[5,7],[3,8],[9],[0,1,2,3,4,5,6,7,8,9,10],[11,10,10,0,1,2,3,4,5,6,7,8,9,10]] [[1],[0,3],[3],[1,2,9],[5],[4,8],[7],[6,8],[5,7,9],[3,8,10],[9,12],[12],[10,11]]) (.seq (.reg [(Qe 53 2 3),(Ql 54 5),(Qa 55 (.mkf 72 [(.t 4),(.t 10)])),(Qa 56 (.call 71 [(.t 53),(.t 54),(.t 55)])),(Qa 57 (.ext (.t 56) 0)),(Qa 58 (.ext (.t 56) 1)),(Qs 2 6 57),(Qm 7 58)]) (.ret))))))))
theorem ok33:FnOK Tryz.prog 33 Tryz.f33 e33 [.c 6 (some 2),.t 7] 3 56:=⟨by kernel_rfl,⟨_,rfl,by kernel_rfl⟩,by kernel_rfl,by kernel_rfl⟩
noncomputable def Zdi (x1:Scene) (x2:Int) (x3:Int) (x9:Mail):(List Mail)→Option (Scene×Int)
| x13=>
 (Z0i ((Scene.mk x1.Diners x13)) x3 ((fun z=>Zbi z x2 x9.Msg))).bind fun x14=>
 some (x14.1,x14.2)
noncomputable def Zei (x1:Scene) (x2:Int) (x3:Int):Bool→Option (Scene×Int)
| x7=>
 ifb x7 (
 some ((Scene.mk (([]:(List Diner))) (([]:(List Mail)))),140)) (
 (Ztb x1.Mail ((fun z=>Z9i z x2 x3))).bind fun x8=>
 ifb (decide (x8<0)) (
 some ((Scene.mk (([]:(List Diner))) (([]:(List Mail)))),141)) (
 (at_ x1.Mail x8).bind fun x9=>
 (Zb4 x1.Mail 0 x8).bind fun x10=>
 (Zb4 x1.Mail (wr (x8+1)) (ln Mail.row x1.Mail)).bind fun x11=>
 (Z9c ([x10,x11])).bind fun x12=>
 (Zdi x1 x2 x3 x9) x12))
noncomputable def Zfi (x1:Scene) (x2:Int) (x3:Int):Option (Scene×Int):=
 (Zyb x1).bind fun x4=>
 ifb (!decide (x4=0)) (
 some ((Scene.mk (([]:(List Diner))) (([]:(List Mail)))),x4)) (
 (Zeb x1 x2).bind fun x5=>
 ifb (!x5) (
 (Zei x1 x2 x3) true) (
 (Zeb x1 x3).bind fun x6=>
 (Zei x1 x2 x3) (!x6)))
theorem Zgi (x1:Scene) (x2:Int) (x3:Int) (r:(Scene×Int)) (h:Zfi x1 x2 x3=some r):Zu2 Tryz.prog 33 [.agg (Scene.row x1),.iv x2,.iv x3] (.tup [.agg (Scene.row r.1),.iv r.2]):=by
 refine Zy2 ok33 rfl rfl fun w0 H0=>?_
 rw [Zfi] at h
 refine Zo2 12 ?_;dsimp only [go_sem];refine An ?_;obtain ⟨x4,ex4,h⟩:=Bs h;refine Z33 trivial (Zzb x1 _ ex4) (h:=?_);refine Zo2 7 ?_;dsimp only [go_sem];refine An ?_;refine Zj4 h rfl (fun _ h=>?_) fun _ h=>?_
 ·refine Zo2 7 ?_;dsimp only [go_sem];refine An ?_;exact Zr4 (res:=fun (r:(Scene×Int))=>.tup [.agg (Scene.row r.1),.iv r.2]) ok33 h
 ·refine Zo2 6 ?_;dsimp only [go_sem];refine An ?_;obtain ⟨x5,ex5,h⟩:=Bs h;refine Z33 trivial (Zfb x1 x2 _ ex5) (h:=?_);refine Zo2 2 ?_;dsimp only [go_sem];refine An ?_;refine Zh4 (fun (x7:Bool)=>(⟨(an 3 (.ptr 0 0 :: .ptr 1 0 :: .ptr 2 0 :: .ptr 3 0::an 19 (.bv x7::an 32 []))),[some ⟨25,[.sl 3 (List.map Diner.row x1.Diners),.sl 5 (List.map Mail.row x1.Mail)]⟩,some ⟨3,[.iv x2]⟩,some ⟨3,[.iv x3]⟩,some ⟨25,[.nl,.nl]⟩],[]⟩:St)) (Zei x1 x2 x3) r ?_ fun J1=>?_
  ·intro x7 h;rw [Zei] at h;(try dsimp only);refine Zj4 h rfl (fun _ h=>?_) fun _ h=>?_
   ·refine Zo2 6 ?_;dsimp only [go_sem];refine An ?_;exact Zr4 (res:=fun (r:(Scene×Int))=>.tup [.agg (Scene.row r.1),.iv r.2]) ok33 h
   ·refine Zo2 6 ?_;dsimp only [go_sem];refine An ?_;obtain ⟨x8,ex8,h⟩:=Bs h;refine Zv4 trivial (((Zu4.refl _).block 1 rfl rfl).block 2 rfl rfl) (Zub x1.Mail _ _ ((fun z=>Z9i z x2 x3)) ⟨by kernel_rfl,rfl,fun z r hz=>Zai z x2 x3 r hz⟩ _ ex8) (h:=?_);refine Zo2 8 ?_;dsimp only [go_sem];refine An ?_;refine Zj4 h rfl (fun _ h=>?_) fun _ h=>?_
    ·refine Zo2 6 ?_;dsimp only [go_sem];refine An ?_;exact Zr4 (res:=fun (r:(Scene×Int))=>.tup [.agg (Scene.row r.1),.iv r.2]) ok33 h
    ·refine Zo2 6 ?_;dsimp only [go_sem];refine An ?_;obtain ⟨x9,ex9,h⟩:=Bs h;refine Zm4 Mail.row ex9 trivial rfl rfl rfl ?_;refine Zo2 6 ?_;dsimp only [go_sem];refine An ?_
     refine Zh4 (fun (x13:(List Mail))=>(⟨(an 3 (.ptr 0 0 :: .ptr 1 0 :: .ptr 2 0 :: .ptr 3 0::an 3 (.ptr 4 0::an 48 []))),[some ⟨25,[.sl 3 (List.map Diner.row x1.Diners),.osl 1]⟩,some ⟨3,[.iv x2]⟩,some ⟨3,[.iv x3]⟩,some ⟨25,[.nl,.nl]⟩,some ⟨76,[.iv x9.Msg.Kind,.iv x9.Msg.Epoch,.iv x9.Msg.Num]⟩],[none,some ⟨78,5,List.map Mail.row x13⟩]⟩:St)) (Zdi x1 x2 x3 x9) r ?_ fun J2=>?_
     ·intro x13 h;rw [Zdi] at h;(try dsimp only);refine Zo2 5 ?_;dsimp only [go_sem];refine An ?_;refine Zb3 1 rfl ?_;dsimp only [go_sem];refine V_sealB 1 rfl rfl ?_;dsimp only [go_sem];refine V_sealB 4 rfl rfl ?_;dsimp only [go_sem];obtain ⟨x14,ex14,h⟩:=Bs h;refine Z33 trivial (Z1i ((Scene.mk x1.Diners x13)) x3 _ _ ((fun z=>Zbi z x2 x9.Msg)) ⟨by kernel_rfl,rfl,fun z r hz=>Zci z x2 x9.Msg r hz⟩ _ ex14) (h:=?_);refine Zo2 5 ?_;dsimp only [go_sem];refine An ?_
      exact Zr4 (res:=fun (r:(Scene×Int))=>.tup [.agg (Scene.row r.1),.iv r.2]) ok33 h
     ·refine Zj3 (by kernel_rfl) fun all hall hs hnap haf=>?_;dsimp only [go_sem];refine Z85 hall hs haf hnap 7 6 [3,1,4,5] [(41,[.ptr 0 1,.sl 5 (List.map Mail.row x1.Mail),.iv x8]),(1,[.ptr 0 1,.sl 5 (List.map Mail.row x1.Mail),.iv x8,.iv (wr (x8+1))])] (by kernel_rfl) ?_;dsimp only [go_sem];obtain ⟨x10,ex10,h⟩:=Bs h;refine G_sliceM hall hs haf hnap 3 Mail.row ex10 rfl rfl trivial rfl rfl rfl rfl rfl ?_;dsimp only [go_sem];obtain ⟨x11,ex11,h⟩:=Bs h;refine G_sliceM hall hs haf hnap 8 Mail.row ex11 rfl rfl trivial rfl rfl rfl rfl rfl ?_;dsimp only [go_sem]
      refine Zu3 9 rfl ?_;refine GO_bslS hall rfl trivial rfl trivial ?_;dsimp only [go_sem];refine Zu3 10 rfl ?_;obtain ⟨x12,ex12,h⟩:=Bs h;refine GO_callO hall rfl trivial (Zac ([x10,x11]) _ ex12) (h:=?_);dsimp only [go_sem];refine Z75 hall hs haf hnap 1 1 ?_;dsimp only [go_sem];refine An ?_;refine Zu3 12 rfl ?_;refine Zz3 hall rfl trivial ?_;dsimp only [go_sem];refine Zt3 rfl ?_ _;exact Zt4 J2 (s:=x12) h
  ·refine Zq4 21 h rfl (fun _ h=>?_) fun _ h=>?_
   ·dsimp only [go_sem];refine Zo2 6 ?_;dsimp only [go_sem];refine An ?_;exact Zt4 J1 (s:=true) h
   ·dsimp only [go_sem];refine Zo2 2 ?_;dsimp only [go_sem];refine An ?_;obtain ⟨x6,ex6,h⟩:=Bs h;refine Z33 trivial (Zfb x1 x3 _ ex6) (h:=?_);refine Zo2 3 ?_;dsimp only [go_sem];refine An ?_;exact Zt4 J1 (s:=!x6) h
set_option maxRecDepth 100000
set_option maxHeartbeats 4000000
@[go_sem] def e8:EC:=.seq (.reg [(Qx 2 25 2 0),(Qx 3 27 3 1),(Qa 4 (.alloc 25 [.nl,.nl])),(Qi 5 0)]) (.seq (.seq (.reg [(Qf 6 0 3),(Ql 7 6)]) (.blk 0 (.seq (.reg [(Qa 9 (.bin .eql (.t 7) (.c (.iv 0)))),(Qm 8 9)]) (.ite (.t 8) (.seq (.reg [(Qe 10 2 2),(Qf 11 1 3),(Ql 12 11),(Qa 13 (.call 32 [(.t 10),(.t 12)])),(Qa 14 (.ext (.t 13) 0)),(Qa 15 (.ext (.t 13) 1)),(Qs 2 4 14),(Qm 5 15)]) (.ret)) (.seq (.reg [(Qa 17 (.bin .eql (.t 7) (.c (.iv 1)))),(Qm 16 17)]) (.ite (.t 16) (.seq (.reg [(Qe 18 2 2),(Qf 19 1 3),(Ql 20 19),(Qa 21 (.call 34 [(.t 18),(.t 20)])),(Qa 22 (.ext (.t 21) 0)),(Qa 23 (.ext (.t 21) 1)),(Qs 2 4 22),(Qm 5 23)]) (.ret)) (.skip))))))) (.seq (.reg [(Qe 24 2 2),(Qf 25 1 3),(Ql 26 25),(Qf 27 2 3),(Ql 28 27),(Qa 29 (.call 33 [(.t 24),(.t 26),(.t 28)])),(Qa 30 (.ext (.t 29) 0)),(Qa 31 (.ext (.t 29) 1)),(Qs 2 4 30),(Qm 5 31)]) (.ret)))
theorem ok8:FnOK Tryz.prog 8 Tryz.f8 e8 [.c 4 (some 2),.t 5] 2 30:=⟨by kernel_rfl,⟨_,rfl,by kernel_rfl⟩,by kernel_rfl,by kernel_rfl⟩
noncomputable def Zhi (x1:Scene) (x2:narthexlaw14_Act):Option (Scene×Int):=
 ifb (decide (x2.K=0)) (
 (Z4i x1 x2.A).bind fun x3=>
 some (x3.1,x3.2)) (
 ifb (decide (x2.K=1)) (
 (Z6i x1 x2.A).bind fun x4=>
 some (x4.1,x4.2)) (
 (Zfi x1 x2.A x2.B).bind fun x5=>
 some (x5.1,x5.2)))
theorem Zii (x1:Scene) (x2:narthexlaw14_Act) (r:(Scene×Int)) (h:Zhi x1 x2=some r):Zu2 Tryz.prog 8 [.agg (Scene.row x1),.agg (narthexlaw14_Act.row x2)] (.tup [.agg (Scene.row r.1),.iv r.2]):=by
 refine Zy2 ok8 rfl rfl fun w0 H0=>?_
 rw [Zhi] at h
 refine Zo2 19 ?_;dsimp only [go_sem];refine An ?_;refine Zj4 h rfl (fun _ h=>?_) fun _ h=>?_
 ·refine Zo2 5 ?_;dsimp only [go_sem];refine An ?_;obtain ⟨x3,ex3,h⟩:=Bs h;refine Z33 trivial (Z5i x1 x2.A _ ex3) (h:=?_);refine Zo2 5 ?_;dsimp only [go_sem];refine An ?_;exact Zr4 (res:=fun (r:(Scene×Int))=>.tup [.agg (Scene.row r.1),.iv r.2]) ok8 h
 ·refine Zo2 5 ?_;dsimp only [go_sem];refine An ?_;refine Zj4 h rfl (fun _ h=>?_) fun _ h=>?_
  ·refine Zo2 5 ?_;dsimp only [go_sem];refine An ?_;obtain ⟨x4,ex4,h⟩:=Bs h;refine Z33 trivial (Z7i x1 x2.A _ ex4) (h:=?_);refine Zo2 5 ?_;dsimp only [go_sem];refine An ?_;exact Zr4 (res:=fun (r:(Scene×Int))=>.tup [.agg (Scene.row r.1),.iv r.2]) ok8 h
  ·refine Zo2 9 ?_;dsimp only [go_sem];refine An ?_;obtain ⟨x5,ex5,h⟩:=Bs h;refine Z33 trivial (Zgi x1 x2.A x2.B _ ex5) (h:=?_);refine Zo2 5 ?_;dsimp only [go_sem];refine An ?_;exact Zr4 (res:=fun (r:(Scene×Int))=>.tup [.agg (Scene.row r.1),.iv r.2]) ok8 h
set_option maxRecDepth 100000
set_option maxHeartbeats 4000000
@[go_sem] def e9:EC:=.seq (.reg [(Qx 1 25 2 0),(Qa 2 (.alloc 25 [.nl,.nl]))]) (.seq (.drw [(Qf 3 0 1),(Ql 4 3),(Qa 5 (.call 35 [(.t 4)])),(Qa 6 (.bsl 78 5 0 [.iv 0,.iv 0,.iv 0,.iv 0,.iv 0] [])),(Qf 7 1 1),(Ql 8 7),(Qa 9 (.app 78 5 40 (.t 6) (.t 8))),(Qa 10 (.build [.nl,.nl] [(0,1,(.t 5)),(1,1,(.t 9))])),(Qs 2 2 10)] [[],[0],[1],[],[],[4],[3,5,2],[2,6],[7,6,0,1,2,3,4,5,6,7]] [[1],[0,2],[1,7],[6],[5],[4,6],[3,5,7],[2,6,8],[7]]) (.ret))
theorem ok9:FnOK Tryz.prog 9 Tryz.f9 e9 [.c 2 (some 2)] 1 10:=⟨by kernel_rfl,⟨_,rfl,by kernel_rfl⟩,by kernel_rfl,by kernel_rfl⟩
noncomputable def Zji:((List Diner)×(List Mail))→Option Scene
| (x5,x6)=>
 some (Scene.mk x5 x6)
noncomputable def Zki (x1:Scene):Option Scene:=
 (Zuh x1.Diners).bind fun x2=>
 (Za4 40 (([]:List Mail)) x1.Mail).bind fun x4=>
 Zji (x2,x4)
theorem Zli (x1:Scene) (r:Scene) (h:Zki x1=some r):Zu2 Tryz.prog 9 [.agg (Scene.row x1)] (.agg (Scene.row r)):=by
 refine Zy2 ok9 rfl rfl fun w0 H0=>?_
 rw [Zki] at h
 refine Zo2 6 ?_;dsimp only [go_sem];refine An ?_;refine Zh4 (fun ((x5,x6):((List Diner)×(List Mail)))=>(⟨(.any :: .any :: .ptr 1 0::an 8 []),[none,some ⟨25,[.sl 3 (List.map Diner.row x5),.osl 1]⟩],[none,some ⟨78,5,List.map Mail.row x6⟩]⟩:St)) Zji r ?_ fun J1=>?_
 ·rintro ⟨x5,x6⟩ h;rw [Zji] at h;(try dsimp only);refine Zb3 1 rfl ?_;dsimp only [go_sem];exact Zr4 (res:=fun (r:Scene)=>.agg (Scene.row r)) ok9 h
 ·refine Zj3 (by kernel_rfl) fun all hall hs hnap haf=>?_;dsimp only [go_sem];refine Z75 hall hs haf hnap 4 5 ?_;dsimp only [go_sem];refine An ?_;obtain ⟨x2,ex2,h⟩:=Bs h;refine Zv3 2 3 rfl ?_ ?_
  ·refine Z04 hall rfl trivial (Zwh x1.Diners _ ex2) (h:=?_);dsimp only [go_sem];refine Zu3 3 rfl ?_;refine Zz3 hall rfl trivial ?_;dsimp only [go_sem];refine Zu3 6 rfl ?_;obtain ⟨x4,ex4,h⟩:=Bs h;refine Zp4 Mail.row ex4 hall rfl trivial rfl rfl rfl ?_;dsimp only [go_sem];refine Z75 hall hs haf hnap 1 1 ?_;dsimp only [go_sem];refine An ?_;refine Zu3 8 rfl ?_;refine Zz3 hall rfl trivial ?_;dsimp only [go_sem];refine Zt3 rfl ?_ _;exact Zt4 J1 (s:=(x2,x4)) h
  ·refine Zz3 hall rfl trivial ?_;dsimp only [go_sem];refine Zu3 2 rfl ?_;refine Z04 hall rfl trivial (Zwh x1.Diners _ ex2) (h:=?_);dsimp only [go_sem];refine Zu3 6 rfl ?_;obtain ⟨x4,ex4,h⟩:=Bs h;refine Zp4 Mail.row ex4 hall rfl trivial rfl rfl rfl ?_;dsimp only [go_sem];refine Z75 hall hs haf hnap 1 1 ?_;dsimp only [go_sem];refine An ?_;refine Zu3 8 rfl ?_;refine Zz3 hall rfl trivial ?_;dsimp only [go_sem];refine Zt3 rfl ?_ _;exact Zt4 J1 (s:=(x2,x4)) h
theorem s_act (s:Scene) (a:Int) (p:Diner→Option (Diner×Int)) (q:Diner→Diner×Int) (hp:∀d,p d=some (q d)) (hD:Zv7 s.Diners) (hM:s.Mail.length≤900000) (d:Diner) (hd:at_ s.Diners a=some d):Z0i s a p=some (actP s a (q d)):=by
 simp only [Z0i,hd,Option.bind_some,hp,actP]
 by_cases h0:(q d).2=0
 ·simp only [h0,decide_true,Bool.not_true,Zv5,s_Fire,Option.bind_some,if_true]
  cases hk:okD (q d).1 with
  | false=>rfl
  | true=>
    have hl:=Zqa hk
    have hf:=okD_fireD hk
    have hms:=Zza (q d).1.Sides (q d).1.ID (q d).1.Phase
    have hc:=s_Concat s.Mail (Zya (q d).1) (by omega) (by unfold Zya;omega)
    simp only [if_true,decide_true,Bool.not_true,Zv5,hc,Option.bind_some]
    refine Zm7 s.Diners _ (fun pre=>((pre.length:Int),pre.map fun x=>if x.ID=a then Zxa (q d).1 else x)) _ (fun pre x post h=>?_) ?_
    ·have hx:=Zn7 h
     have hm:=Zo7 h
     have h1:=hD.1
     have h2:=hD.2 x (Zp7 h)
     dsimp only [Zzh]
     rw [Z06 hx,Zu5,Zy5 hx,Option.bind_some,Zr7,List.map_append]
     have step:∀z:Diner,z.Sides.length≤5000→Zyh (pre.length:Int) (pre.map fun x=>if x.ID=a then Zxa (q d).1 else x) z=some (.inl (((pre.length+1:Nat):Int),(pre.map fun x=>if x.ID=a then Zxa (q d).1 else x)++[z])):=fun z hz=>by
      dsimp only [Zyh]
      rw [Zpa z.Sides (by omega),Option.bind_some,Zz5 _ _ (by omega) (by simp;omega),Option.bind_some,Z26 (by omega)]
     by_cases hi:x.ID=a
     ·rw [decide_eq_true hi,Zu5,step _ (by omega)]
      simp [hi]
     ·rw [decide_eq_false hi,Zv5,step _ h2]
      simp [hi]
    ·dsimp only [Zzh]
     rw [Z16,Zv5]
     rfl
 ·simp only [h0,decide_false,Bool.not_false,Zu5,if_false]
  rfl
theorem s_turn (s:Scene) (a:Int) (p:Diner→Option (Diner×Int)) (q:Diner→Diner×Int) (hp:∀d,p d=some (q d)) (hD:Zv7 s.Diners) (hM:s.Mail.length≤900000):Z2i s a p=some (Zic s a q):=by
 simp only [Z2i,s_tCheck s hD (by omega),Option.bind_some,Zic]
 cases okS s with
 | false=>rfl
 | true=>
   simp only [if_true,decide_true,Bool.not_true,Zv5,s_there,Option.bind_some]
   cases h:Zhc s a with
   | false=>rfl
   | true=>
     obtain ⟨d,hd,_⟩:=Zjc h
     simp only [Bool.not_true,Zv5,s_act s a p q hp hD hM d hd,hd,Option.bind_some,if_true]
theorem s_Start (s:Scene) (a:Int) (hD:Zv7 s.Diners) (hM:s.Mail.length≤900000):Z4i s a=some (Zic s a fun d=>Zsa d 0 1):=by
 simp only [Z4i,s_turn s a _ (fun d=>Zsa d 0 1) s_dStart hD hM,Option.bind_some]
theorem s_Stop (s:Scene) (a:Int) (hD:Zv7 s.Diners) (hM:s.Mail.length≤900000):Z6i s a=some (Zic s a fun d=>Zsa d 2 0):=by
 simp only [Z6i,s_turn s a _ (fun d=>Zsa d 2 0) s_dStop hD hM,Option.bind_some]
theorem Zmi (s:Scene) (a b:Int) (hD:Zv7 s.Diners) (hM:s.Mail.length≤900000):Zfi s a b=some (Zlc s a b):=by
 simp only [Zfi,s_tCheck s hD (by omega),Option.bind_some,Zlc]
 cases okS s with
 | false=>rfl
 | true=>
   simp only [if_true,decide_true,Bool.not_true,Zv5,s_there,Option.bind_some]
   cases h:Zhc s a with
   | false=>rfl
   | true=>
     cases h':Zhc s b with
     | false=>rfl
     | true=>
       obtain ⟨d,hd,_⟩:=Zjc h'
       simp only [Bool.not_true,Zv5,Zei,Bool.and_self,if_true]
       rw [Zbc s.Mail (fun z=>Z9i z a b) (fun m=>decide (m.From=a)&&decide (m.To=b)) (by omega) (fun m _=>by
        simp only [Z9i,Z8i]
        cases decide (m.From=a)<;>rfl),Option.bind_some,plc_neg]
       have hfi:=Zx7 (fun m:Mail=>decide (m.From=a)&&decide (m.To=b)) s.Mail
       unfold Zkc
       cases hf:s.Mail.findIdx? (fun m=>decide (m.From=a)&&decide (m.To=b)) with
       | none=>rfl
       | some i=>
         rw [hf] at hfi
         obtain ⟨m,hm,_⟩:=hfi
         have hlt:=(List.getElem?_eq_some_iff.1 hm).1
         have e1:Zb4 s.Mail 0 (i:Int)=some (s.Mail.take i):=by
          unfold Zb4
          rw [if_pos ⟨by omega,by omega,by omega⟩];simp
         have e2:Zb4 s.Mail (wr ((i:Int)+1)) (ln Mail.row s.Mail)=some (s.Mail.drop (i+1)):=by
          rw [Z26 (by omega),Z05]
          unfold Zb4
          rw [if_pos ⟨by omega,by omega,by omega⟩];simp
         simp only [Option.isNone_some,Zv5,plc,Zy5 hm,Option.bind_some,e1,e2,hm,hd]
         rw [s_Concat _ _ (by simp;omega) (by simp;omega),Option.bind_some]
         simp only [Zdi]
         rw [s_act ⟨s.Diners,s.Mail.take i++s.Mail.drop (i+1)⟩ b _ (fun d=>getD' d a m.Msg) (fun d=>by simp only [Zbi,s_Get,Option.bind_some]) hD (by simp;omega) d hd]
         rfl
theorem s_act14 (s:Scene) (k a b:Int) (hD:Zv7 s.Diners) (hM:s.Mail.length≤900000):Zhi s ⟨k,a,b⟩=some (Zmc s k a b):=by
 simp only [Zhi,Zmc,s_Start s a hD hM,s_Stop s a hD hM,Zmi s a b hD hM,Option.bind_some]
 by_cases h0:k=0
 ·simp [h0]
 ·by_cases h1:k=1
  ·simp [h1]
  ·simp [h0,h1]
theorem s_own14 (s:Scene) (hD:Zv7 s.Diners) (hM:s.Mail.length≤900000):Zki s=some s:=by
 simp only [Zki,s_Own _ hD,Option.bind_some]
 rw [Zz5 _ _ (by omega) (by simp;omega)]
 rfl
set_option maxRecDepth 100000
set_option maxHeartbeats 4000000
@[go_sem] def e17_L0:EC:=.seq (.reg [(Qa 12 (.bin .lss (.t 11) (.t 10)))]) (.seq (.ite (.t 12) (.skip) (.exit 0)) (.seq (.blk 1 (.seq (.reg [(Qk 13 3 9 11),(Qe 14 3 13),(Qa 7 (.alloc 70 [.iv 0,.iv 0,.nl])),(Qs 3 7 14)]) (.seq (.reg [(Qf 15 1 7),(Ql 16 15),(Qm 17 1),(Qa 18 (.bin .eql (.t 16) (.t 17)))]) (.ite (.t 18) (.reg [(Qm 19 5),(Qf 20 0 7),(Ql 21 20),(Qa 22 (.bsl 3 1 1 [.iv 0] [(0,(.t 21))])),(Qa 23 (.app 3 1 8 (.t 19) (.t 22))),(Qm 5 23)]) (.skip))))) (.reg [(Qv 24 11 1),(Qm 11 24)])))
@[go_sem] def e17:EC:=.seq (.reg [(Qx 2 25 2 0),(Qa 4 (.mv (.c .nl)))]) (.seq (.reg [(Qa 5 (.mv (.c .nl)))]) (.seq (.seq (.reg [(Qf 8 0 2),(Ql 9 8),(Qa 10 (.len (.t 9))),(Qi 11 0)]) (.blk 0 (.loop e17_L0))) (.seq (.reg [(Qm 25 5),(Qm 4 25)]) (.ret))))
theorem ok17:FnOK Tryz.prog 17 Tryz.f17 e17 [.t 4] 2 24:=⟨by kernel_rfl,⟨_,rfl,by kernel_rfl⟩,by kernel_rfl,by kernel_rfl⟩
noncomputable def Zni:(List Int)→Option (List Int)
| x20=>
 some x20
noncomputable def Zoi (x8:Int):(List Int)→Option ((Int×(List Int)) ⊕ (List Int))
| x12=>
 some (.inl (wr (x8+1),x12))
noncomputable def Zpi (x1:Scene) (x2:Int):(Int×(List Int))→Option ((Int×(List Int)) ⊕ (List Int))
| (x8,x9)=>
 ifb (decide (x8<(ln Diner.row x1.Diners))) (
 (at_ x1.Diners x8).bind fun x10=>
 ifb (decide (x10.Phase=x2)) (
 (Za4 8 x9 ([x10.ID])).bind fun x11=>
 (Zoi x8) x11) (
 (Zoi x8) x9)) (
 Option.map Sum.inr (Zni x9))
noncomputable def Zqi (x1:Scene) (x2:Int):Option (List Int):=
 loop (Zpi x1 x2) (0,([]:List Int))
theorem Zri (x1:Scene) (x2:Int) (r:(List Int)) (h:Zqi x1 x2=some r):FunO Tryz.prog 17 [.agg (Scene.row x1),.iv x2] 3 1 (List.map Zx4 r):=by
 refine Z55 ok17 rfl fun w0 H0=>?_
 rw [Zqi] at h
 refine Zo2 17 ?_;dsimp only [go_sem];refine An ?_;refine Zh4 (fun (x20:(List Int))=>(⟨(an 5 (.osl 0::an 20 [])),[],[some ⟨3,1,List.map Zx4 x20⟩]⟩:St)) Zni r ?_ fun J1=>?_
 ·intro x20 h;rw [Zni] at h;(try dsimp only);refine Zo2 5 ?_;dsimp only [go_sem];refine An ?_;exact Z95 Zx4 ok17 h rfl rfl
 ·refine Zo2 1 ?_;dsimp only [go_sem];refine An ?_;refine Z64 5 3 1 rfl rfl ?_;dsimp only [go_sem];refine Zi4 h (fun ((x8,x9):(Int×(List Int)))=>(⟨(.any :: .iv x2::an 3 (.osl 0::an 3 (.sl 3 (List.map Diner.row x1.Diners) :: .iv (ln Diner.row x1.Diners) :: .iv x8::an 14 []))),[],[some ⟨3,1,List.map Zx4 x9⟩]⟩:St)) (by simp [go_sem]) (by rintro ⟨x8,x9⟩;first | rfl | simp [go_sem]) ?_;rintro n1 ⟨x8,x9⟩ y1 h hin1 hout1;rw [Zpi] at h;(try dsimp only);refine Zo2 5 ?_;dsimp only [go_sem];refine An ?_
  refine Zj4 h rfl (fun _ h=>?_) fun _ h=>?_
  ·refine Zo2 5 ?_;dsimp only [go_sem];refine An ?_;obtain ⟨x10,ex10,h⟩:=Bs h;refine Zm4 Diner.row ex10 trivial rfl rfl rfl ?_;refine Zo2 11 ?_;dsimp only [go_sem];refine An ?_;refine Zh4 (fun (x12:(List Int))=>(⟨(.any :: .iv x2::an 3 (.osl 0::an 3 (.sl 3 (List.map Diner.row x1.Diners) :: .iv (ln Diner.row x1.Diners) :: .iv x8::an 14 []))),[],[some ⟨3,1,List.map Zx4 x12⟩]⟩:St)) (Zoi x8) y1 ?_ fun J2=>?_
   ·intro x12 h;rw [Zoi] at h;(try dsimp only);refine Zo2 5 ?_;dsimp only [go_sem];refine An ?_;exact Zs4 h hin1
   ·refine Zj4 h rfl (fun _ h=>?_) fun _ h=>?_
    ·refine Zo2 5 ?_;dsimp only [go_sem];refine An ?_;obtain ⟨x11,ex11,h⟩:=Bs h;refine Zo4 Zx4 ex11 trivial rfl rfl rfl ?_;refine Zo2 2 ?_;dsimp only [go_sem];refine An ?_;refine Z54 2 0 rfl rfl rfl ?_;dsimp only [go_sem];exact Zt4 J2 (s:=x11) h
    ·refine Zo2 1 ?_;dsimp only [go_sem];refine An ?_;exact Zt4 J2 (s:=x9) h
  ·refine Zo2 1 ?_;dsimp only [go_sem];refine An ?_;exact Zt4 J1 (s:=x9) (Zg4 h hout1)
theorem Zsi (x1:Scene) (x2:Int) (r:(List Int)) (h:Zqi x1 x2=some r):Zu2 Tryz.prog 17 [.agg (Scene.row x1),.iv x2] (.sl 1 (List.map Zx4 r)):=(Zri x1 x2 r h).sealed
set_option maxRecDepth 100000
set_option maxHeartbeats 4000000
@[go_sem] def e25_L0:EC:=.seq (.seq (.reg [(Qm 28 10),(Qm 29 1),(Qa 30 (.len (.t 29))),(Qa 31 (.bin .lss (.t 28) (.t 30)))]) (.ite (.t 31) (.skip) (.exit 0))) (.seq (.blk 1 (.seq (.drw [(Qe 35 2 8),(Qa 36 (.call 9 [(.t 35)])),(Qm 37 1),(Qm 38 10),(Qk 39 3 37 38),(Qe 40 3 39),(Qa 41 (.call 8 [(.t 36),(.t 40)])),(Qm 34 41),(Qa 42 (.ext (.t 34) 0)),(Qa 43 (.ext (.t 34) 1)),(Qa 11 (.alloc 25 [.nl,.nl])),(Qs 2 11 42),(Qm 12 43)] [[],[0],[],[],[2,3],[4],[1,5,1],[6],[7],[7],[],[10,8,6,0,1,2,3,4,5,6,7,8,10],[9,11,0,1,2,3,4,5,6,7,8,9,10,11]] [[1],[0,6],[4],[4],[2,3,5],[4,6],[1,5,7],[6,8,9],[7,11],[7,12],[11],[8,10],[9]]) (.seq (.seq (.reg [(Qm 44 12),(Qa 45 (.bin .neq (.t 44) (.c (.iv 0)))),(Qm 46 45),(Qg 47 46 true (.mv (.t 12))),(Qg 48 46 true (.bin .neq (.t 47) (.c (.iv 134)))),(Qp 49 46 48),(Qm 50 49),(Qg 51 50 true (.mv (.t 12))),(Qg 52 50 true (.bin .neq (.t 51) (.c (.iv 141)))),(Qp 53 50 52),(Qm 54 53),(Qg 55 54 true (.mv (.t 12))),(Qg 56 54 true (.bin .neq (.t 55) (.c (.iv 140)))),(Qp 57 54 56)]) (.ite (.t 57) (.seq (.reg [(Qe 58 2 8),(Qs 2 6 58),(Qa 7 (.mv (.c .ff)))]) (.ret)) (.skip))) (.seq (.seq (.reg [(Qm 59 12),(Qa 60 (.bin .eql (.t 59) (.c (.iv 0))))]) (.ite (.t 60) (.reg [(Qe 61 2 11),(Qs 2 8 61)]) (.skip))) (.seq (.reg [(Qm 62 2),(Qe 63 2 8),(Qa 64 (.callv (.t 62) [(.t 63)])),(Qa 65 (.not (.t 64)))]) (.ite (.t 65) (.seq (.reg [(Qe 66 2 8),(Qs 2 6 66),(Qa 7 (.mv (.c .ff)))]) (.ret)) (.skip))))))) (.reg [(Qm 32 10),(Qv 33 32 1),(Qm 10 33)]))
@[go_sem] def e25:EC:=.seq (.reg [(Qx 3 48 2 0),(Qa 6 (.alloc 25 [.nl,.nl])),(Qa 7 (.mv (.c .ff)))]) (.seq (.reg [(Qe 14 2 3),(Qa 15 (.call 21 [(.t 14)])),(Qa 16 (.call 20 [(.t 15)])),(Qm 13 16),(Qa 17 (.ext (.t 13) 0)),(Qa 18 (.ext (.t 13) 1)),(Qa 8 (.alloc 25 [.nl,.nl])),(Qs 2 8 17),(Qm 9 18)]) (.seq (.seq (.reg [(Qm 19 9),(Qa 20 (.bin .neq (.t 19) (.c (.iv 0)))),(Qm 21 20),(Qg 22 21 false (.mv (.t 2))),(Qg 23 21 false (.loadA 2 (.t 8))),(Qg 24 21 false (.callv (.t 22) [(.t 23)])),(Qg 25 21 false (.not (.t 24))),(Qq 26 21 25)]) (.ite (.t 26) (.seq (.reg [(Qe 27 2 8),(Qs 2 6 27),(Qa 7 (.mv (.c .ff)))]) (.ret)) (.skip))) (.seq (.seq (.reg [(Qi 10 0)]) (.blk 0 (.loop e25_L0))) (.seq (.reg [(Qe 67 2 8),(Qs 2 6 67),(Qa 7 (.mv (.c .tt)))]) (.ret)))))
theorem ok25:FnOK Tryz.prog 25 Tryz.f25 e25 [.c 6 (some 2),.t 7] 3 65:=⟨by kernel_rfl,⟨_,rfl,by kernel_rfl⟩,by kernel_rfl,by kernel_rfl⟩
noncomputable def Zti:Scene→Option (Scene×Bool)
| x36=>
 some (x36,true)
noncomputable def Zui (p2:(Scene→Option Bool)) (x19:Int):Scene→Option ((Int×Scene) ⊕ (Scene×Bool))
| x29=>
 (p2 x29).bind fun x30=>
 ifb (!x30) (
 Option.map Sum.inr (some (x29,false))) (
 some (.inl (wr (x19+1),x29)))
noncomputable def Zvi (p2:(Scene→Option Bool)) (x19:Int) (x20:Scene) (x26:Int) (x27:Scene):Bool→Option ((Int×Scene) ⊕ (Scene×Bool))
| x28=>
 ifb x28 (
 Option.map Sum.inr (some (x20,false))) (
 ifb (decide (x26=0)) (
 (Zui p2 x19) x27) (
 (Zui p2 x19) x20))
noncomputable def Zwi (p2:(Scene→Option Bool)) (x19:Int) (x20:Scene):(Int×Scene)→Option ((Int×Scene) ⊕ (Scene×Bool))
| (x26,x27)=>
 ifb (!decide (x26=0)) (
 ifb (!decide (x26=134)) (
 ifb (!decide (x26=141)) (
 (Zvi p2 x19 x20 x26 x27) (!decide (x26=140))) (
 (Zvi p2 x19 x20 x26 x27) false)) (
 (Zvi p2 x19 x20 x26 x27) false)) (
 (Zvi p2 x19 x20 x26 x27) false)
noncomputable def Zxi (x2:(List narthexlaw14_Act)) (p2:(Scene→Option Bool)):(Int×Scene)→Option ((Int×Scene) ⊕ (Scene×Bool))
| (x19,x20)=>
 ifb (decide (x19<(ln narthexlaw14_Act.row x2))) (
 (at_ x2 x19).bind fun x21=>
 (Zki x20).bind fun x22=>
 (Zhi x22 x21).bind fun x24=>
 (Zwi p2 x19 x20) (x24.2,x24.1)) (
 Option.map Sum.inr (Zti x20))
noncomputable def Zyi (x2:(List narthexlaw14_Act)) (p2:(Scene→Option Bool)) (x4:(Scene×Int)):Bool→Option (Scene×Bool)
| x6=>
 ifb x6 (
 some (x4.1,false)) (
 loop (Zxi x2 p2) (0,x4.1))
noncomputable def Zzi (x1:Graph) (x2:(List narthexlaw14_Act)) (p2:(Scene→Option Bool)):Option (Scene×Bool):=
 (Zj7 x1).bind fun x3=>
 (Zhd x3).bind fun x4=>
 ifb (!decide (x4.2=0)) (
 (Zyi x2 p2 x4) true) (
 (p2 x4.1).bind fun x5=>
 (Zyi x2 p2 x4) (!x5))
theorem Z0j (x1:Graph) (x2:(List narthexlaw14_Act)) (g2:Nat) (caps2:List AV) (p2:(Scene→Option Bool)) (hc2:CloOK Tryz.prog g2 caps2 (fun z=>[.agg (Scene.row z)]) p2 (fun z=>.bv z)) (r:(Scene×Bool)) (h:Zzi x1 x2 p2=some r):Zu2 Tryz.prog 25 [.agg (Graph.row x1),.sl 3 (List.map narthexlaw14_Act.row x2),.clo g2 caps2] (.tup [.agg (Scene.row r.1),.bv r.2]):=by
 refine Zy2 ok25 rfl rfl fun w0 H0=>?_
 rw [Zzi] at h
 refine Zo2 9 ?_;dsimp only [go_sem];refine An ?_;obtain ⟨x3,ex3,h⟩:=Bs h;refine Z33 trivial (Zk7 x1 _ ex3) (hp:=(by first | rfl | simp [go_sem,hc2.pu])) (h:=?_);obtain ⟨x4,ex4,h⟩:=Bs h;refine Z33 trivial (Zid x3 _ ex4) (hp:=(by first | rfl | simp [go_sem,hc2.pu])) (h:=?_);refine Zo2 13 ?_;dsimp only [go_sem];refine An ?_
 refine Zh4 (fun (x6:Bool)=>(⟨(.any :: .sl 3 (List.map narthexlaw14_Act.row x2) :: .clo g2 caps2::an 3 (.ptr 1 0 :: .any :: .ptr 2 0::an 17 (.bv x6::an 41 []))),[none,some ⟨25,[.nl,.nl]⟩,some ⟨25,[.sl 3 (List.map Diner.row x4.1.Diners),.sl 5 (List.map Mail.row x4.1.Mail)]⟩],[]⟩:St)) (Zyi x2 p2 x4) r ?_ fun J1=>?_
 ·intro x6 h;rw [Zyi] at h;(try dsimp only);refine Zj4 h rfl (fun _ h=>?_) fun _ h=>?_
  ·refine Zo2 6 ?_;dsimp only [go_sem];refine An ?_;exact Zr4 (res:=fun (r:(Scene×Bool))=>.tup [.agg (Scene.row r.1),.bv r.2]) ok25 h
  ·refine Zo2 6 ?_;dsimp only [go_sem];refine An ?_;refine Zh4 (fun (x36:Scene)=>(⟨(an 6 (.ptr 1 0 :: .any :: .ptr 2 0::an 59 [])),[none,some ⟨25,[.nl,.nl]⟩,some ⟨25,[.sl 3 (List.map Diner.row x36.Diners),.sl 5 (List.map Mail.row x36.Mail)]⟩],[]⟩:St)) Zti r ?_ fun J2=>?_
   ·intro x36 h;rw [Zti] at h;(try dsimp only);refine Zo2 6 ?_;dsimp only [go_sem];refine An ?_;exact Zr4 (res:=fun (r:(Scene×Bool))=>.tup [.agg (Scene.row r.1),.bv r.2]) ok25 h
   ·refine Zo2 1 ?_;dsimp only [go_sem];refine An ?_;refine Zi4 h (fun ((x19,x20):(Int×Scene))=>(⟨(.any :: .sl 3 (List.map narthexlaw14_Act.row x2) :: .clo g2 caps2::an 3 (.ptr 1 0 :: .any :: .ptr 2 0 :: .any :: .iv x19::an 57 [])),[none,some ⟨25,[.nl,.nl]⟩,some ⟨25,[.sl 3 (List.map Diner.row x20.Diners),.sl 5 (List.map Mail.row x20.Mail)]⟩],[]⟩:St)) (by simp [go_sem]) (by rintro ⟨x19,x20⟩;first | rfl | simp [go_sem,Z84 _ hc2.pu]) ?_;rintro n1 ⟨x19,x20⟩ y1 h hin1 hout1;rw [Zxi] at h;(try dsimp only);refine Zo2 8 ?_;dsimp only [go_sem]
    refine An ?_;refine Zj4 h rfl (fun _ h=>?_) fun _ h=>?_
    ·refine Zo2 4 ?_;dsimp only [go_sem];refine An ?_;refine Zh4 (fun ((x26,x27):(Int×Scene))=>(⟨(.any :: .sl 3 (List.map narthexlaw14_Act.row x2) :: .clo g2 caps2::an 3 (.ptr 1 0 :: .any :: .ptr 2 0 :: .any :: .iv x19 :: .ptr 3 0 :: .iv x26::an 55 [])),[none,some ⟨25,[.nl,.nl]⟩,some ⟨25,[.sl 3 (List.map Diner.row x20.Diners),.sl 5 (List.map Mail.row x20.Mail)]⟩,some ⟨25,[.sl 3 (List.map Diner.row x27.Diners),.sl 5 (List.map Mail.row x27.Mail)]⟩],[]⟩:St)) (Zwi p2 x19 x20) y1 ?_ fun J3=>?_
     ·rintro ⟨x26,x27⟩ h;rw [Zwi] at h;(try dsimp only);refine Zo2 6 ?_;dsimp only [go_sem];refine An ?_
      refine Zh4 (fun (x28:Bool)=>(⟨(.any :: .sl 3 (List.map narthexlaw14_Act.row x2) :: .clo g2 caps2::an 3 (.ptr 1 0 :: .any :: .ptr 2 0 :: .any :: .iv x19 :: .ptr 3 0 :: .iv x26::an 44 (.bv x28::an 10 []))),[none,some ⟨25,[.nl,.nl]⟩,some ⟨25,[.sl 3 (List.map Diner.row x20.Diners),.sl 5 (List.map Mail.row x20.Mail)]⟩,some ⟨25,[.sl 3 (List.map Diner.row x27.Diners),.sl 5 (List.map Mail.row x27.Mail)]⟩],[]⟩:St)) (Zvi p2 x19 x20 x26 x27) y1 ?_ fun J4=>?_
      ·intro x28 h;rw [Zvi] at h;(try dsimp only);refine Zj4 h rfl (fun _ h=>?_) fun _ h=>?_
       ·refine Zo2 6 ?_;dsimp only [go_sem];refine An ?_;exact Zr4 (res:=fun (r:(Scene×Bool))=>.tup [.agg (Scene.row r.1),.bv r.2]) ok25 (Zg4 h hout1)
       ·refine Zo2 7 ?_;dsimp only [go_sem];refine An ?_;refine Zh4 (fun (x29:Scene)=>(⟨(.any :: .sl 3 (List.map narthexlaw14_Act.row x2) :: .clo g2 caps2::an 3 (.ptr 1 0 :: .any :: .ptr 2 0 :: .any :: .iv x19::an 57 [])),[none,some ⟨25,[.nl,.nl]⟩,some ⟨25,[.sl 3 (List.map Diner.row x29.Diners),.sl 5 (List.map Mail.row x29.Mail)]⟩],[]⟩:St)) (Zui p2 x19) y1 ?_ fun J5=>?_
        ·intro x29 h;rw [Zui] at h;(try dsimp only);refine Zo2 4 ?_;dsimp only [go_sem];refine An ?_;obtain ⟨x30,ex30,h⟩:=Bs h;refine Zw4 trivial rfl hc2 (x:=x29) ex30 (by first | exact Z94 _ | simp [go_sem]) (by first | rfl | simp [go_sem,hc2.pu]) ?_;refine Zo2 2 ?_;dsimp only [go_sem];refine An ?_;refine Zj4 h rfl (fun _ h=>?_) fun _ h=>?_
         ·refine Zo2 6 ?_;dsimp only [go_sem];refine An ?_;exact Zr4 (res:=fun (r:(Scene×Bool))=>.tup [.agg (Scene.row r.1),.bv r.2]) ok25 (Zg4 h hout1)
         ·refine Zo2 7 ?_;dsimp only [go_sem];refine An ?_;exact Zs4 h hin1 (hok:=by first | rfl | simp [go_sem,Z84 _ hc2.pu])
        ·refine Zj4 h rfl (fun _ h=>?_) fun _ h=>?_
         ·refine Zo2 4 ?_;dsimp only [go_sem];refine An ?_;exact Zt4 J5 (s:=x27) h (hok:=by first | rfl | simp [go_sem,Z84 _ hc2.pu])
         ·refine Zo2 1 ?_;dsimp only [go_sem];refine An ?_;exact Zt4 J5 (s:=x20) h (hok:=by first | rfl | simp [go_sem,Z84 _ hc2.pu])
      ·refine Zq4 46 h rfl (fun _ h=>?_) fun _ h=>?_
       ·dsimp only [go_sem];refine Zo2 4 ?_;dsimp only [go_sem];refine An ?_;refine Zq4 50 h rfl (fun _ h=>?_) fun _ h=>?_
        ·dsimp only [go_sem];refine Zo2 4 ?_;dsimp only [go_sem];refine An ?_;refine Zq4 54 h rfl (fun _ h=>?_) fun _ h=>?_
         ·dsimp only [go_sem];refine Zo2 4 ?_;dsimp only [go_sem];refine An ?_;exact Zt4 J4 (s:=!decide (x26=140)) h (hok:=by first | rfl | simp [go_sem,Z84 _ hc2.pu])
         ·dsimp only [go_sem];refine Zo2 4 ?_;dsimp only [go_sem];refine An ?_;exact Zt4 J4 (s:=false) h (hok:=by first | rfl | simp [go_sem,Z84 _ hc2.pu])
        ·dsimp only [go_sem];refine Zo2 8 ?_;dsimp only [go_sem];refine An ?_;exact Zt4 J4 (s:=false) h (hok:=by first | rfl | simp [go_sem,Z84 _ hc2.pu])
       ·dsimp only [go_sem];refine Zo2 12 ?_;dsimp only [go_sem];refine An ?_;exact Zt4 J4 (s:=false) h (hok:=by first | rfl | simp [go_sem,Z84 _ hc2.pu])
     ·refine Zj3 (by kernel_rfl) fun all hall hs hnap haf=>?_;dsimp only [go_sem];refine Z75 hall hs haf hnap 3 10 ?_;dsimp only [go_sem];refine An ?_;obtain ⟨x21,ex21,h⟩:=Bs h;refine Zn4 hall hs haf hnap 4 narthexlaw14_Act.row ex21 rfl rfl trivial rfl rfl rfl rfl ?_;refine Z75 hall hs haf hnap 1 8 ?_;dsimp only [go_sem];refine An ?_;obtain ⟨x22,ex22,h⟩:=Bs h;refine Zv3 1 10 rfl ?_ ?_
      ·refine Z04 hall rfl trivial (Zli x20 _ ex22) (hp:=(by first | rfl | simp [go_sem,hc2.pu])) (h:=?_);dsimp only [go_sem];obtain ⟨x24,ex24,h⟩:=Bs h;refine Zv3 6 10 rfl ?_ ?_
       ·refine Z04 hall rfl trivial (Zii x22 x21 _ ex24) (hp:=(by first | rfl | simp [go_sem,hc2.pu])) (h:=?_);dsimp only [go_sem];refine Z75 hall hs haf hnap 3 3 ?_;dsimp only [go_sem];refine An ?_;refine Zu3 10 rfl ?_;refine Zz3 hall rfl trivial ?_;dsimp only [go_sem];refine Zu3 11 rfl ?_;refine Zz3 hall rfl trivial ?_;dsimp only [go_sem];refine Z75 hall hs haf hnap 1 0 ?_;dsimp only [go_sem];refine An ?_;refine Zt3 rfl ?_ _;exact Zt4 J3 (s:=(x24.2,x24.1)) h (hok:=by first | rfl | simp [go_sem,Z84 _ hc2.pu])
       ·refine Zz3 hall rfl trivial ?_;dsimp only [go_sem];refine Zu3 6 rfl ?_;refine Z04 hall rfl trivial (Zii x22 x21 _ ex24) (hp:=(by first | rfl | simp [go_sem,hc2.pu])) (h:=?_);dsimp only [go_sem];refine Z75 hall hs haf hnap 3 2 ?_;dsimp only [go_sem];refine An ?_;refine Zu3 11 rfl ?_;refine Zz3 hall rfl trivial ?_;dsimp only [go_sem];refine Z75 hall hs haf hnap 1 0 ?_;dsimp only [go_sem];refine An ?_;refine Zt3 rfl ?_ _;exact Zt4 J3 (s:=(x24.2,x24.1)) h (hok:=by first | rfl | simp [go_sem,Z84 _ hc2.pu])
      ·refine Zz3 hall rfl trivial ?_;dsimp only [go_sem];refine Zu3 1 rfl ?_;refine Z04 hall rfl trivial (Zli x20 _ ex22) (hp:=(by first | rfl | simp [go_sem,hc2.pu])) (h:=?_);dsimp only [go_sem];refine Zu3 6 rfl ?_;obtain ⟨x24,ex24,h⟩:=Bs h;refine Z04 hall rfl trivial (Zii x22 x21 _ ex24) (hp:=(by first | rfl | simp [go_sem,hc2.pu])) (h:=?_);dsimp only [go_sem];refine Z75 hall hs haf hnap 3 2 ?_;dsimp only [go_sem];refine An ?_;refine Zu3 11 rfl ?_;refine Zz3 hall rfl trivial ?_;dsimp only [go_sem]
       refine Z75 hall hs haf hnap 1 0 ?_;dsimp only [go_sem];refine An ?_;refine Zt3 rfl ?_ _;exact Zt4 J3 (s:=(x24.2,x24.1)) h (hok:=by first | rfl | simp [go_sem,Z84 _ hc2.pu])
    ·refine Zo2 1 ?_;dsimp only [go_sem];refine An ?_;exact Zt4 J2 (s:=x20) (Zg4 h hout1) (hok:=by first | rfl | simp [go_sem,Z84 _ hc2.pu])
 ·refine Zq4 21 h rfl (fun _ h=>?_) fun _ h=>?_
  ·dsimp only [go_sem];refine Zo2 6 ?_;dsimp only [go_sem];refine An ?_;exact Zt4 J1 (s:=true) h (hok:=by first | rfl | simp [go_sem,Z84 _ hc2.pu])
  ·dsimp only [go_sem];refine Zo2 2 ?_;dsimp only [go_sem];refine An ?_;obtain ⟨x5,ex5,h⟩:=Bs h;refine Zw4 trivial rfl hc2 (x:=x4.1) ex5 (by first | exact Z94 _ | simp [go_sem]) (by first | rfl | simp [go_sem,hc2.pu]) ?_;refine Zo2 3 ?_;dsimp only [go_sem];refine An ?_;exact Zt4 J1 (s:=!x5) h (hok:=by first | rfl | simp [go_sem,Z84 _ hc2.pu])
def actT (s:Scene) (a:narthexlaw14_Act):Scene:=if (Zmc s a.K a.A a.B).2=0 then (Zmc s a.K a.A a.B).1 else s
def Z1j (g:Graph) (l:List narthexlaw14_Act):Scene:=l.foldl actT (Zpd g)
theorem s_Phases (s:Scene) (p:Int) (hD:Zv7 s.Diners):Zqi s p=some (Zoe s.Diners p):=by
 unfold Zqi
 refine Zm7 s.Diners (Zpi s p) (fun pre=>((pre.length:Int),Zoe pre p)) _ (fun pre d post h=>?_) ?_
 ·have hx:=Zn7 h
  have hm:=Zo7 h
  have:=hD.1
  have hl:(Zoe pre p).length≤pre.length:=by unfold Zoe;rw [List.length_map];exact List.length_filter_le _ _
  have e:Zoe (pre++[d]) p=if d.Phase=p then Zoe pre p++[d.ID] else Zoe pre p:=by
   unfold Zoe
   by_cases hp:d.Phase=p<;>simp [hp]
  dsimp only [Zpi]
  rw [Z06 hx,Zu5,Zy5 hx,Option.bind_some,e,Zr7]
  by_cases hp:d.Phase=p
  ·rw [decide_eq_true hp,Zu5,Zz5 _ _ (by omega) (by simp only [List.length_singleton];omega),Option.bind_some,if_pos hp]
   dsimp only [Zoi];rw [Z26 (by omega)]
  ·rw [decide_eq_false hp,Zv5,if_neg hp]
   dsimp only [Zoi];rw [Z26 (by omega)]
 ·dsimp only [Zpi]
  rw [Z16,Zv5];rfl
theorem s_run14 {g:Graph} (hg:okG g=true) (hN:g.N≤60) {J:Scene→Prop} (hJ:∀s,J s→Inv g s) (h0:J (Zpd g)) (hs:∀s k a b,J s→(Zmc s k a b).2=0→J (Zmc s k a b).1)
  (l:List narthexlaw14_Act) (hl:l.length≤80) (p:Scene→Option Bool) (hp:∀s,J s→s.Mail.length≤20000→p s=some true):
  Zzi g l p=some (Z1j g l,true)∧J (Z1j g l)∧(Z1j g l).Mail.length≤128*l.length:=by
 have inv:∀(l:List narthexlaw14_Act) s,J s→J (l.foldl actT s)∧(l.foldl actT s).Mail.length≤s.Mail.length+128*l.length:=fun l=>by
  induction l with
  | nil=>exact fun s h=>⟨h,by simp⟩
  | cons a l ih=>
    intro s h
    have h1:J (actT s a)∧(actT s a).Mail.length≤s.Mail.length+128:=by
     unfold actT
     split
     ·rename_i h2;exact ⟨hs _ _ _ _ h h2,actA_mail h2⟩
     ·exact ⟨h,by omega⟩
    have h3:=ih _ h1.1
    rw [List.foldl_cons,List.length_cons]
    exact ⟨h3.1,by omega⟩
 have e0:(Zpd g).Mail.length=0:=rfl
 have hrun:=inv l (Zpd g) h0
 refine ⟨?_,hrun.1,by have:=hrun.2;rw [e0] at this;unfold Z1j;omega⟩
 obtain ⟨g1,g2,g3,_,_⟩:=Zd7 hg
 simp only [Zzi,s_Own03 g (by omega),Option.bind_some,s_New,hg,if_true,decide_true,Bool.not_true,Zv5,hp _ h0 (by rw [e0];omega),Zyi]
 refine Zl7 l (Zxi l p) (fun pre=>((pre.length:Int),Z1j g pre)) (fun _ _=>some (Z1j g l,true)) (fun pre a post h=>.inl ⟨?_,rfl⟩) ?_
 ·have hx:=Zn7 h
  have hm:=Zo7 h
  obtain ⟨k1,k2⟩:=inv pre (Zpd g) h0
  rw [e0] at k2
  have k1':J (Z1j g pre):=k1
  have k2':(Z1j g pre).Mail.length≤128*pre.length:=by unfold Z1j;omega
  have hI:=hJ _ k1'
  have er:Z1j g (pre++[a])=actT (Z1j g pre) a:=by unfold Z1j;rw [List.foldl_append];rfl
  obtain ⟨ak,aa,ab⟩:=a
  obtain ⟨f1,f2⟩:=actA_inv hg hN hI ak aa ab
  have hT:=inv [⟨ak,aa,ab⟩] (Z1j g pre) k1'
  simp only [List.foldl_cons,List.foldl_nil,List.length_singleton] at hT
  have pT:p (actT (Z1j g pre) ⟨ak,aa,ab⟩)=some true:=hp _ hT.1 (by omega)
  dsimp only [Zxi]
  rw [Z06 hx,Zu5,Zy5 hx,Option.bind_some,s_own14 _ (hI.few hg) (by omega),Option.bind_some,s_act14 _ ak aa ab (hI.few hg) (by omega),Option.bind_some,er,Zr7]
  have ej:∀z:Scene,p z=some true→Zui p (pre.length:Int) z=some (.inl (((pre.length+1:Nat):Int),z)):=fun z hz=>by
   dsimp only [Zui]
   rw [hz,Option.bind_some,Z26 (by omega)];rfl
  have e3:Zwi p (pre.length:Int) (Z1j g pre) ((Zmc (Z1j g pre) ak aa ab).2,(Zmc (Z1j g pre) ak aa ab).1)=Zvi p (pre.length:Int) (Z1j g pre) (Zmc (Z1j g pre) ak aa ab).2 (Zmc (Z1j g pre) ak aa ab).1 false:=by
   unfold fineE at f1
   dsimp only [Zwi]
   cases c1:decide ((Zmc (Z1j g pre) ak aa ab).2=0) with
   | true=>rfl
   | false=>
     cases c2:decide ((Zmc (Z1j g pre) ak aa ab).2=134) with
     | true=>rfl
     | false=>
       cases c3:decide ((Zmc (Z1j g pre) ak aa ab).2=141) with
       | true=>rfl
       | false=>
         rw [c1,c2,c3,Bool.false_or,Bool.false_or,Bool.false_or] at f1
         rw [f1];rfl
  rw [e3]
  dsimp only [Zvi]
  rw [Zv5]
  unfold actT at pT ⊢
  dsimp only at pT ⊢
  by_cases hz:(Zmc (Z1j g pre) ak aa ab).2=0
  ·rw [if_pos hz] at pT ⊢
   rw [decide_eq_true hz,Zu5,ej _ pT]
  ·rw [if_neg hz] at pT ⊢
   rw [decide_eq_false hz,Zv5,ej _ pT]
 ·dsimp only [Zxi]
  rw [Z16,Zv5];rfl
set_option maxRecDepth 100000
set_option maxHeartbeats 4000000
@[go_sem] def e54_L0:EC:=.seq (.reg [(Qa 14 (.bin .lss (.t 13) (.t 12)))]) (.seq (.ite (.t 14) (.skip) (.exit 0)) (.seq (.blk 1 (.seq (.reg [(Qm 15 13),(Qm 5 15)]) (.seq (.drw [(Qm 16 0),(Qm 17 5),(Qk 18 5 16 17),(Qe 19 5 18),(Qm 20 1),(Qm 21 5),(Qk 22 5 20 21),(Qe 23 5 22),(Qa 24 (.eqs true [true,true,true,true,true] (.t 19) (.t 23)))] [[],[],[0,1],[2],[],[],[4,5],[6],[3,7]] [[2],[2],[0,1,3],[2,8],[6],[6],[4,5,7],[6,8],[3,7]]) (.ite (.t 24) (.seq (.reg [(Qa 4 (.mv (.c .ff)))]) (.ret)) (.skip))))) (.reg [(Qv 25 13 1),(Qm 13 25)])))
@[go_sem] def e54:EC:=.seq (.reg [(Qa 4 (.mv (.c .ff)))]) (.seq (.seq (.reg [(Qm 6 0),(Qa 7 (.len (.t 6))),(Qm 8 1),(Qa 9 (.len (.t 8))),(Qa 10 (.bin .neq (.t 7) (.t 9)))]) (.ite (.t 10) (.seq (.reg [(Qa 4 (.mv (.c .ff)))]) (.ret)) (.skip))) (.seq (.seq (.reg [(Qm 11 0),(Qa 12 (.len (.t 11))),(Qi 13 0)]) (.blk 0 (.loop e54_L0))) (.seq (.reg [(Qa 4 (.mv (.c .tt)))]) (.ret))))
theorem ok54:FnOK Tryz.prog 54 Tryz.f54 e54 [.t 4] 2 24:=⟨by kernel_rfl,⟨_,rfl,by kernel_rfl⟩,by kernel_rfl,by kernel_rfl⟩
noncomputable def Z2j:Unit→Option Bool
| ()=>
 some true
noncomputable def Z3j (x1:(List Mail)) (x2:(List Mail)):Int→Option (Int ⊕ Bool)
| x6=>
 ifb (decide (x6<(ln Mail.row x1))) (
 (at_ x1 x6).bind fun x7=>
 (at_ x2 x6).bind fun x8=>
 ifb (!(decide (x7.From=x8.From)&&(decide (x7.To=x8.To)&&(decide (x7.Msg.Kind=x8.Msg.Kind)&&(decide (x7.Msg.Epoch=x8.Msg.Epoch)&&(decide (x7.Msg.Num=x8.Msg.Num)&&true)))))) (
 Option.map Sum.inr (some false)) (
 some (.inl (wr (x6+1))))) (
 Option.map Sum.inr (Z2j ()))
noncomputable def Z4j (x1:(List Mail)) (x2:(List Mail)):Option Bool:=
 ifb (!decide ((ln Mail.row x1)=(ln Mail.row x2))) (
 some false) (
 loop (Z3j x1 x2) 0)
theorem Z5j (x1:(List Mail)) (x2:(List Mail)) (r:Bool) (h:Z4j x1 x2=some r):Zu2 Tryz.prog 54 [.sl 5 (List.map Mail.row x1),.sl 5 (List.map Mail.row x2)] (.bv r):=by
 refine Zy2 ok54 rfl rfl fun w0 H0=>?_
 rw [Z4j] at h
 refine Zo2 13 ?_;dsimp only [go_sem];refine An ?_;refine Zj4 h rfl (fun _ h=>?_) fun _ h=>?_
 ·refine Zo2 4 ?_;dsimp only [go_sem];refine An ?_;exact Zr4 (res:=fun (r:Bool)=>.bv r) ok54 h
 ·refine Zo2 8 ?_;dsimp only [go_sem];refine An ?_;refine Zh4 (fun (_:Unit)=>(⟨(an 26 []),[],[]⟩:St)) Z2j r ?_ fun J1=>?_
  ·rintro ⟨⟩ h;rw [Z2j] at h;(try dsimp only);refine Zo2 4 ?_;dsimp only [go_sem];refine An ?_;exact Zr4 (res:=fun (r:Bool)=>.bv r) ok54 h
  ·refine Zo2 1 ?_;dsimp only [go_sem];refine An ?_;refine Zi4 h (fun (x6:Int)=>(⟨(.sl 5 (List.map Mail.row x1) :: .sl 5 (List.map Mail.row x2)::an 10 (.iv (ln Mail.row x1) :: .iv x6::an 12 [])),[],[]⟩:St)) (by simp [go_sem]) (by intro x6;first | rfl | simp [go_sem]) ?_;rintro n1 x6 y1 h hin1 hout1;rw [Z3j] at h;(try dsimp only);refine Zo2 5 ?_;dsimp only [go_sem];refine An ?_;refine Zj4 h rfl (fun _ h=>?_) fun _ h=>?_
   ·refine Zo2 9 ?_;dsimp only [go_sem];refine An ?_;refine Zj3 (by kernel_rfl) fun all hall hs hnap haf=>?_;dsimp only [go_sem];refine Z75 hall hs haf hnap 4 5 ?_;dsimp only [go_sem];refine An ?_;obtain ⟨x7,ex7,h⟩:=Bs h;refine Zn4 hall hs haf hnap 2 Mail.row ex7 rfl rfl trivial rfl rfl rfl rfl ?_;refine Z75 hall hs haf hnap 1 3 ?_;dsimp only [go_sem];refine An ?_;obtain ⟨x8,ex8,h⟩:=Bs h;refine Zn4 hall hs haf hnap 6 Mail.row ex8 rfl rfl trivial rfl rfl rfl rfl ?_;refine Z75 hall hs haf hnap 2 0 ?_;dsimp only [go_sem];refine An ?_
    refine Zt3 rfl ?_ _;refine Zj4 h rfl (fun _ h=>?_) fun _ h=>?_
    ·refine Zo2 4 ?_;dsimp only [go_sem];refine An ?_;exact Zr4 (res:=fun (r:Bool)=>.bv r) ok54 (Zg4 h hout1)
    ·refine Zo2 6 ?_;dsimp only [go_sem];refine An ?_;exact Zs4 h hin1
   ·refine Zo2 1 ?_;dsimp only [go_sem];refine An ?_;exact Zt4 J1 (s:=()) (Zg4 h hout1)
set_option maxRecDepth 100000
set_option maxHeartbeats 4000000
@[go_sem] def e19:EC:=.seq (.reg [(Qx 2 25 2 0),(Qx 3 25 2 1),(Qa 4 (.mv (.c .ff)))]) (.seq (.reg [(Qf 5 0 2),(Ql 6 5),(Qf 7 0 3),(Ql 8 7),(Qa 9 (.call 53 [(.t 6),(.t 8)])),(Qm 10 9),(Qh 11 10 true 1 2),(Qn 12 10 true 11),(Qh 13 10 true 1 3),(Qn 14 10 true 13),(Qg 15 10 true (.call 54 [(.t 12),(.t 14)])),(Qp 16 10 15),(Qm 4 16)]) (.ret))
theorem ok19:FnOK Tryz.prog 19 Tryz.f19 e19 [.t 4] 2 15:=⟨by kernel_rfl,⟨_,rfl,by kernel_rfl⟩,by kernel_rfl,by kernel_rfl⟩
noncomputable def Z6j:Bool→Option Bool
| x5=>
 some x5
noncomputable def Z7j (x1:Scene) (x2:Scene):Option Bool:=
 (Zrh x1.Diners x2.Diners).bind fun x3=>
 ifb x3 (
 (Z4j x1.Mail x2.Mail).bind fun x4=>
 Z6j x4) (
 Z6j false)
theorem Z8j (x1:Scene) (x2:Scene) (r:Bool) (h:Z7j x1 x2=some r):Zu2 Tryz.prog 19 [.agg (Scene.row x1),.agg (Scene.row x2)] (.bv r):=by
 refine Zy2 ok19 rfl rfl fun w0 H0=>?_
 rw [Z7j] at h
 refine Zo2 12 ?_;dsimp only [go_sem];refine An ?_;obtain ⟨x3,ex3,h⟩:=Bs h;refine Z33 trivial (k_place_Same x1.Diners x2.Diners _ ex3) (h:=?_);refine Zo2 1 ?_;dsimp only [go_sem];refine An ?_;refine Zh4 (fun (x5:Bool)=>(⟨(an 4 (.bv x5::an 12 [])),[],[]⟩:St)) Z6j r ?_ fun J1=>?_
 ·intro x5 h;rw [Z6j] at h;(try dsimp only);exact Zr4 (res:=fun (r:Bool)=>.bv r) ok19 h
 ·refine Zq4 10 h rfl (fun _ h=>?_) fun _ h=>?_
  ·dsimp only [go_sem];refine Zo2 4 ?_;dsimp only [go_sem];refine An ?_;obtain ⟨x4,ex4,h⟩:=Bs h;refine Z33 trivial (Z5j x1.Mail x2.Mail _ ex4) (h:=?_);refine Zo2 3 ?_;dsimp only [go_sem];refine An ?_;exact Zt4 J1 (s:=x4) h
  ·dsimp only [go_sem];refine Zo2 8 ?_;dsimp only [go_sem];refine An ?_;exact Zt4 J1 (s:=false) h
set_option maxRecDepth 100000
set_option maxHeartbeats 4000000
@[go_sem] def e6:EC:=.seq (.reg [(Qa 0 (.mv (.c .ff)))]) (.seq (.reg [(Qa 16 (.build [.iv 0,.iv 0] [(0,1,(.c (.iv 0))),(1,1,(.c (.iv 1)))])),(Qa 17 (.bsl 29 2 1 [.iv 0,.iv 0] [(0,(.t 16))])),(Qa 18 (.build [.iv 0,.nl] [(0,1,(.c (.iv 2))),(1,1,(.t 17))])),(Qa 19 (.call 20 [(.t 18)])),(Qm 15 19),(Qa 20 (.ext (.t 15) 0)),(Qa 21 (.ext (.t 15) 1)),(Qa 1 (.alloc 25 [.nl,.nl])),(Qs 2 1 20),(Qm 2 21)]) (.seq (.seq (.reg [(Qm 22 2),(Qa 23 (.bin .neq (.t 22) (.c (.iv 0)))),(Qm 24 23),(Qh 25 24 false 0 1),(Qn 26 24 false 25),(Qg 27 24 false (.len (.t 26))),(Qg 28 24 false (.bin .neq (.t 27) (.c (.iv 2)))),(Qq 29 24 28)]) (.ite (.t 29) (.seq (.reg [(Qa 0 (.mv (.c .ff)))]) (.ret)) (.skip))) (.seq (.reg [(Qf 31 0 1),(Ql 32 31),(Qa 33 (.idx 3 (.t 32) (.c (.iv 0)))),(Qe 34 3 33),(Qa 35 (.call 31 [(.t 34),(.c (.iv 1))])),(Qm 30 35),(Qa 36 (.ext (.t 30) 0)),(Qa 37 (.ext (.t 30) 1)),(Qa 3 (.alloc 65 [.iv 0,.iv 0,.iv 0,.ff,.ff,.ff,.ff,.ff])),(Qs 8 3 36),(Qm 4 37)]) (.seq (.reg [(Qi 5 0)]) (.seq (.seq (.reg [(Qf 38 3 3),(Ql 39 38)]) (.ite (.t 39) (.reg [(Qi 5 1)]) (.skip))) (.seq (.reg [(Qe 41 2 1),(Qm 42 5),(Qa 43 (.call 32 [(.t 41),(.t 42)])),(Qm 40 43),(Qa 44 (.ext (.t 40) 0)),(Qa 45 (.ext (.t 40) 1)),(Qs 2 1 44),(Qm 6 45)]) (.seq (.reg [(Qe 47 2 1),(Qm 48 5),(Qm 49 5),(Qa 50 (.bin .sub (.c (.iv 1)) (.t 49))),(Qa 51 (.call 33 [(.t 47),(.t 48),(.t 50)])),(Qm 46 51),(Qa 52 (.ext (.t 46) 0)),(Qa 53 (.ext (.t 46) 1)),(Qs 2 1 52),(Qm 7 53)]) (.seq (.reg [(Qe 54 2 1),(Qa 55 (.build [.iv 0,.iv 0] [(0,1,(.c (.iv 0))),(1,1,(.c (.iv 1)))])),(Qa 56 (.call 14 [(.t 54),(.t 55),(.c (.iv 1))])),(Qm 8 56)]) (.seq (.reg [(Qe 58 2 1),(Qm 59 5),(Qa 60 (.bin .sub (.c (.iv 1)) (.t 59))),(Qm 61 5),(Qa 62 (.call 33 [(.t 58),(.t 60),(.t 61)])),(Qm 57 62),(Qa 63 (.ext (.t 57) 0)),(Qa 64 (.ext (.t 57) 1)),(Qs 2 1 63),(Qm 9 64)]) (.seq (.reg [(Qe 65 2 1),(Qa 66 (.call 17 [(.t 65),(.c (.iv 2))])),(Qm 10 66)]) (.seq (.reg [(Qe 68 2 1),(Qm 69 5),(Qa 70 (.call 34 [(.t 68),(.t 69)])),(Qm 67 70),(Qa 71 (.ext (.t 67) 0)),(Qa 72 (.ext (.t 67) 1)),(Qa 11 (.alloc 25 [.nl,.nl])),(Qs 2 11 71),(Qm 12 72)]) (.seq (.reg [(Qe 74 2 1),(Qa 75 (.call 33 [(.t 74),(.c (.iv 0)),(.c (.iv 1))])),(Qm 73 75),(Qa 76 (.ext (.t 73) 0)),(Qa 77 (.ext (.t 73) 1)),(Qa 13 (.alloc 25 [.nl,.nl])),(Qs 2 13 76),(Qm 14 77)]) (.seq (.reg [(Qm 78 6),(Qa 79 (.bin .eql (.t 78) (.c (.iv 0)))),(Qm 80 79),(Qg 81 80 true (.mv (.t 7))),(Qg 82 80 true (.bin .eql (.t 81) (.c (.iv 0)))),(Qp 83 80 82),(Qm 84 83),(Qg 85 84 true (.mv (.t 8))),(Qg 86 84 true (.bin .eql (.t 85) (.c (.iv 1)))),(Qp 87 84 86),(Qm 88 87),(Qg 89 88 true (.mv (.t 9))),(Qg 90 88 true (.bin .eql (.t 89) (.c (.iv 0)))),(Qp 91 88 90),(Qm 92 91),(Qg 93 92 true (.mv (.t 10))),(Qg 94 92 true (.len (.t 93))),(Qg 95 92 true (.bin .eql (.t 94) (.c (.iv 1)))),(Qp 96 92 95),(Qm 97 96),(Qg 98 97 true (.mv (.t 10))),(Qg 99 97 true (.idx 1 (.t 98) (.c (.iv 0)))),(Qn 100 97 true 99),(Qg 101 97 true (.mv (.t 5))),(Qg 102 97 true (.bin .eql (.t 100) (.t 101))),(Qp 103 97 102),(Qm 104 103),(Qg 105 104 true (.mv (.t 12))),(Qg 106 104 true (.bin .eql (.t 105) (.c (.iv 0)))),(Qp 107 104 106),(Qm 108 107),(Qg 109 108 true (.mv (.t 14))),(Qg 110 108 true (.bin .eql (.t 109) (.c (.iv 141)))),(Qp 111 108 110),(Qm 112 111),(Qg 113 112 true (.loadA 2 (.t 1))),(Qg 114 112 true (.call 12 [(.t 113)])),(Qg 115 112 true (.bin .eql (.t 114) (.c (.iv 0)))),(Qp 116 112 115),(Qm 117 116),(Qg 118 117 true (.loadA 2 (.t 1))),(Qg 119 117 true (.loadA 2 (.t 1))),(Qg 120 117 true (.call 19 [(.t 118),(.t 119)])),(Qp 121 117 120),(Qm 122 121),(Qg 123 122 true (.loadA 2 (.t 1))),(Qg 124 122 true (.loadA 2 (.t 11))),(Qg 125 122 true (.call 19 [(.t 123),(.t 124)])),(Qg 126 122 true (.not (.t 125))),(Qp 127 122 126),(Qm 0 127)]) (.ret))))))))))))))
theorem ok6:FnOK Tryz.prog 6 Tryz.f6 e6 [.t 0] 0 128:=⟨by kernel_rfl,⟨_,rfl,by kernel_rfl⟩,by kernel_rfl,by kernel_rfl⟩
noncomputable def Z9j:Bool→Option Bool
| x17=>
 some x17
noncomputable def Zaj (x1:(Scene×Int)):Int→Option Bool
| x5=>
 (Z4i x1.1 x5).bind fun x6=>
 (Zfi x6.1 x5 (wr (1-x5))).bind fun x7=>
 (Zie x7.1 ((Edge.mk 0 1)) 1).bind fun x8=>
 (Zfi x7.1 (wr (1-x5)) x5).bind fun x9=>
 (Zqi x9.1 2).bind fun x10=>
 (Z6i x9.1 x5).bind fun x11=>
 (Zfi x9.1 0 1).bind fun x12=>
 ifb (decide (x6.2=0)) (
 ifb (decide (x7.2=0)) (
 ifb (decide (x8=1)) (
 ifb (decide (x9.2=0)) (
 ifb (decide ((ln Zx4 x10)=1)) (
 (at_ x10 0).bind fun x13=>
 ifb (decide (x13=x5)) (
 ifb (decide (x11.2=0)) (
 ifb (decide (x12.2=141)) (
 (Zyb x9.1).bind fun x14=>
 ifb (decide (x14=0)) (
 (Z7j x9.1 x9.1).bind fun x15=>
 ifb x15 (
 (Z7j x9.1 x11.1).bind fun x16=>
 Z9j (!x16)) (
 Z9j false)) (
 Z9j false)) (
 Z9j false)) (
 Z9j false)) (
 Z9j false)) (
 Z9j false)) (
 Z9j false)) (
 Z9j false)) (
 Z9j false)) (
 Z9j false)
noncomputable def Zbj (x1:(Scene×Int)):Bool→Option Bool
| x2=>
 ifb x2 (
 some false) (
 (at_ x1.1.Diners 0).bind fun x3=>
 (Zh7 x3 1).bind fun x4=>
 ifb x4.1.Fork (
 (Zaj x1) 1) (
 (Zaj x1) 0))
noncomputable def Zcj:Option Bool:=
 (Zhd ((Graph.mk 2 ([(Edge.mk 0 1)])))).bind fun x1=>
 ifb (!decide (x1.2=0)) (
 (Zbj x1) true) (
 (Zbj x1) (!decide ((ln Diner.row x1.1.Diners)=2)))
theorem Zdj (r:Bool) (h:Zcj=some r):Zu2 Tryz.prog 6 [] (.bv r):=by
 refine Zy2 ok6 rfl rfl fun w0 H0=>?_
 rw [Zcj] at h
 refine Zo2 9 ?_;dsimp only [go_sem];refine An ?_;refine Zb3 0 rfl ?_;dsimp only [go_sem];obtain ⟨x1,ex1,h⟩:=Bs h;refine Z33 trivial (Zid ((Graph.mk 2 ([(Edge.mk 0 1)]))) _ ex1) (h:=?_);refine Zo2 13 ?_;dsimp only [go_sem];refine An ?_;refine Zh4 (fun (x2:Bool)=>(⟨(.any :: .ptr 0 0::an 27 (.bv x2::an 98 [])),[some ⟨25,[.sl 3 (List.map Diner.row x1.1.Diners),.sl 5 (List.map Mail.row x1.1.Mail)]⟩],[]⟩:St)) (Zbj x1) r ?_ fun J1=>?_
 ·intro x2 h;rw [Zbj] at h;(try dsimp only);refine Zj4 h rfl (fun _ h=>?_) fun _ h=>?_
  ·refine Zo2 4 ?_;dsimp only [go_sem];refine An ?_;exact Zr4 (res:=fun (r:Bool)=>.bv r) ok6 h
  ·refine Zo2 5 ?_;dsimp only [go_sem];refine An ?_;obtain ⟨x3,ex3,h⟩:=Bs h;refine Zm4 Diner.row ex3 trivial rfl rfl rfl ?_;refine Zo2 1 ?_;dsimp only [go_sem];refine An ?_;obtain ⟨x4,ex4,h⟩:=Bs h;refine Z33 trivial (Zi7 x3 1 _ ex4) (h:=?_);refine Zo2 17 ?_;dsimp only [go_sem];refine An ?_;refine Zh4 (fun (x5:Int)=>(⟨(.any :: .ptr 0 0::an 3 (.iv x5::an 122 [])),[some ⟨25,[.sl 3 (List.map Diner.row x1.1.Diners),.sl 5 (List.map Mail.row x1.1.Mail)]⟩],[]⟩:St)) (Zaj x1) r ?_ fun J2=>?_
   ·intro x5 h;rw [Zaj] at h;(try dsimp only);refine Zo2 4 ?_;dsimp only [go_sem];refine An ?_;obtain ⟨x6,ex6,h⟩:=Bs h;refine Z33 trivial (Z5i x1.1 x5 _ ex6) (h:=?_);refine Zo2 12 ?_;dsimp only [go_sem];refine An ?_;obtain ⟨x7,ex7,h⟩:=Bs h;refine Z33 trivial (Zgi x6.1 x5 (wr (1-x5)) _ ex7) (h:=?_);refine Zo2 10 ?_;dsimp only [go_sem];refine An ?_;obtain ⟨x8,ex8,h⟩:=Bs h;refine Z33 trivial (k_table_Count x7.1 ((Edge.mk 0 1)) 1 _ ex8) (h:=?_);refine Zo2 8 ?_;dsimp only [go_sem];refine An ?_
    obtain ⟨x9,ex9,h⟩:=Bs h;refine Z33 trivial (Zgi x7.1 (wr (1-x5)) x5 _ ex9) (h:=?_);refine Zo2 9 ?_;dsimp only [go_sem];refine An ?_;obtain ⟨x10,ex10,h⟩:=Bs h;refine Z33 trivial (Zsi x9.1 2 _ ex10) (h:=?_);refine Zo2 6 ?_;dsimp only [go_sem];refine An ?_;obtain ⟨x11,ex11,h⟩:=Bs h;refine Z33 trivial (Z7i x9.1 x5 _ ex11) (h:=?_);refine Zo2 10 ?_;dsimp only [go_sem];refine An ?_;obtain ⟨x12,ex12,h⟩:=Bs h;refine Z33 trivial (Zgi x9.1 0 1 _ ex12) (h:=?_);refine Zo2 12 ?_;dsimp only [go_sem]
    refine An ?_;refine Zh4 (fun (x17:Bool)=>(⟨(.bv x17::an 127 []),[],[]⟩:St)) Z9j r ?_ fun J3=>?_
    ·intro x17 h;rw [Z9j] at h;(try dsimp only);exact Zr4 (res:=fun (r:Bool)=>.bv r) ok6 h
    ·refine Zq4 80 h rfl (fun _ h=>?_) fun _ h=>?_
     ·dsimp only [go_sem];refine Zo2 4 ?_;dsimp only [go_sem];refine An ?_;refine Zq4 84 h rfl (fun _ h=>?_) fun _ h=>?_
      ·dsimp only [go_sem];refine Zo2 4 ?_;dsimp only [go_sem];refine An ?_;refine Zq4 88 h rfl (fun _ h=>?_) fun _ h=>?_
       ·dsimp only [go_sem];refine Zo2 4 ?_;dsimp only [go_sem];refine An ?_;refine Zq4 92 h rfl (fun _ h=>?_) fun _ h=>?_
        ·dsimp only [go_sem];refine Zo2 5 ?_;dsimp only [go_sem];refine An ?_;refine Zq4 97 h rfl (fun _ h=>?_) fun _ h=>?_
         ·dsimp only [go_sem];refine Zo2 1 ?_;dsimp only [go_sem];refine An ?_;obtain ⟨x13,ex13,h⟩:=Bs h;refine Zm4 Zx4 ex13 trivial rfl rfl rfl ?_;refine Zo2 5 ?_;dsimp only [go_sem];refine An ?_;refine Zq4 104 h rfl (fun _ h=>?_) fun _ h=>?_
          ·dsimp only [go_sem];refine Zo2 4 ?_;dsimp only [go_sem];refine An ?_;refine Zq4 108 h rfl (fun _ h=>?_) fun _ h=>?_
           ·dsimp only [go_sem];refine Zo2 4 ?_;dsimp only [go_sem];refine An ?_;refine Zq4 112 h rfl (fun _ h=>?_) fun _ h=>?_
            ·dsimp only [go_sem];refine Zo2 1 ?_;dsimp only [go_sem];refine An ?_;obtain ⟨x14,ex14,h⟩:=Bs h;refine Z33 trivial (Zzb x9.1 _ ex14) (h:=?_);refine Zo2 3 ?_;dsimp only [go_sem];refine An ?_;refine Zq4 117 h rfl (fun _ h=>?_) fun _ h=>?_
             ·dsimp only [go_sem];refine Zo2 2 ?_;dsimp only [go_sem];refine An ?_;obtain ⟨x15,ex15,h⟩:=Bs h;refine Z33 trivial (Z8j x9.1 x9.1 _ ex15) (h:=?_);refine Zo2 2 ?_;dsimp only [go_sem];refine An ?_;refine Zq4 122 h rfl (fun _ h=>?_) fun _ h=>?_
              ·dsimp only [go_sem];refine Zo2 2 ?_;dsimp only [go_sem];refine An ?_;obtain ⟨x16,ex16,h⟩:=Bs h;refine Z33 trivial (Z8j x9.1 x11.1 _ ex16) (h:=?_);refine Zo2 4 ?_;dsimp only [go_sem];refine An ?_;exact Zt4 J3 (s:=!x16) h
              ·dsimp only [go_sem];refine Zo2 7 ?_;dsimp only [go_sem];refine An ?_;exact Zt4 J3 (s:=false) h
             ·dsimp only [go_sem];refine Zo2 12 ?_;dsimp only [go_sem];refine An ?_;exact Zt4 J3 (s:=false) h
            ·dsimp only [go_sem];refine Zo2 17 ?_;dsimp only [go_sem];refine An ?_;exact Zt4 J3 (s:=false) h
           ·dsimp only [go_sem];refine Zo2 21 ?_;dsimp only [go_sem];refine An ?_;exact Zt4 J3 (s:=false) h
          ·dsimp only [go_sem];refine Zo2 25 ?_;dsimp only [go_sem];refine An ?_;exact Zt4 J3 (s:=false) h
         ·dsimp only [go_sem];refine Zo2 32 ?_;dsimp only [go_sem];refine An ?_;exact Zt4 J3 (s:=false) h
        ·dsimp only [go_sem];refine Zo2 37 ?_;dsimp only [go_sem];refine An ?_;exact Zt4 J3 (s:=false) h
       ·dsimp only [go_sem];refine Zo2 41 ?_;dsimp only [go_sem];refine An ?_;exact Zt4 J3 (s:=false) h
      ·dsimp only [go_sem];refine Zo2 45 ?_;dsimp only [go_sem];refine An ?_;exact Zt4 J3 (s:=false) h
     ·dsimp only [go_sem];refine Zo2 49 ?_;dsimp only [go_sem];refine An ?_;exact Zt4 J3 (s:=false) h
   ·refine Zj4 h rfl (fun _ h=>?_) fun _ h=>?_
    ·refine Zo2 3 ?_;dsimp only [go_sem];refine An ?_;exact Zt4 J2 (s:=1) h
    ·refine Zo2 1 ?_;dsimp only [go_sem];refine An ?_;exact Zt4 J2 (s:=0) h
 ·refine Zq4 24 h rfl (fun _ h=>?_) fun _ h=>?_
  ·dsimp only [go_sem];refine Zo2 6 ?_;dsimp only [go_sem];refine An ?_;exact Zt4 J1 (s:=true) h
  ·dsimp only [go_sem];refine Zo2 6 ?_;dsimp only [go_sem];refine An ?_;exact Zt4 J1 (s:=!decide ((ln Diner.row x1.1.Diners)=2)) h
theorem s_EqualMail (l m:List Mail) (hl:l.length≤1000000):Z4j l m=some (decide (l=m)):=by
 simp only [Z4j,ln_dec]
 by_cases h:l.length=m.length
 ·simp only [h,decide_true,Bool.not_true,Zv5]
  rw [Zt7 l m _ (fun x y=>decide (x=y)) h (by omega) (fun k x y hx hy=>by
   simp only [Z3j,Z06 hx,Zu5,Zy5 hx,Zy5 hy,Option.bind_some,Mail_eqB,Z36 hx (show l.length≤4000000000000000000 by omega),Zw5]
   cases decide (x=y)<;>rfl) (by simp only [Z3j,Z16,Zv5,Z2j,Option.map_some]),Zu7 l m h]
 ·simp [h,len_ne h]
theorem s_tSame (s t:Scene) (hD:Zv7 s.Diners) (hM:s.Mail.length≤900000):Z7j s t=some (decide (s=t)):=by
 obtain ⟨l,m⟩:=s
 obtain ⟨l',m'⟩:=t
 simp only [Z7j,Z6j,s_placeSame _ _ hD,s_EqualMail m m' (by simp only at hM;omega),Option.bind_some,Scene.mk.injEq]
 by_cases h1:l=l'<;>by_cases h2:m=m'<;>simp [h1,h2]
def g14:Graph:=⟨2,[⟨0,1⟩]⟩
def w0:Scene:=Zpd g14
def w1:Scene×Int:=Zic w0 1 fun d=>Zsa d 0 1
def w2:Scene×Int:=Zlc w1.1 1 0
def w3:Scene×Int:=Zlc w2.1 0 1
def w4:Scene×Int:=Zic w3.1 1 fun d=>Zsa d 2 0
def w5:Scene×Int:=Zlc w3.1 0 1
theorem s_awake14:Zcj=some true:=by
 have f0:fewB w0=true:=by kernel_rfl
 have f1:fewB w1.1=true:=by kernel_rfl
 have f2:fewB w2.1=true:=by kernel_rfl
 have f3:fewB w3.1=true:=by kernel_rfl
 have m:∀ {s:Scene},fewB s=true→s.Mail.length≤900000:=fun h=>by have:=(fewB_iff h).2.1;omega
 have hN:Zhd ⟨2,[⟨0,1⟩]⟩=some (w0,0):=by
  rw [s_New,show okG ⟨2,[⟨0,1⟩]⟩=true from by kernel_rfl];rfl
 have hl:ln Diner.row w0.Diners=2:=by rw [Z05];kernel_rfl
 have h0:∃d,at_ w0.Diners 0=some d∧sideP (Zw7 d 1)=(⟨1,1,0,true,true,false,true,false⟩,true)∧d.Sides.length≤1000000:=by
  refine ⟨Zu9 g14 (Znd g14) 0,by kernel_rfl,by kernel_rfl,by rw [show (Zu9 g14 (Znd g14) 0).Sides.length=1 from by kernel_rfl];omega⟩
 obtain ⟨d,d1,d2,d3⟩:=h0
 have wr1:wr (1-1)=0:=Zx5 (by omega) (by omega)
 simp only [Zcj,hN,Option.bind_some,hl,decide_true,Bool.not_true,Zv5,Zbj,d1,Zy7 d 1 d3,d2,Zu5,Zaj,wr1]
 rw [s_Start w0 1 (Zz7 f0) (m f0),Option.bind_some]
 rw [show (Zic w0 1 fun d=>Zsa d 0 1)=w1 from rfl,Zmi w1.1 1 0 (Zz7 f1) (m f1),Option.bind_some]
 rw [show Zlc w1.1 1 0=w2 from rfl,s_Count w2.1 _ 1 (Zz7 f2) (m f2),Option.bind_some,Zmi w2.1 0 1 (Zz7 f2) (m f2),Option.bind_some]
 rw [show Zlc w2.1 0 1=w3 from rfl,s_Phases w3.1 2 (Zz7 f3),Option.bind_some,s_Stop w3.1 1 (Zz7 f3) (m f3),Option.bind_some,Zmi w3.1 0 1 (Zz7 f3) (m f3),Option.bind_some]
 rw [s_tCheck w3.1 (Zz7 f3) (by have:=m f3;omega),s_tSame w3.1 w3.1 (Zz7 f3) (m f3),s_tSame w3.1 _ (Zz7 f3) (m f3)]
 rw [show (Zic w3.1 1 fun d=>Zsa d 2 0)=w4 from rfl,show Zlc w3.1 0 1=w5 from rfl]
 rw [show decide (w1.2=0)=true from by kernel_rfl,Zu5,show decide (w2.2=0)=true from by kernel_rfl,Zu5,show decide ((countS w2.1 ⟨0,1⟩ 1:Int)=1)=true from by kernel_rfl,Zu5,
  show decide (w3.2=0)=true from by kernel_rfl,Zu5,show Zoe w3.1.Diners 2=[1] from by kernel_rfl,show decide (ln Zx4 [(1:Int)]=1)=true from rfl,Zu5,show at_ [(1:Int)] 0=some 1 from rfl,Option.bind_some]
 rw [show decide ((1:Int)=1)=true from rfl,Zu5,show decide (w4.2=0)=true from by kernel_rfl,Zu5,show decide (w5.2=141)=true from by kernel_rfl,Zu5,Option.bind_some,show okS w3.1=true from by kernel_rfl]
 rw [show decide ((if true=true then (0:Int) else 142)=0)=true from rfl,Zu5,Option.bind_some,decide_eq_true rfl,Zu5,Option.bind_some,show decide (w3.1=w4.1)=false from by kernel_rfl]
 rfl
set_option maxRecDepth 100000
set_option maxHeartbeats 4000000
@[go_sem] def e29_L1:EC:=.seq (.reg [(Qa 20 (.bin .lss (.t 19) (.t 18)))]) (.seq (.ite (.t 20) (.skip) (.exit 2)) (.seq (.blk 3 (.seq (.reg [(Qk 21 2 17 19),(Qe 22 2 21),(Qa 8 (.alloc 104 [.iv 0,.iv 0])),(Qs 2 8 22)]) (.seq (.reg [(Qf 23 0 8),(Ql 24 23),(Qm 25 6),(Qa 26 (.bin .eql (.t 24) (.t 25)))]) (.ite (.t 26) (.exit 1) (.skip))))) (.reg [(Qv 27 19 1),(Qm 19 27)])))
@[go_sem] def e29_L0:EC:=.seq (.reg [(Qa 15 (.bin .lss (.t 14) (.t 13)))]) (.seq (.ite (.t 15) (.skip) (.exit 0)) (.seq (.blk 1 (.seq (.reg [(Qm 16 14),(Qm 6 16)]) (.seq (.seq (.reg [(Qm 17 1),(Qa 18 (.len (.t 17))),(Qi 19 0)]) (.blk 2 (.loop e29_L1))) (.reg [(Qm 28 5),(Qm 29 6),(Qa 30 (.bsl 3 1 1 [.iv 0] [(0,(.t 29))])),(Qa 31 (.app 3 1 8 (.t 28) (.t 30))),(Qm 5 31)])))) (.reg [(Qv 32 14 1),(Qm 14 32)])))
@[go_sem] def e29:EC:=.seq (.reg [(Qa 4 (.mv (.c .nl)))]) (.scope (.seq (.reg [(Qa 5 (.mv (.c .nl)))]) (.seq (.seq (.reg [(Qm 9 0),(Qm 10 1),(Qa 11 (.call 62 [(.t 9),(.t 10)])),(Qa 12 (.bin .neq (.t 11) (.c (.iv 0))))]) (.ite (.t 12) (.seq (.reg [(Qa 4 (.mv (.c .nl)))]) (.ret)) (.skip))) (.seq (.label 0) (.seq (.seq (.reg [(Qm 13 0),(Qi 14 0)]) (.blk 0 (.loop e29_L0))) (.seq (.reg [(Qm 33 5),(Qm 4 33)]) (.ret)))))))
theorem ok29:FnOK Tryz.prog 29 Tryz.f29 e29 [.t 4] 2 32:=⟨by kernel_rfl,⟨_,rfl,by kernel_rfl⟩,by kernel_rfl,by kernel_rfl⟩
noncomputable def Zej:(List Int)→Option (List Int)
| x41=>
 some x41
noncomputable def Zfj (x18:Int):(List Int)→Option ((Int×(List Int)) ⊕ (List Int))
| x34=>
 some (.inl (wr (x18+1),x34))
noncomputable def Zgj (x18:Int) (x19:(List Int)):Unit→Option ((Int×(List Int)) ⊕ (List Int))
| ()=>
 (Za4 8 x19 ([x18])).bind fun x33=>
 (Zfj x18) x33
noncomputable def Zhj (x2:(List Arc)) (x18:Int) (x19:(List Int)):Int→Option (Int ⊕ ((Int×(List Int)) ⊕ (List Int)))
| x22=>
 ifb (decide (x22<(ln Arc.row x2))) (
 (at_ x2 x22).bind fun x23=>
 ifb (decide (x23.From=x18)) (
 Option.map Sum.inr ((Zfj x18) x19)) (
 some (.inl (wr (x22+1))))) (
 Option.map Sum.inr ((Zgj x18 x19) ()))
noncomputable def Zij (x1:Int) (x2:(List Arc)):(Int×(List Int))→Option ((Int×(List Int)) ⊕ (List Int))
| (x18,x19)=>
 ifb (decide (x18<x1)) (
 loop (Zhj x2 x18 x19) 0) (
 Option.map Sum.inr (Zej x19))
noncomputable def Zjj (x1:Int) (x2:(List Arc)):Option (List Int):=
 (Zzf x1 x2).bind fun x3=>
 ifb (!decide (x3=0)) (
 some (([]:List Int))) (
 loop (Zij x1 x2) (0,([]:List Int)))
theorem o_dag_Sinks (x1:Int) (x2:(List Arc)) (r:(List Int)) (h:Zjj x1 x2=some r):FunO Tryz.prog 29 [.iv x1,.sl 2 (List.map Arc.row x2)] 3 1 (List.map Zx4 r):=by
 refine Z55 ok29 rfl fun w0 H0=>?_
 rw [Zjj] at h
 refine Zo2 14 ?_;dsimp only [go_sem];refine An ?_;obtain ⟨x3,ex3,h⟩:=Bs h;refine Z33 trivial (Z0g x1 x2 _ ex3) (h:=?_);refine Zo2 2 ?_;dsimp only [go_sem];refine An ?_;refine Zj4 h rfl (fun _ h=>?_) fun _ h=>?_
 ·refine Zo2 4 ?_;dsimp only [go_sem];refine An ?_;refine Z64 4 3 1 rfl rfl ?_;dsimp only [go_sem];exact Z95 Zx4 ok29 h rfl rfl
 ·refine Zo2 9 ?_;dsimp only [go_sem];refine An ?_;refine Zh4 (fun (x41:(List Int))=>(⟨(an 5 (.osl 0::an 28 [])),[],[some ⟨3,1,List.map Zx4 x41⟩]⟩:St)) Zej r ?_ fun J1=>?_
  ·intro x41 h;rw [Zej] at h;(try dsimp only);refine Zo2 5 ?_;dsimp only [go_sem];refine An ?_;exact Z95 Zx4 ok29 h rfl rfl
  ·refine Zo2 1 ?_;dsimp only [go_sem];refine An ?_;refine Z64 5 3 1 rfl rfl ?_;dsimp only [go_sem];refine Zi4 h (fun ((x18,x19):(Int×(List Int)))=>(⟨(.any :: .sl 2 (List.map Arc.row x2)::an 3 (.osl 0::an 7 (.iv x1 :: .iv x18::an 19 []))),[],[some ⟨3,1,List.map Zx4 x19⟩]⟩:St)) (by simp [go_sem]) (by rintro ⟨x18,x19⟩;first | rfl | simp [go_sem]) ?_;rintro n1 ⟨x18,x19⟩ y1 h hin1 hout1;rw [Zij] at h;(try dsimp only);refine Zo2 5 ?_;dsimp only [go_sem];refine An ?_;refine Zj4 h rfl (fun _ h=>?_) fun _ h=>?_
   ·refine Zo2 2 ?_;dsimp only [go_sem];refine An ?_;refine Zh4 (fun (x34:(List Int))=>(⟨(.any :: .sl 2 (List.map Arc.row x2)::an 3 (.osl 0::an 7 (.iv x1 :: .iv x18::an 19 []))),[],[some ⟨3,1,List.map Zx4 x34⟩]⟩:St)) (Zfj x18) y1 ?_ fun J2=>?_
    ·intro x34 h;rw [Zfj] at h;(try dsimp only);refine Zo2 4 ?_;dsimp only [go_sem];refine An ?_;exact Zs4 h hin1
    ·refine Zo2 13 ?_;dsimp only [go_sem];refine An ?_;refine Zh4 (fun (_:Unit)=>(⟨(.any :: .sl 2 (List.map Arc.row x2)::an 3 (.osl 0 :: .iv x18::an 6 (.iv x1 :: .iv x18::an 19 []))),[],[some ⟨3,1,List.map Zx4 x19⟩]⟩:St)) (Zgj x18 x19) y1 ?_ fun J3=>?_
     ·rintro ⟨⟩ h;rw [Zgj] at h;(try dsimp only);refine Zo2 4 ?_;dsimp only [go_sem];refine An ?_;obtain ⟨x33,ex33,h⟩:=Bs h;refine Zo4 Zx4 ex33 trivial rfl rfl rfl ?_;refine Zo2 3 ?_;dsimp only [go_sem];refine An ?_;refine Z54 2 0 rfl rfl rfl ?_;dsimp only [go_sem];exact Zt4 J2 (s:=x33) h
     ·refine Zo2 1 ?_;dsimp only [go_sem];refine An ?_;refine Zi4 h (fun (x22:Int)=>(⟨(.any :: .sl 2 (List.map Arc.row x2)::an 3 (.osl 0 :: .iv x18::an 6 (.iv x1 :: .iv x18 :: .any :: .any :: .sl 2 (List.map Arc.row x2) :: .iv (ln Arc.row x2) :: .iv x22::an 14 []))),[],[some ⟨3,1,List.map Zx4 x19⟩]⟩:St)) (by simp [go_sem]) (by intro x22;first | rfl | simp [go_sem]) ?_;rintro n2 x22 y2 h hin2 hout2;rw [Zhj] at h;(try dsimp only);refine Zo2 5 ?_;dsimp only [go_sem];refine An ?_;refine Zj4 h rfl (fun _ h=>?_) fun _ h=>?_
      ·refine Zo2 5 ?_;dsimp only [go_sem];refine An ?_;obtain ⟨x23,ex23,h⟩:=Bs h;refine Zm4 Arc.row ex23 trivial rfl rfl rfl ?_;refine Zo2 11 ?_;dsimp only [go_sem];refine An ?_;refine Zj4 h rfl (fun _ h=>?_) fun _ h=>?_
       ·refine Zo2 1 ?_;dsimp only [go_sem];refine An ?_;exact Zt4 J2 (s:=x19) (Zg4 h hout2)
       ·refine Zo2 6 ?_;dsimp only [go_sem];refine An ?_;exact Zs4 h hin2
      ·refine Zo2 1 ?_;dsimp only [go_sem];refine An ?_;exact Zt4 J3 (s:=()) (Zg4 h hout2)
   ·refine Zo2 1 ?_;dsimp only [go_sem];refine An ?_;exact Zt4 J1 (s:=x19) (Zg4 h hout1)
theorem k_dag_Sinks (x1:Int) (x2:(List Arc)) (r:(List Int)) (h:Zjj x1 x2=some r):Zu2 Tryz.prog 29 [.iv x1,.sl 2 (List.map Arc.row x2)] (.sl 1 (List.map Zx4 r)):=(o_dag_Sinks x1 x2 r h).sealed
set_option maxRecDepth 100000
set_option maxHeartbeats 4000000
@[go_sem] def e26_L0:EC:=.seq (.seq (.reg [(Qm 25 9),(Qm 26 8),(Qa 27 (.len (.t 26))),(Qa 28 (.bin .lss (.t 25) (.t 27)))]) (.ite (.t 28) (.skip) (.exit 0))) (.seq (.blk 1 (.seq (.reg [(Qm 31 7),(Qm 32 8),(Qm 33 9),(Qk 34 1 32 33),(Ql 35 34),(Qa 36 (.call 30 [(.t 31),(.t 35)])),(Qa 37 (.not (.t 36)))]) (.ite (.t 37) (.seq (.reg [(Qa 3 (.mv (.c .ff)))]) (.ret)) (.skip)))) (.reg [(Qm 29 9),(Qv 30 29 1),(Qm 9 30)]))
@[go_sem] def e26:EC:=.seq (.reg [(Qx 2 25 2 0),(Qa 3 (.mv (.c .ff)))]) (.seq (.reg [(Qe 10 2 2),(Qa 11 (.call 27 [(.t 10)])),(Qm 4 11)]) (.seq (.reg [(Qf 13 0 1),(Ql 14 13),(Qm 15 4),(Qa 16 (.call 28 [(.t 14),(.t 15)])),(Qm 12 16),(Qa 17 (.ext (.t 12) 0)),(Qa 18 (.ext (.t 12) 1)),(Qm 5 17),(Qm 6 18)]) (.seq (.drw [(Qf 19 0 1),(Ql 20 19),(Qm 21 4),(Qa 22 (.call 29 [(.t 20),(.t 21)])),(Qe 23 2 2),(Qa 24 (.call 17 [(.t 23),(.c (.iv 2))])),(Qm 7 22),(Qm 8 24)] [[],[0],[],[1,2],[],[4,3],[3,5,0,1,2,3],[5,6,0,1,2,3,4,5,6]] [[1],[0,3],[3],[1,2,6],[5],[4,7],[3],[5]]) (.seq (.seq (.reg [(Qi 9 0)]) (.blk 0 (.loop e26_L0))) (.seq (.reg [(Qm 38 6),(Qm 39 38),(Qg 40 39 true (.mv (.t 4))),(Qg 41 39 true (.len (.t 40))),(Qh 42 39 true 1 1),(Qn 43 39 true 42),(Qg 44 39 true (.len (.t 43))),(Qg 45 39 true (.bin .eql (.t 41) (.t 44))),(Qp 46 39 45),(Qm 3 46)]) (.ret))))))
theorem ok26:FnOK Tryz.prog 26 Tryz.f26 e26 [.t 3] 2 45:=⟨by kernel_rfl,⟨_,rfl,by kernel_rfl⟩,by kernel_rfl,by kernel_rfl⟩
noncomputable def Zkj:Bool→Option Bool
| x20=>
 some x20
noncomputable def Zlj (x2:Graph) (x3:(List Arc)) (x4:((List Int)×Bool)):Unit→Option Bool
| ()=>
 ifb x4.2 (
 Zkj (decide ((ln Arc.row x3)=(ln Edge.row x2.Edges)))) (
 Zkj false)
noncomputable def Zmj (x2:Graph) (x3:(List Arc)) (x4:((List Int)×Bool)) (x5:(List Int)) (x6:(List Int)):Int→Option (Int ⊕ Bool)
| x10=>
 ifb (decide (x10<(ln Zx4 x6))) (
 (at_ x6 x10).bind fun x11=>
 (Z49 x5 x11).bind fun x12=>
 ifb (!x12) (
 Option.map Sum.inr (some false)) (
 some (.inl (wr (x10+1))))) (
 Option.map Sum.inr ((Zlj x2 x3 x4) ()))
noncomputable def Znj (x1:Scene) (x2:Graph):Option Bool:=
 (Zbf x1).bind fun x3=>
 (Zqg x2.N x3).bind fun x4=>
 (Zjj x2.N x3).bind fun x5=>
 (Zqi x1 2).bind fun x6=>
 loop (Zmj x2 x3 x4 x5 x6) 0
theorem Zoj (x1:Scene) (x2:Graph) (r:Bool) (h:Znj x1 x2=some r):Zu2 Tryz.prog 26 [.agg (Scene.row x1),.elt (Graph.row x2) 0] (.bv r):=by
 refine Zy2 ok26 rfl rfl fun w0 H0=>?_
 rw [Znj] at h
 refine Zo2 8 ?_;dsimp only [go_sem];refine An ?_;obtain ⟨x3,ex3,h⟩:=Bs h;refine Z33 trivial (k_place_Arcs x1 _ ex3) (h:=?_);refine Zo2 7 ?_;dsimp only [go_sem];refine An ?_;obtain ⟨x4,ex4,h⟩:=Bs h;refine Z33 trivial (k_dag_Order x2.N x3 _ ex4) (h:=?_);refine Zo2 7 ?_;dsimp only [go_sem];refine An ?_;refine Zj3 (by kernel_rfl) fun all hall hs hnap haf=>?_;dsimp only [go_sem];refine Z75 hall hs haf hnap 4 4 ?_;dsimp only [go_sem];refine An ?_;refine Zu3 3 rfl ?_;obtain ⟨x5,ex5,h⟩:=Bs h
 refine Z04 hall rfl trivial (k_dag_Sinks x2.N x3 _ ex5) (h:=?_);dsimp only [go_sem];refine Zu3 5 rfl ?_;obtain ⟨x6,ex6,h⟩:=Bs h;refine Z04 hall rfl trivial (Zsi x1 2 _ ex6) (h:=?_);dsimp only [go_sem];refine Z75 hall hs haf hnap 2 0 ?_;dsimp only [go_sem];refine An ?_;refine Zt3 rfl ?_ _;refine Zo2 5 ?_;dsimp only [go_sem];refine An ?_
 refine Zh4 (fun (_:Unit)=>(⟨(.any :: .elt [.iv x2.N,.sl 2 (List.map Edge.row x2.Edges)] 0 :: .any :: .any :: .sl 2 (List.map Arc.row x3) :: .any :: .bv x4.2::an 40 []),[],[]⟩:St)) (Zlj x2 x3 x4) r ?_ fun J1=>?_
 ·rintro ⟨⟩ h;rw [Zlj] at h;(try dsimp only);refine Zo2 4 ?_;dsimp only [go_sem];refine An ?_;refine Zh4 (fun (x20:Bool)=>(⟨(an 3 (.bv x20::an 43 [])),[],[]⟩:St)) Zkj r ?_ fun J2=>?_
  ·intro x20 h;rw [Zkj] at h;(try dsimp only);exact Zr4 (res:=fun (r:Bool)=>.bv r) ok26 h
  ·refine Zq4 39 h rfl (fun _ h=>?_) fun _ h=>?_
   ·dsimp only [go_sem];refine Zo2 9 ?_;dsimp only [go_sem];refine An ?_;exact Zt4 J2 (s:=decide ((ln Arc.row x3)=(ln Edge.row x2.Edges))) h
   ·dsimp only [go_sem];refine Zo2 9 ?_;dsimp only [go_sem];refine An ?_;exact Zt4 J2 (s:=false) h
 ·refine Zo2 1 ?_;dsimp only [go_sem];refine An ?_;refine Zi4 h (fun (x10:Int)=>(⟨(.any :: .elt [.iv x2.N,.sl 2 (List.map Edge.row x2.Edges)] 0 :: .any :: .any :: .sl 2 (List.map Arc.row x3) :: .any :: .bv x4.2 :: .sl 1 (List.map Zx4 x5) :: .sl 1 (List.map Zx4 x6) :: .iv x10::an 37 []),[],[]⟩:St)) (by simp [go_sem]) (by intro x10;first | rfl | simp [go_sem]) ?_;rintro n1 x10 y1 h hin1 hout1;rw [Zmj] at h;(try dsimp only);refine Zo2 8 ?_;dsimp only [go_sem];refine An ?_;refine Zj4 h rfl (fun _ h=>?_) fun _ h=>?_
  ·refine Zo2 8 ?_;dsimp only [go_sem];refine An ?_;obtain ⟨x11,ex11,h⟩:=Bs h;refine Zm4 Zx4 ex11 trivial rfl rfl rfl ?_;refine Zo2 1 ?_;dsimp only [go_sem];refine An ?_;obtain ⟨x12,ex12,h⟩:=Bs h;refine Z33 trivial (Z59 x5 x11 _ ex12) (h:=?_);refine Zo2 2 ?_;dsimp only [go_sem];refine An ?_;refine Zj4 h rfl (fun _ h=>?_) fun _ h=>?_
   ·refine Zo2 4 ?_;dsimp only [go_sem];refine An ?_;exact Zr4 (res:=fun (r:Bool)=>.bv r) ok26 (Zg4 h hout1)
   ·refine Zo2 7 ?_;dsimp only [go_sem];refine An ?_;exact Zs4 h hin1
  ·refine Zo2 1 ?_;dsimp only [go_sem];refine An ?_;exact Zt4 J1 (s:=()) (Zg4 h hout1)
set_option maxRecDepth 100000
set_option maxHeartbeats 4000000
@[go_sem] def e5:EC:=.seq (.reg [(Qx 2 48 2 0),(Qa 4 (.mv (.c .ff)))]) (.seq (.seq (.reg [(Qa 7 (.call 6 [])),(Qa 8 (.not (.t 7))),(Qm 9 8),(Qg 10 9 false (.loadA 2 (.t 2))),(Qg 11 9 false (.call 24 [(.t 10)])),(Qg 12 9 false (.not (.t 11))),(Qq 13 9 12),(Qm 14 13),(Qg 15 14 false (.mv (.t 1))),(Qg 16 14 false (.len (.t 15))),(Qg 17 14 false (.bin .gtr (.t 16) (.c (.iv 80)))),(Qq 18 14 17)]) (.ite (.t 18) (.seq (.reg [(Qa 19 (.call 6 [])),(Qm 4 19)]) (.ret)) (.skip))) (.seq (.reg [(Qe 21 2 2),(Qm 22 1),(Qa 23 (.mkf 26 [(.t 2)])),(Qa 24 (.call 25 [(.t 21),(.t 22),(.t 23)])),(Qm 20 24),(Qa 25 (.ext (.t 20) 0)),(Qa 26 (.ext (.t 20) 1)),(Qa 5 (.alloc 25 [.nl,.nl])),(Qs 2 5 25),(Qm 6 26)]) (.seq (.reg [(Qm 27 6),(Qm 4 27)]) (.ret))))
theorem ok5:FnOK Tryz.prog 5 Tryz.f5 e5 [.t 4] 2 26:=⟨by kernel_rfl,⟨_,rfl,by kernel_rfl⟩,by kernel_rfl,by kernel_rfl⟩
noncomputable def Zpj (x1:Graph) (x2:(List narthexlaw14_Act)):Bool→Option Bool
| x5=>
 ifb x5 (
 (Zcj).bind fun x6=>
 some x6) (
 (Zzi x1 x2 ((fun z=>Znj z x1))).bind fun x7=>
 some x7.2)
noncomputable def Zqj (x1:Graph) (x2:(List narthexlaw14_Act)):Option Bool:=
 (Zcj).bind fun x3=>
 ifb (!x3) (
 (Zpj x1 x2) true) (
 (Zke x1).bind fun x4=>
 ifb (!x4) (
 (Zpj x1 x2) true) (
 (Zpj x1 x2) (decide (80<(ln narthexlaw14_Act.row x2)))))
theorem Zrj (x1:Graph) (x2:(List narthexlaw14_Act)) (r:Bool) (h:Zqj x1 x2=some r):Zu2 Tryz.prog 5 [.agg (Graph.row x1),.sl 3 (List.map narthexlaw14_Act.row x2)] (.bv r):=by
 refine Zy2 ok5 rfl rfl fun w0 H0=>?_
 rw [Zqj] at h
 refine Zo2 8 ?_;dsimp only [go_sem];refine An ?_;obtain ⟨x3,ex3,h⟩:=Bs h;refine Z33 trivial (Zdj _ ex3) (h:=?_);refine Zo2 2 ?_;dsimp only [go_sem];refine An ?_;refine Zh4 (fun (x5:Bool)=>(⟨(.any :: .sl 3 (List.map narthexlaw14_Act.row x2) :: .ptr 0 0::an 15 (.bv x5::an 9 [])),[some ⟨48,[.iv x1.N,.sl 2 (List.map Edge.row x1.Edges)]⟩],[]⟩:St)) (Zpj x1 x2) r ?_ fun J1=>?_
 ·intro x5 h;rw [Zpj] at h;(try dsimp only);refine Zj4 h rfl (fun _ h=>?_) fun _ h=>?_
  ·refine Zo2 2 ?_;dsimp only [go_sem];refine An ?_;obtain ⟨x6,ex6,h⟩:=Bs h;refine Z33 trivial (Zdj _ ex6) (h:=?_);refine Zo2 2 ?_;dsimp only [go_sem];refine An ?_;exact Zr4 (res:=fun (r:Bool)=>.bv r) ok5 h
  ·refine Zo2 6 ?_;dsimp only [go_sem];refine An ?_;refine V_sealB 0 rfl rfl ?_;dsimp only [go_sem];obtain ⟨x7,ex7,h⟩:=Bs h;refine Z33 trivial (Z0j x1 x2 _ _ ((fun z=>Znj z x1)) ⟨by kernel_rfl,rfl,fun z r hz=>Zoj z x1 r hz⟩ _ ex7) (h:=?_);refine Zo2 12 ?_;dsimp only [go_sem];refine An ?_;exact Zr4 (res:=fun (r:Bool)=>.bv r) ok5 h
 ·refine Zq4 9 h rfl (fun _ h=>?_) fun _ h=>?_
  ·dsimp only [go_sem];refine Zo2 10 ?_;dsimp only [go_sem];refine An ?_;exact Zt4 J1 (s:=true) h
  ·dsimp only [go_sem];refine Zo2 1 ?_;dsimp only [go_sem];refine An ?_;obtain ⟨x4,ex4,h⟩:=Bs h;refine Z33 trivial (Zle x1 _ ex4) (h:=?_);refine Zo2 3 ?_;dsimp only [go_sem];refine An ?_;refine Zq4 14 h rfl (fun _ h=>?_) fun _ h=>?_
   ·dsimp only [go_sem];refine Zo2 5 ?_;dsimp only [go_sem];refine An ?_;exact Zt4 J1 (s:=true) h
   ·dsimp only [go_sem];refine Zo2 5 ?_;dsimp only [go_sem];refine An ?_;exact Zt4 J1 (s:=decide (80<(ln narthexlaw14_Act.row x2))) h
def Zsj (l:List Arc) (n:Nat):List Int:=((List.range n).filter fun k:Nat=>!l.any fun z=>decide (z.From=(k:Int))).map fun k:Nat=>(k:Int)
theorem Ztj (l:List Arc) (n:Nat):(Zsj l n).length≤n:=by
 unfold Zsj
 rw [List.length_map]
 exact Nat.le_trans (List.length_filter_le _ _) (by simp)
theorem sinksP_succ (l:List Arc) (n:Nat):Zsj l (n+1)=if (l.any fun z=>decide (z.From=(n:Int))) then Zsj l n else Zsj l n++[(n:Int)]:=by
 unfold Zsj
 rw [List.range_succ,List.filter_append,List.map_append]
 cases hq:l.any fun z=>decide (z.From=(n:Int)) with
 | true=>simp [hq]
 | false=>simp [hq]
theorem s_Sinks {N:Nat} {r:Nat→Int} {l:List Arc} (h:ArcsR N r l):Zjj N l=some (Zsj l N):=by
 have hn:=h.n
 have hlen:=h.len
 unfold Zjj
 rw [Ztg h,Option.bind_some,show decide ((0:Int)=0)=true from rfl,Bool.not_true,Zv5]
 refine Zs7 N (Zij N l) (fun k=>((k:Int),Zsj l k)) (Zsj l N) (fun k hk=>?_) ?_
 ·dsimp only [Zij]
  have hsl:=Ztj l k
  rw [decide_eq_true (by omega),Zu5]
  rw [loop_any l (Zhj l k (Zsj l k)) (fun z=>decide (z.From=(k:Int))) (.inl (((k+1:Nat):Int),Zsj l k)) (.inl (((k+1:Nat):Int),Zsj l k++[(k:Int)])) (by omega) (fun i z hz=>by
   simp only [Zhj,Z06 hz,Zu5,Zy5 hz,Option.bind_some,Z36 hz (show l.length≤4000000000000000000 by omega),Zfj]
   rw [Z26 (show k≤4000000000000000000 by omega)]
   cases decide (z.From=(k:Int))<;>rfl) (by
   simp only [Zhj,Z16,Zv5,Zgj,Zfj]
   rw [Zz5 _ _ (by omega) (by simp only [List.length_singleton];omega),Option.bind_some,Z26 (by omega)];rfl),sinksP_succ]
  cases l.any fun z=>decide (z.From=(k:Int))<;>rfl
 ·dsimp only [Zij]
  rw [decide_eq_false (by omega),Zv5];rfl
theorem s_Round1 {g:Graph} (hg:okG g=true) (s:Scene) (h:Fair g s):Znj s g=some true:=by
 obtain ⟨r,he⟩:=h.edge
 obtain ⟨g1,g2,g3,_⟩:=Zd7 hg
 have hM:=Nat.le_trans (h.mails hg) (h.phi6 hg)
 have hf:=h.inv.few hg
 obtain ⟨O,hO⟩:=s_orderG hg h.inv he
 have hS:=s_Sinks (arcs_R hg h.inv he)
 rw [Int.toNat_of_nonneg g1] at hS
 have hl:=h.inv.len
 have hpl:=phasesL_len s.Diners 2
 unfold Znj
 rw [s_Arcs s hf (by omega),Option.bind_some,hO,Option.bind_some,hS,Option.bind_some,s_Phases s 2 hf,Option.bind_some]
 refine Zm7 (Zoe s.Diners 2) _ (fun pre=>(pre.length:Int)) true (fun pre a post hp=>?_) ?_
 ·have hx:=Zn7 hp
  have hm:=Zo7 hp
  obtain ⟨d,d1,d2,d3,d4⟩:=mem_phases h.inv (Zp7 hp)
  have hlt:=(List.getElem?_eq_some_iff.1 d1).1
  have hin:a∈Zsj (Zjf s) g.N.toNat:=by
   unfold Zsj
   refine List.mem_map.2 ⟨a.toNat,List.mem_filter.2 ⟨List.mem_range.2 (by omega),?_⟩,Int.toNat_of_nonneg d2⟩
   have:((Zjf s).any fun z=>decide (z.From=((a.toNat:Nat):Int)))=false:=by
    rw [List.any_eq_false]
    intro z hz
    have:=eat_low hg h.inv he d1 d4 hz
    simpa using this
   rw [this];rfl
  have hsl:=Ztj (Zjf s) g.N.toNat
  dsimp only [Zmj]
  rw [Z06 hx,Zu5,Zy5 hx,Option.bind_some,s_r01Has _ _ (by omega),Option.bind_some,decide_eq_true hin,Bool.not_true,Zv5,Zr7,Z26 (by omega)]
 ·dsimp only [Zmj]
  rw [Z16,Zv5]
  dsimp only [Zlj,Zkj]
  rw [Zu5,Z05,Z05,arcs_len hg h.inv he,decide_eq_true rfl];rfl
theorem Zuj (g:Graph) (l:List narthexlaw14_Act):Zqj g l=some true:=by
 have yes:Zpj g l true=some true:=by
  simp only [Zpj,Zu5,s_awake14,Option.bind_some]
 simp only [Zqj,s_awake14,Option.bind_some,Bool.not_true,Zv5,s_Small,yes]
 by_cases hN:g.N≤10
 ·cases hg:okG g with
  | false=>simp
  | true=>
    rw [decide_eq_true hN,Z05]
    by_cases hl:(80:Int)<l.length
    ·rw [decide_eq_true hl];exact yes
    ·rw [decide_eq_false hl]
     simp only [Bool.and_self,Bool.not_true,Zv5,Zpj]
     obtain ⟨h1,h2,_⟩:=s_run14 hg (by omega) (J:=Fair g) (fun _ h=>h.inv) (Fair.first hg) (fun s k a b h he=>h.act hg (by omega) k a b he) l (by omega) (fun z=>Znj z g) (fun s h _=>s_Round1 hg s h)
     rw [h1];rfl
 ·rw [decide_eq_false hN];simp
end NX
end Go.Proofs.YtadebhbiglmodaaGreat
