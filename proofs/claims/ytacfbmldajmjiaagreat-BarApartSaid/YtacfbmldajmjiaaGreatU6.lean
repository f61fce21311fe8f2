/-
  Plain laws: what always holds of a graph's bar goes on to hold; all that is behind acts. No statement of the seat is proved here.
-/
import Derived.KernelRfl
import Derived.Test.YtacfbmldajmjiaaGreatU5
import Derived.Test.YtacfbmldajmjiaaGreatU4
import Derived.Test.YtacfbmldajmjiaaGreatU1
import Derived.Test.YtacfbmldajmjiaaGreatU3
namespace Go.Proofs.YtacfbmldajmjiaaGreat
namespace NX
open Go
theorem bset_get {l:List Drinker} {a:Nat} {d d':Drinker} (hd:l[a]?=some d):(l.set a d')[a]?=some d':=by
 have hlt:=(List.getElem?_eq_some_iff.1 hd).1
 rw [List.getElem?_set];simp [hlt]
theorem Z7p {g:Graph} {s:Bar} (hg:okG g=true) (hN:g.N≤60) {a:Int} {d d':Drinker} (hd:s.Drinkers[a.toNat]?=some d) (h:InvB g ⟨s.Drinkers.set a.toNat d',s.Mail⟩):actBP s a (d',0)=(actBS s a d',0)∧InvB g (actBS s a d'):=by
 have h1:=bset_get (d':=d') hd
 have hk:=h.okDr hg hN (List.mem_iff_getElem?.2 ⟨_,h1⟩)
 have h2:=h.fireDr hg h1
 dsimp only at h2
 rw [List.set_set] at h2
 refine ⟨?_,h2⟩
 unfold actBP
 dsimp only
 rw [if_pos rfl,if_pos hk]
theorem InvB.drk {g:Graph} {s:Bar} (hg:okG g=true) (h:InvB g s) {a:Nat} {d:Drinker} (hd:s.Drinkers[a]?=some d) {t:Int} {n:List Int} (hl:LocT ⟨d.Diner,t,n⟩):InvB g ⟨s.Drinkers.set a ⟨d.Diner,t,n⟩,s.Mail⟩:=by
 refine h.upd (d':=⟨d.Diner,t,n⟩) hg hd ?_ h.mail hl (fun _ _ _ _ _ _=>rfl) (fun _ _ _ _=>rfl)
 rw [Zpo (Zlo hd)]
 exact h.tab
def fineR (e:Int):Bool:=decide (e=0)||(decide (e=152)||(decide (e=151)||(decide (e=162)||decide (e=161))))
theorem open_inv {g:Graph} {s:Bar} (hg:okG g=true) (hN:g.N≤60) (h:InvB g s) (a:Int) (need:List Int):fineR (Zin s a fun d=>Znh d need).2=true∧((Zin s a fun d=>Znh d need).2=0→InvB g (Zin s a fun d=>Znh d need).1):=by
 unfold Zin
 rw [h.ok hg hN,if_pos rfl]
 cases ht:Zcn s a with
 | false=>exact ⟨rfl,fun e=>absurd e (by show ¬(161:Int)=0;omega)⟩
 | true=>
   obtain ⟨d,hd1,hd⟩:=Zfn ht
   have hdm:d∈s.Drinkers:=List.mem_iff_getElem?.2 ⟨_,hd⟩
   rw [if_pos rfl,hd1]
   dsimp only
   unfold Znh
   rw [h.okDr hg hN hdm,if_pos rfl]
   by_cases h0:d.Thirst=0
   ·rw [if_pos h0]
    cases ho:need.any (Zmh d.Diner) with
    | true=>exact ⟨rfl,fun e=>absurd e (by show ¬(151:Int)=0;omega)⟩
    | false=>
      rw [if_neg (by simp)]
      rw [List.any_eq_false] at ho
      obtain ⟨s1,s2⟩:=setL_spec need
      have hl:LocT ⟨d.Diner,1,setL need⟩:=by
       refine ⟨by show (0:Int)≤1;omega,by show (1:Int)≤2;omega,s1,fun p hp=>?_,fun e=>absurd e (by show ¬(1:Int)=0;omega),fun e=>absurd e (by show ¬(1:Int)=2;omega)⟩
       have:=ho p ((s2 p).1 hp)
       unfold Zmh at this
       simp only [Bool.not_eq_true',Bool.not_eq_false,List.any_eq_true,Bool.and_eq_true,decide_eq_true_eq] at this
       obtain ⟨x,hx,e,_⟩:=this
       exact List.mem_map.2 ⟨x,hx,e⟩
      obtain ⟨k1,k2⟩:=Z7p hg hN hd (h.drk hg hd hl)
      rw [k1]
      exact ⟨rfl,fun _=>k2⟩
   ·rw [if_neg h0]
    exact ⟨rfl,fun e=>absurd e (by show ¬(152:Int)=0;omega)⟩
theorem close_inv {g:Graph} {s:Bar} (hg:okG g=true) (hN:g.N≤60) (h:InvB g s) (a:Int):fineR (Zin s a Zoh).2=true∧((Zin s a Zoh).2=0→InvB g (Zin s a Zoh).1):=by
 unfold Zin
 rw [h.ok hg hN,if_pos rfl]
 cases ht:Zcn s a with
 | false=>exact ⟨rfl,fun e=>absurd e (by show ¬(161:Int)=0;omega)⟩
 | true=>
   obtain ⟨d,hd1,hd⟩:=Zfn ht
   have hdm:d∈s.Drinkers:=List.mem_iff_getElem?.2 ⟨_,hd⟩
   rw [if_pos rfl,hd1]
   dsimp only
   unfold Zoh
   rw [h.okDr hg hN hdm,if_pos rfl]
   by_cases h0:d.Thirst=0
   ·rw [if_pos h0]
    exact ⟨rfl,fun e=>absurd e (by show ¬(152:Int)=0;omega)⟩
   ·rw [if_neg h0]
    have hl:LocT ⟨d.Diner,0,[]⟩:=⟨Int.le_refl _,by show (0:Int)≤2;omega,by simp,by simp,fun _=>rfl,fun e=>absurd e (by show ¬(0:Int)=2;omega)⟩
    obtain ⟨k1,k2⟩:=Z7p hg hN hd (h.drk hg hd hl)
    rw [k1]
    exact ⟨rfl,fun _=>k2⟩
theorem Z8p {d:Diner} (hpw:d.Sides.Pairwise fun x y=>x.Peer<y.Peer) {j:Nat} {x y:Side} (hx:d.Sides[j]?=some x) (hp:y.Peer=x.Peer) (i p z:Int):Z59 ⟨i,p,d.Sides.set j y⟩ z=if z=x.Peer then some y else Z59 d z:=by
 have hjlt:=(List.getElem?_eq_some_iff.1 hx).1
 have hsplit:d.Sides=d.Sides.take j++x::d.Sides.drop (j+1):=by
  have h1:=List.take_append_drop j d.Sides
  rw [List.drop_eq_getElem_cons hjlt] at h1
  have h2:d.Sides[j]=x:=by rw [List.getElem?_eq_getElem hjlt] at hx;simpa using hx
  rw [h2] at h1;exact h1.symm
 have hjl:(d.Sides.take j).length=j:=by simp;omega
 have hset2:d.Sides.set j y=d.Sides.take j++y::d.Sides.drop (j+1):=by
  have:=Zx8 (d.Sides.take j) (d.Sides.drop (j+1)) x y
  rw [←hsplit,hjl,Int.toNat_natCast] at this
  exact this
 unfold Z59
 dsimp only
 rw [hset2]
 have hpw2:=hpw
 rw [hsplit,List.pairwise_append,List.pairwise_cons] at hpw2
 have before:∀u∈d.Sides.take j,u.Peer≠x.Peer:=fun u hu=>by
  have:=hpw2.2.2 u hu x (by simp);omega
 rw [List.find?_append,List.find?_cons,hp]
 by_cases hz:z=x.Peer
 ·subst hz
  rw [decide_eq_true rfl,if_pos rfl]
  have:(d.Sides.take j).find? (fun u=>decide (u.Peer=x.Peer))=none:=by
   rw [List.find?_eq_none];intro u hu;simpa using before u hu
  rw [this];rfl
 ·rw [if_neg hz]
  have e3:d.Sides.find? (fun u=>decide (u.Peer=z))=(d.Sides.take j++x::d.Sides.drop (j+1)).find? (fun u=>decide (u.Peer=z)):=by rw [←hsplit]
  rw [e3,List.find?_append,List.find?_cons,decide_eq_false (show ¬x.Peer=z by omega)]
theorem sideO_mem_eq {d:Diner} (hpw:d.Sides.Pairwise fun x y=>x.Peer<y.Peer) {x:Side} (hx:x∈d.Sides):Z59 d x.Peer=some x:=by
 obtain ⟨i,hi⟩:=List.mem_iff_getElem?.1 hx
 have:=Z8p hpw hi rfl d.ID d.Phase x.Peer
 rw [if_pos rfl,Zpo hi] at this
 exact this
theorem Z9p {l:List Side} {j:Nat} {x y:Side} (hx:l[j]?=some x) (hp:y.Peer=x.Peer):(l.set j y).map (·.Peer)=l.map (·.Peer):=by
 refine List.ext_getElem? fun n=>?_
 rw [List.getElem?_map,List.getElem?_map,List.getElem?_set]
 split
 ·rename_i hn;subst hn
  have:=(List.getElem?_eq_some_iff.1 hx).1
  rw [hx,if_pos this];simp [hp]
 ·rfl
theorem Inv.side1 {g:Graph} {s:Scene} (hg:okG g=true) (h:Inv g s) {a:Nat} {d:Diner} (hd:s.Diners[a]?=some d) {j:Nat} {x y:Side} (hx:d.Sides[j]?=some x) (hy:y.Peer=x.Peer∧y.Epoch=x.Epoch∧y.State=x.State∧y.Fork=x.Fork∧y.Dirty=x.Dirty∧y.Token=x.Token):
  Inv g ⟨s.Diners.set a ⟨d.ID,d.Phase,d.Sides.set j y⟩,s.Mail⟩:=by
 have hl:=h.loc d (List.mem_iff_getElem?.2 ⟨_,hd⟩)
 have hpw:=h.pw hg hd
 obtain ⟨p1,p2,p3,p4,p5,p6⟩:=hy
 have hxm:x∈d.Sides:=List.mem_iff_getElem?.2 ⟨_,hx⟩
 refine h.set (d':=⟨d.ID,d.Phase,d.Sides.set j y⟩) hg hd rfl (Z9p hx p1) ⟨hl.lo,hl.hi,fun z hz=>?_,fun e z hz=>?_⟩ h.mail (fun _ _ _ _ _=>rfl) (fun b _ k _=>?_)
 ·rcases List.mem_or_eq_of_mem_set hz with hz | rfl
  ·exact hl.side z hz
  ·rw [p2,p3,p4,p5];exact hl.side x hxm
 ·rcases List.mem_or_eq_of_mem_set hz with hz | rfl
  ·exact hl.eat e z hz
  ·rw [p4,p5];exact hl.eat e x hxm
 ·unfold hasD
  rw [Z8p hpw hx p1]
  by_cases hb:b=x.Peer
  ·subst hb
   rw [if_pos rfl,sideO_mem_eq hpw hxm]
   dsimp only
   unfold has
   rw [p4,p6]
  ·rw [if_neg hb]
def getT (x:Side) (k:Int):Side:=if k=4 then {x with Ask:=true} else {x with Bottle:=true}
theorem filter_skip {M:List Mail} {i:Nat} {m:Mail} (hm:M[i]?=some m) (hk:k12 m=false):(M.take i++M.drop (i+1)).filter k12=M.filter k12:=by
 have hlt:=(List.getElem?_eq_some_iff.1 hm).1
 have e:M=M.take i++m::M.drop (i+1):=by
  have h1:=List.take_append_drop i M
  rw [List.drop_eq_getElem_cons hlt] at h1
  have h2:M[i]=m:=by rw [List.getElem?_eq_getElem hlt] at hm;simpa using hm
  rw [h2] at h1
  exact h1.symm
 have e2:M.filter k12=(M.take i++m::M.drop (i+1)).filter k12:=by rw [←e]
 rw [e2,List.filter_append,List.filter_append,List.filter_cons,hk,if_neg (by simp)]
theorem filter_cnt {M:List Mail} {i:Nat} {m:Mail} (hm:M[i]?=some m) (hk:k12 m=true) (x:Mail):((M.take i++M.drop (i+1)).filter k12).count x+(if m=x then 1 else 0)=(M.filter k12).count x:=by
 have h:=Znj hm x
 by_cases hx:k12 x=true
 ·rw [List.count_filter hx,List.count_filter hx];exact h
 ·have hx':k12 x=false:=by simpa using hx
  have z:∀L:List Mail,(L.filter k12).count x=0:=fun L=>Zdg fun hm=>by
   rw [List.mem_filter] at hm
   exact hx hm.2
  rw [z,z,if_neg (fun e:m=x=>hx (e ▸ hk))]
theorem deliv_inv {g:Graph} {s:Bar} (hg:okG g=true) (hN:g.N≤60) (h:InvB g s) {a b:Int} (ht:Zcn s a=true) (ht':Zcn s b=true) {i:Nat} (hf:Zkn s a b=some i):
  ∃m db x j d1,s.Mail[i]?=some m∧m.From=a∧m.To=b∧s.Drinkers[b.toNat]?=some db∧db.Diner.Sides[j]?=some x∧x.Peer=a∧d1=(⟨⟨db.Diner.ID,db.Diner.Phase,db.Diner.Sides.set j (if m.Msg.Kind≤2 then Zoj x m.Msg.Kind else getT x m.Msg.Kind)⟩,db.Thirst,db.Need⟩:Drinker)∧
   InvB g ⟨s.Drinkers.set b.toNat d1,s.Mail.take i++s.Mail.drop (i+1)⟩∧Zln s a b=(actBS ⟨s.Drinkers,s.Mail.take i++s.Mail.drop (i+1)⟩ b d1,0)∧InvB g (actBS ⟨s.Drinkers,s.Mail.take i++s.Mail.drop (i+1)⟩ b d1):=by
 obtain ⟨a0,a1⟩:=Zen.1 ht
 obtain ⟨b0,b1⟩:=Zen.1 ht'
 obtain ⟨db,hdb1,hdb⟩:=Zfn ht'
 obtain ⟨da,_,hda⟩:=Zfn ht
 have hf0:=hf
 unfold Zkn at hf
 have hfi:=Z69 (fun m:Mail=>decide (m.From=a)&&decide (m.To=b)) s.Mail
 rw [hf] at hfi
 obtain ⟨m,hm,hq⟩:=hfi
 have hq':=List.find?_some hq
 simp only [Bool.and_eq_true,decide_eq_true_eq] at hq'
 obtain ⟨q1,q2⟩:=hq'
 have hmm:m∈s.Mail:=List.mem_iff_getElem?.2 ⟨_,hm⟩
 obtain ⟨m1,m2,m3,m4⟩:=h.mail m hmm
 rw [q1,q2] at m4
 have nab:=Z6g hg m4
 have hnab:a≠b:=fun e=>(Z3f hg m4).2.2.1 e.symm
 have hdbm:db∈s.Drinkers:=List.mem_iff_getElem?.2 ⟨_,hdb⟩
 have hT:=h.th db hdbm
 have hdbt:=Zlo hdb
 have hok:=h.okDr hg hN hdbm
 have hsub:∀y∈s.Mail.take i++s.Mail.drop (i+1),y∈s.Mail:=fun y hy=>by
  rcases List.mem_append.1 hy with hy | hy
  ·exact List.mem_of_mem_take hy
  ·exact List.mem_of_mem_drop hy
 have hpw:=h.tab.pw hg hdbt
 have hloc:=h.tab.loc _ (List.mem_iff_getElem?.2 ⟨_,hdbt⟩)
 obtain ⟨hid,hsh⟩:=h.tab.shp _ _ hdbt
 have eb:((b.toNat:Nat):Int)=b:=Int.toNat_of_nonneg b0
 have ea:((a.toNat:Nat):Int)=a:=Int.toNat_of_nonneg a0
 have fin:∀d1:Drinker,InvB g ⟨s.Drinkers.set b.toNat d1,s.Mail.take i++s.Mail.drop (i+1)⟩→Zph db a m.Msg=(d1,0)→
   Zln s a b=(actBS ⟨s.Drinkers,s.Mail.take i++s.Mail.drop (i+1)⟩ b d1,0)∧InvB g (actBS ⟨s.Drinkers,s.Mail.take i++s.Mail.drop (i+1)⟩ b d1):=fun d1 h1 h2=>by
  obtain ⟨k1,k2⟩:=Z7p (s:=⟨s.Drinkers,s.Mail.take i++s.Mail.drop (i+1)⟩) hg hN (a:=b) hdb h1
  refine ⟨?_,k2⟩
  unfold Zln
  rw [h.ok hg hN,if_pos rfl,ht,ht',Bool.and_self,if_pos rfl,hf0]
  dsimp only
  rw [hm,hdb1]
  dsimp only
  rw [h2,k1]
 have locT:∀(j:Nat) (x y:Side),db.Diner.Sides[j]?=some x→y.Peer=x.Peer→(x.Bottle=true→y.Bottle=true)→LocT ⟨⟨db.Diner.ID,db.Diner.Phase,db.Diner.Sides.set j y⟩,db.Thirst,db.Need⟩:=fun j x y hx hp hb=>by
  refine ⟨hT.lo,hT.hi,hT.need,fun p hp'=>?_,hT.tr,fun e z hz hn=>?_⟩
  ·rw [Z9p hx hp];exact hT.sub p hp'
  ·rcases List.mem_or_eq_of_mem_set hz with hz | rfl
   ·exact hT.dr e z hz hn
   ·rw [hp] at hn
    exact hb (hT.dr e x (List.mem_iff_getElem?.2 ⟨_,hx⟩) hn)
 by_cases hk2:m.Msg.Kind≤2
 ·
  have hk12:k12 m=true:=decide_eq_true hk2
  have hmf:m∈(Zko s).Mail:=List.mem_filter.2 ⟨hmm,hk12⟩
  obtain ⟨x,j,hidx,hxj,hx,hk,es,hset,hgd⟩:=h.tab.recv hg hN hmf q1 q2 (M':=(s.Mail.take i++s.Mail.drop (i+1)).filter k12) (fun y hy=>by
   rw [List.mem_filter] at hy
   exact List.mem_filter.2 ⟨hsub y hy.1,hy.2⟩) (filter_cnt hm hk12) hdbt
  have hxp:x.Peer=a:=(Zmg hx).2
  have hgs:(Zoj x m.Msg.Kind).Peer=x.Peer∧(Zoj x m.Msg.Kind).Bottle=x.Bottle∧(Zoj x m.Msg.Kind).Ask=x.Ask:=by unfold Zoj;split<;>exact ⟨rfl,rfl,rfl⟩
  have hI:InvB g ⟨s.Drinkers.set b.toNat ⟨⟨db.Diner.ID,db.Diner.Phase,db.Diner.Sides.set j (Zoj x m.Msg.Kind)⟩,db.Thirst,db.Need⟩,s.Mail.take i++s.Mail.drop (i+1)⟩:=by
   have hcne:∀k p q:Int,(k=3∨k=4)→cnt (s.Mail.take i++s.Mail.drop (i+1)) k p q=cnt s.Mail k p q:=fun k p q hk'=>by
    have:=Znj hm ⟨p,q,⟨k,1,0⟩⟩
    rw [if_neg (by intro e;rw [e] at hk2;dsimp only at hk2;omega)] at this
    exact this
   refine h.upd (d':=⟨⟨db.Diner.ID,db.Diner.Phase,db.Diner.Sides.set j (Zoj x m.Msg.Kind)⟩,db.Thirst,db.Need⟩) hg hdb hset (fun y hy=>h.mail y (hsub y hy)) (locT j x _ hxj hgs.1 fun e=>by rw [hgs.2.1];exact e) (fun k p q hk' _ _=>hcne k p q hk') (fun c _ k hk'=>?_)
   rw [hcne k _ _ hk',hcne k _ _ hk']
   have:hasT (⟨db.Diner.ID,db.Diner.Phase,db.Diner.Sides.set j (Zoj x m.Msg.Kind)⟩:Diner) k c=hasT db.Diner k c:=by
    unfold hasT
    rw [es]
    by_cases hc:c=a
    ·subst hc
     rw [if_pos rfl,hx]
     dsimp only
     unfold Zon
     rw [hgs.2.1,hgs.2.2]
    ·rw [if_neg hc]
   dsimp only
   rw [this]
  have hgr:Zph db a m.Msg=(⟨⟨db.Diner.ID,db.Diner.Phase,db.Diner.Sides.set j (Zoj x m.Msg.Kind)⟩,db.Thirst,db.Need⟩,0):=by
   unfold Zph
   rw [hok,if_pos rfl,hidx]
   dsimp only
   rw [hxj]
   dsimp only
   rw [decide_eq_false (show ¬m.Msg.Kind=3 by omega),decide_eq_false (show ¬m.Msg.Kind=4 by omega),if_neg (by simp)]
   unfold viaD
   rw [hgd,if_pos rfl]
  obtain ⟨f1,f2⟩:=fin _ hI hgr
  refine ⟨m,db,x,j,_,hm,q1,q2,hdb,hxj,hxp,rfl,?_⟩
  rw [if_pos hk2]
  exact ⟨hI,f1,f2⟩
 ·
  have hk:m.Msg.Kind=3∨m.Msg.Kind=4:=by omega
  have hk12:k12 m=false:=decide_eq_false hk2
  have hsome:(Z59 db.Diner a).isSome=true:=by
   rw [Z7g,hsh,eb];exact decide_eq_true nab
  obtain ⟨x,hx⟩:=Option.isSome_iff_exists.1 hsome
  obtain ⟨xm,xp⟩:=Zmg hx
  have hidx:=Z69 (fun y:Side=>decide (y.Peer=a)&&decide (y.Epoch=m.Msg.Epoch)) db.Diner.Sides
  have efind:db.Diner.Sides.find? (fun y=>decide (y.Peer=a)&&decide (y.Epoch=m.Msg.Epoch))=some x:=by
   rw [←hx];unfold Z59
   exact Zmj fun y hy=>by rw [m2,(hloc.side y hy).1];simp
  cases hj:db.Diner.Sides.findIdx? (fun y=>decide (y.Peer=a)&&decide (y.Epoch=m.Msg.Epoch)) with
  | none=>rw [hj] at hidx;rw [efind] at hidx;exact absurd hidx (by simp)
  | some j=>
    rw [hj] at hidx
    obtain ⟨x',hxj,hx2⟩:=hidx
    rw [efind] at hx2
    have:x'=x:=by simpa using hx2.symm
    subst this
    have hme:m=⟨a,b,⟨m.Msg.Kind,1,0⟩⟩:=by
     obtain ⟨f,t,⟨k,e,n⟩⟩:=m
     dsimp only at q1 q2 m2 m3 ⊢
     rw [q1,q2,m2,m3]
    have hcnt:1≤cnt s.Mail m.Msg.Kind a b:=by
     unfold cnt
     have:=List.count_pos_iff.2 hmm
     rw [←hme];omega
    have hone:=h.two b.toNat a.toNat db da hdb hda (by rw [eb,ea];exact nab) m.Msg.Kind hk
    rw [eb,ea] at hone
    have hno:Zon x' m.Msg.Kind=false:=by
     cases hh:Zon x' m.Msg.Kind with
     | false=>rfl
     | true=>
       have:hasT db.Diner m.Msg.Kind a=1:=by unfold hasT;rw [hx];simp only [hh,bn];rfl
       omega
    have hgt:(getT x' m.Msg.Kind).Peer=x'.Peer∧(getT x' m.Msg.Kind).Epoch=x'.Epoch∧(getT x' m.Msg.Kind).State=x'.State∧(getT x' m.Msg.Kind).Fork=x'.Fork∧(getT x' m.Msg.Kind).Dirty=x'.Dirty∧(getT x' m.Msg.Kind).Token=x'.Token:=by
     unfold getT;split<;>exact ⟨rfl,rfl,rfl,rfl,rfl,rfl⟩
    have hI:InvB g ⟨s.Drinkers.set b.toNat ⟨⟨db.Diner.ID,db.Diner.Phase,db.Diner.Sides.set j (getT x' m.Msg.Kind)⟩,db.Thirst,db.Need⟩,s.Mail.take i++s.Mail.drop (i+1)⟩:=by
     refine h.upd (d':=⟨⟨db.Diner.ID,db.Diner.Phase,db.Diner.Sides.set j (getT x' m.Msg.Kind)⟩,db.Thirst,db.Need⟩) hg hdb ?_ (fun y hy=>h.mail y (hsub y hy)) (locT j x' _ hxj hgt.1 fun e=>by unfold getT;split;exact e;rfl) (fun k p q hk' hp hq=>?_) (fun c hc k hk'=>?_)
     ·rw [filter_skip hm hk12]
      exact h.tab.side1 hg hdbt hxj hgt
     ·have:=Znj hm ⟨p,q,⟨k,1,0⟩⟩
      rw [if_neg (by rw [hme];simp only [Mail.mk.injEq];omega)] at this
      exact this
     ·rw [eb] at hc ⊢
      have e1:=Znj hm ⟨b,c,⟨k,1,0⟩⟩
      have e2:=Znj hm ⟨c,b,⟨k,1,0⟩⟩
      rw [if_neg (by rw [hme];simp only [Mail.mk.injEq];omega)] at e1
      unfold hasT
      dsimp only
      rw [Z8p hpw hxj hgt.1,xp]
      by_cases hca:c=a
      ·subst hca
       rw [if_pos rfl,hx]
       dsimp only
       by_cases hkk:k=m.Msg.Kind
       ·subst hkk
        have h1:Zon (getT x' m.Msg.Kind) m.Msg.Kind=true:=by
         unfold Zon getT
         rcases hk with h1 | h1<;>rw [h1]<;>rfl
        rw [if_pos hme] at e2
        rw [h1,hno]
        unfold cnt
        simp only [bn,if_true,Bool.false_eq_true,if_false]
        omega
       ·have h1:Zon (getT x' m.Msg.Kind) k=Zon x' k:=by
         unfold Zon getT
         rcases hk with h2 | h2<;>rcases hk' with h3 | h3<;>rw [h2,h3]
         ·exact absurd (h3.trans h2.symm) hkk
         ·rfl
         ·rfl
         ·exact absurd (h3.trans h2.symm) hkk
        rw [if_neg (by rw [hme];simp only [Mail.mk.injEq,Msg.mk.injEq];omega)] at e2
        rw [h1]
        unfold cnt
        omega
      ·rw [if_neg hca]
       rw [if_neg (by rw [hme];simp only [Mail.mk.injEq];omega)] at e2
       unfold cnt
       omega
    have hgr:Zph db a m.Msg=(⟨⟨db.Diner.ID,db.Diner.Phase,db.Diner.Sides.set j (getT x' m.Msg.Kind)⟩,db.Thirst,db.Need⟩,0):=by
     unfold Zph
     rw [hok,if_pos rfl,hj]
     dsimp only
     rw [hxj]
     dsimp only
     unfold Zon at hno
     unfold getT
     rcases hk with h1 | h1
     ·rw [h1] at hno ⊢
      rw [m3]
      simp at hno
      simp [hno]
     ·rw [h1] at hno ⊢
      rw [m3]
      simp at hno
      simp [hno]
    obtain ⟨f1,f2⟩:=fin _ hI hgr
    refine ⟨m,db,x',j,_,hm,q1,q2,hdb,hxj,xp,rfl,?_⟩
    rw [if_neg hk2]
    exact ⟨hI,f1,f2⟩
theorem delivR_inv {g:Graph} {s:Bar} (hg:okG g=true) (hN:g.N≤60) (h:InvB g s) (a b:Int):fineR (Zln s a b).2=true∧((Zln s a b).2=0→InvB g (Zln s a b).1):=by
 have none161:fineR 161=true∧((161:Int)=0→InvB g bar0):=⟨rfl,fun e=>absurd e (by omega)⟩
 cases ht:Zcn s a with
 | false=>
   unfold Zln
   rw [h.ok hg hN,if_pos rfl,ht]
   exact none161
 | true=>
   cases ht':Zcn s b with
   | false=>
     unfold Zln
     rw [h.ok hg hN,if_pos rfl,ht,ht']
     exact none161
   | true=>
     cases hf:Zkn s a b with
     | none=>
       unfold Zln
       rw [h.ok hg hN,if_pos rfl,ht,ht',Bool.and_self,if_pos rfl,hf]
       exact ⟨rfl,fun e=>absurd e (by show ¬(162:Int)=0;omega)⟩
     | some i=>
       obtain ⟨m,db,x,j,d1,_,_,_,_,_,_,_,_,e,k⟩:=deliv_inv hg hN h ht ht' hf
       rw [e]
       exact ⟨rfl,fun _=>k⟩
theorem actR_inv {g:Graph} {s:Bar} (hg:okG g=true) (hN:g.N≤60) (h:InvB g s) (k a b:Int) (need:List Int):fineR (Znn s k a b need).2=true∧((Znn s k a b need).2=0→InvB g (Znn s k a b need).1):=by
 unfold Znn
 split
 ·exact open_inv hg hN h a need
 ·split
  ·exact close_inv hg hN h a
  ·exact delivR_inv hg hN h a b
theorem Zap {s:Bar} {a:Int} {r:Drinker×Int} (h:(actBP s a r).2=0):(actBP s a r).1.Mail.length≤s.Mail.length+252:=by
 unfold actBP at h ⊢
 split at h
 ·rename_i h1
  rw [if_pos h1]
  split at h
  ·rename_i h2
   rw [if_pos h2]
   have:=Zhn h2
   simp only [actBS,List.length_append];omega
  ·simp at h
 ·exact absurd h (by assumption)
theorem Zbp {s:Bar} {a:Int} {q:Drinker→Drinker×Int} (h:(Zin s a q).2=0):(Zin s a q).1.Mail.length≤s.Mail.length+252:=by
 unfold Zin at h ⊢
 cases hk:Zan s with
 | false=>rw [hk] at h;simp at h
 | true=>
   rw [hk] at h
   simp only [if_true] at h ⊢
   cases ht:Zcn s a with
   | false=>rw [ht] at h;simp at h
   | true=>
     rw [ht] at h
     simp only [if_true] at h ⊢
     obtain ⟨d,hd,_⟩:=Zfn ht
     rw [hd] at h ⊢
     exact Zap h
theorem delivR_mail {s:Bar} {a b:Int} (h:(Zln s a b).2=0):(Zln s a b).1.Mail.length≤s.Mail.length+252:=by
 unfold Zln at h ⊢
 cases hk:Zan s with
 | false=>rw [hk] at h;simp at h
 | true=>
   rw [hk] at h
   simp only [if_true] at h ⊢
   cases ht:(Zcn s a&&Zcn s b) with
   | false=>rw [ht] at h;simp at h
   | true=>
     rw [ht] at h
     simp only [if_true] at h ⊢
     cases hi:Zkn s a b with
     | none=>rw [hi] at h;simp at h
     | some i=>
       rw [hi] at h
       simp only at h ⊢
       rw [Bool.and_eq_true] at ht
       obtain ⟨d,hd,_⟩:=Zfn ht.2
       rw [hd] at h ⊢
       cases hm:s.Mail[i]? with
       | none=>rw [hm] at h;simp at h
       | some m=>
         rw [hm] at h
         have:=Zap (s:=⟨s.Drinkers,s.Mail.take i++s.Mail.drop (i+1)⟩) h
         simp only [List.length_append,List.length_take,List.length_drop] at this
         refine Nat.le_trans this ?_
         omega
theorem actR_mail {s:Bar} {k a b:Int} {need:List Int} (h:(Znn s k a b need).2=0):(Znn s k a b need).1.Mail.length≤s.Mail.length+252:=by
 unfold Znn at h ⊢
 split at h
 ·rename_i h1;rw [if_pos h1];exact Zbp h
 ·rename_i h1
  rw [if_neg h1]
  split at h
  ·rename_i h2;rw [if_pos h2];exact Zbp h
  ·rename_i h2;rw [if_neg h2];exact delivR_mail h
def actU (s:Bar) (a:narthexlaw16_Act):Bar:=if (Znn s a.K a.A a.B a.Need).2=0 then (Znn s a.K a.A a.B a.Need).1 else s
def Zcp (g:Graph) (l:List narthexlaw16_Act):Bar:=l.foldl actU (barT g)
theorem s_run16 {g:Graph} (hg:okG g=true) (hN:g.N≤60) {J:Bar→Prop} (hJ:∀s,J s→InvB g s) (h0:J (barT g)) (hs:∀s k a b n,J s→(Znn s k a b n).2=0→J (Znn s k a b n).1)
  (l:List narthexlaw16_Act) (hl:l.length≤80) (hn:∀a∈l,a.Need.length≤5000) (p:Bar→Option Bool) (hp:∀s,J s→s.Mail.length≤30000→p s=some true):
  Zyo g l p=some (Zcp g l,true)∧J (Zcp g l)∧(Zcp g l).Mail.length≤252*l.length:=by
 have inv:∀(l:List narthexlaw16_Act) s,J s→J (l.foldl actU s)∧(l.foldl actU s).Mail.length≤s.Mail.length+252*l.length:=fun l=>by
  induction l with
  | nil=>exact fun s h=>⟨h,by simp⟩
  | cons a l ih=>
    intro s h
    have h1:J (actU s a)∧(actU s a).Mail.length≤s.Mail.length+252:=by
     unfold actU
     split
     ·rename_i h2;exact ⟨hs _ _ _ _ _ h h2,actR_mail h2⟩
     ·exact ⟨h,by omega⟩
    have h3:=ih _ h1.1
    rw [List.foldl_cons,List.length_cons]
    exact ⟨h3.1,by omega⟩
 have e0:(barT g).Mail.length=0:=rfl
 have hrun:=inv l (barT g) h0
 refine ⟨?_,hrun.1,by have:=hrun.2;rw [e0] at this;unfold Zcp;omega⟩
 obtain ⟨g1,g2,g3,_,_⟩:=Z28 hg
 simp only [Zyo,s_Own03 g (by omega),Option.bind_some,s_bNew,hg,if_true,decide_true,Bool.not_true,Zd6,hp _ h0 (by rw [e0];omega),Zxo]
 refine Zr8 l (Zwo l p) (fun pre=>((pre.length:Int),Zcp g pre)) (fun _ _=>some (Zcp g l,true)) (fun pre a post h=>.inl ⟨?_,rfl⟩) ?_
 ·have hx:=Zt8 h
  have hm:=Zu8 h
  have ham:=Zv8 h
  obtain ⟨k1,k2⟩:=inv pre (barT g) h0
  rw [e0] at k2
  have k1':J (Zcp g pre):=k1
  have k2':(Zcp g pre).Mail.length≤252*pre.length:=by unfold Zcp;omega
  have hI:=hJ _ k1'
  have er:Zcp g (pre++[a])=actU (Zcp g pre) a:=by unfold Zcp;rw [List.foldl_append];rfl
  obtain ⟨ak,aa,ab,an⟩:=a
  obtain ⟨f1,f2⟩:=actR_inv hg hN hI ak aa ab an
  have hT:=inv [⟨ak,aa,ab,an⟩] (Zcp g pre) k1'
  simp only [List.foldl_cons,List.foldl_nil,List.length_singleton] at hT
  have pT:p (actU (Zcp g pre) ⟨ak,aa,ab,an⟩)=some true:=hp _ hT.1 (by omega)
  dsimp only [Zwo]
  rw [Zi6 hx,Zc6,Zg6 hx,Option.bind_some,s_own16 _ (hI.fewL hg) (by omega),Option.bind_some,s_act16 _ ak aa ab an (hI.fewL hg) (by omega) (hn _ ham),Option.bind_some,er,Zy8]
  have ej:∀z:Bar,p z=some true→Zto p (pre.length:Int) z=some (.inl (((pre.length+1:Nat):Int),z)):=fun z hz=>by
   dsimp only [Zto]
   rw [hz,Option.bind_some,Zk6 (by omega)];rfl
  have e3:Zvo p (pre.length:Int) (Zcp g pre) ((Znn (Zcp g pre) ak aa ab an).2,(Znn (Zcp g pre) ak aa ab an).1)=Zuo p (pre.length:Int) (Zcp g pre) (Znn (Zcp g pre) ak aa ab an).2 (Znn (Zcp g pre) ak aa ab an).1 false:=by
   unfold fineR at f1
   dsimp only [Zvo]
   cases c1:decide ((Znn (Zcp g pre) ak aa ab an).2=0) with
   | true=>rfl
   | false=>
     cases c2:decide ((Znn (Zcp g pre) ak aa ab an).2=152) with
     | true=>rfl
     | false=>
       cases c3:decide ((Znn (Zcp g pre) ak aa ab an).2=151) with
       | true=>rfl
       | false=>
         cases c4:decide ((Znn (Zcp g pre) ak aa ab an).2=162) with
         | true=>rfl
         | false=>
           rw [c1,c2,c3,c4,Bool.false_or,Bool.false_or,Bool.false_or,Bool.false_or] at f1
           rw [f1];rfl
  rw [e3]
  dsimp only [Zuo]
  rw [Zd6]
  unfold actU at pT ⊢
  dsimp only at pT ⊢
  by_cases hz:(Znn (Zcp g pre) ak aa ab an).2=0
  ·rw [if_pos hz] at pT ⊢
   rw [decide_eq_true hz,Zc6,ej _ pT]
  ·rw [if_neg hz] at pT ⊢
   rw [decide_eq_false hz,Zd6,ej _ pT]
 ·dsimp only [Zwo]
  rw [Zj6,Zd6];rfl
def fewA (g:Graph) (l:List narthexlaw16_Act):Bool:=(l.take 81).all (fun a=>decide (a.Need.length≤20))&&((decide (g.N≤10)&&okG g)&&decide (l.length≤80))
theorem s_few16 (g:Graph) (l:List narthexlaw16_Act):Z5p g l=some (fewA g l):=by
 have j1:Z2p g l ()=some ((decide (g.N≤10)&&okG g)&&decide (l.length≤80)):=by
  dsimp only [Z2p]
  rw [s_Small,Option.bind_some,Z25]
  have:decide ((l.length:Int)≤80)=decide (l.length≤80):=by rw [decide_eq_decide];omega
  rw [this]
  cases (decide (g.N≤10)&&okG g)<;>rfl
 have hlen:(l.take 81).length≤81:=by rw [List.length_take];omega
 have:=Zr8 (l.take 81) (Z4p g l) (fun pre=>(pre.length:Int)) (fun _ post=>some (post.all (fun a=>decide (a.Need.length≤20))&&((decide (g.N≤10)&&okG g)&&decide (l.length≤80)))) (fun pre x post h=>by
  have hx:=Zt8 h
  have hm:=Zu8 h
  have hx':l[pre.length]?=some x:=by rw [List.getElem?_take_of_lt (by omega)] at hx;exact hx
  dsimp only [Z4p]
  rw [Zi6 hx',Zc6,decide_eq_true (by omega)]
  dsimp only [Z3p]
  rw [Zc6,Zg6 hx',Option.bind_some,Z25,Zk6 (by omega),List.all_cons,Zy8]
  by_cases hn:x.Need.length≤20
  ·left;rw [decide_eq_false (by omega),decide_eq_true hn];exact ⟨rfl,rfl⟩
  ·right;rw [decide_eq_true (by omega),decide_eq_false hn];exact ⟨false,rfl,rfl⟩) (by
  have e:Z3p g l ((l.take 81).length:Int) false=some (.inr ((decide (g.N≤10)&&okG g)&&decide (l.length≤80))):=by
   dsimp only [Z3p]
   rw [Zd6,j1];rfl
  dsimp only [Z4p]
  rw [Z25]
  by_cases h1:(((l.take 81).length:Nat):Int)<l.length
  ·rw [decide_eq_true h1,Zc6,decide_eq_false (by rw [List.length_take] at h1 ⊢;omega),e];rfl
  ·rw [decide_eq_false h1,Zd6,e];rfl)
 exact this
theorem fewA_iff {g:Graph} {l:List narthexlaw16_Act} (h:fewA g l=true):g.N≤10∧okG g=true∧l.length≤80∧∀a∈l,a.Need.length≤20:=by
 unfold fewA at h
 simp only [Bool.and_eq_true,decide_eq_true_eq,List.all_eq_true] at h
 obtain ⟨h1,⟨h2,h3⟩,h4⟩:=h
 rw [List.take_of_length_le (by omega)] at h1
 exact ⟨h2,h3,h4,h1⟩
set_option maxRecDepth 100000
set_option maxHeartbeats 4000000
def Zdp:EC:=.seq (.seq (.reg [(Qa 13 (.mv (.t 5))),(Qa 14 (.bin .leq (.t 13) (.c (.iv 4))))]) (.ite (.t 14) (.skip) (.exit 2))) (.seq (.blk 3 (.seq (.drw [(Qa 17 (.loadA 2 (.t 2))),(Qa 18 (.fld 1 (.t 1))),(Qa 19 (.load (.t 18))),(Qa 20 (.mv (.t 4))),(Qa 21 (.idx 2 (.t 19) (.t 20))),(Qa 22 (.loadA 2 (.t 21))),(Qa 23 (.mv (.t 5))),(Qa 24 (.call 19 [(.t 17),(.t 22),(.t 23)])),(Qa 25 (.bin .neq (.t 24) (.c (.iv 1))))] [[],[],[1],[],[2,3],[4],[],[0,5,6],[7]] [[7],[2],[1,4],[4],[2,3,5],[4,7],[7],[0,5,6,8],[7]]) (.ite (.t 25) (.seq (.reg [(Qa 3 (.mv (.c .ff)))]) (.ret)) (.skip)))) (.reg [(Qa 15 (.mv (.t 5))),(Qa 16 (.bin .add (.t 15) (.c (.iv 1)))),(Qa 5 (.mv (.t 16)))]))
def Zep:EC:=.seq (.seq (.reg [(Qa 6 (.mv (.t 4))),(Qa 7 (.fld 1 (.t 1))),(Qa 8 (.load (.t 7))),(Qa 9 (.len (.t 8))),(Qa 10 (.bin .lss (.t 6) (.t 9)))]) (.ite (.t 10) (.skip) (.exit 0))) (.seq (.blk 1 (.seq (.reg [(Qa 5 (.mv (.c (.iv 1))))]) (.blk 2 (.loop Zdp)))) (.reg [(Qa 11 (.mv (.t 4))),(Qa 12 (.bin .add (.t 11) (.c (.iv 1)))),(Qa 4 (.mv (.t 12)))]))
def e30:EC:=.seq (.reg [(Qa 2 (.box 25 2 (.t 0))),(Qa 3 (.mv (.c .ff)))]) (.seq (.seq (.reg [(Qa 4 (.mv (.c (.iv 0))))]) (.blk 0 (.loop Zep))) (.seq (.reg [(Qa 26 (.loadA 2 (.t 2))),(Qa 27 (.call 17 [(.t 26)])),(Qa 28 (.bin .eql (.t 27) (.c (.iv 0)))),(Qa 3 (.mv (.t 28)))]) (.ret)))
theorem ok30:FnOK Tryz.prog 30 Tryz.f30 e30 [.t 3] 2 27:=⟨by kernel_rfl,⟨_,rfl,by kernel_rfl⟩,by kernel_rfl,by kernel_rfl⟩
noncomputable def Zfp (x1:Bar):Unit→Option Bool
| ()=>
 (Z4l x1).bind fun x30=>
 some (decide (x30=0))
noncomputable def Zgp (x14:Int):Unit→Option (Int ⊕ Bool)
| ()=>
 some (.inl (wr (x14+1)))
noncomputable def Zhp (x1:Bar) (x2:Graph) (x14:Int):Int→Option (Int ⊕ (Int ⊕ Bool))
| x18=>
 ifb (decide (x18≤4)) (
 (at_ x2.Edges x14).bind fun x19=>
 (Zpm x1 x19 x18).bind fun x20=>
 ifb (!decide (x20=1)) (
 Option.map Sum.inr (Option.map Sum.inr (some false))) (
 some (.inl (wr (x18+1))))) (
 Option.map Sum.inr ((Zgp x14) ()))
noncomputable def Zip (x1:Bar) (x2:Graph):Int→Option (Int ⊕ Bool)
| x14=>
 ifb (decide (x14<(ln Edge.row x2.Edges))) (
 loop (Zhp x1 x2 x14) 1) (
 Option.map Sum.inr ((Zfp x1) ()))
noncomputable def Zjp (x1:Bar) (x2:Graph):Option Bool:=
 loop (Zip x1 x2) 0
theorem Zkp (x1:Bar) (x2:Graph) (r:Bool) (h:Zjp x1 x2=some r):Zq2 Tryz.prog 30 [.agg (Bar.row x1),.elt (Graph.row x2) 0] (.bv r):=by
 refine Zu2 ok30 rfl rfl fun w0 H0=>?_
 rw [Zjp] at h
 refine Zl2 10 ?_;dsimp only [e30,Zep,Zdp,go_sem];refine ⟨by simp,?_⟩;refine Zi4 (fun (_:Unit)=>(⟨(.any :: .any :: .ptr 0 0::an 26 []),[some ⟨25,[.sl 5 (List.map Drinker.row x1.Drinkers),.sl 5 (List.map Mail.row x1.Mail)]⟩],[]⟩:St)) (Zfp x1) r ?_ fun J1=>?_
 ·rintro ⟨⟩ h;rw [Zfp] at h;(try dsimp only);refine Zl2 3 ?_;dsimp only [e30,Zep,Zdp,go_sem];refine ⟨by simp,?_⟩;obtain ⟨x30,ex30,h⟩:=Option.bind_eq_some_iff.1 h;refine Zz2 trivial (Z5l x1 _ ex30) (h:=?_);refine Zl2 3 ?_;dsimp only [e30,Zep,Zdp,go_sem];refine ⟨by simp,?_⟩;exact Zt4 (res:=fun (r:Bool)=>.bv r) ok30 h
 ·refine Zl2 1 ?_;dsimp only [e30,Zep,Zdp,go_sem];refine ⟨by simp,?_⟩;refine Zj4 h (fun (x14:Int)=>(⟨(.any :: .elt [.iv x2.N,.sl 2 (List.map Edge.row x2.Edges)] 0 :: .ptr 0 0 :: .any :: .iv x14::an 24 []),[some ⟨25,[.sl 5 (List.map Drinker.row x1.Drinkers),.sl 5 (List.map Mail.row x1.Mail)]⟩],[]⟩:St)) (by simp [go_sem]) (by intro x14;first | rfl | simp [go_sem]) ?_;rintro n1 x14 y1 h hin1 hout1;rw [Zip] at h;(try dsimp only);refine Zl2 9 ?_;dsimp only [e30,Zep,Zdp,go_sem];refine ⟨by simp,?_⟩
  refine Zk4 h rfl (fun _ h=>?_) fun _ h=>?_
  ·refine Zl2 7 ?_;dsimp only [e30,Zep,Zdp,go_sem];refine ⟨by simp,?_⟩;refine Zi4 (fun (_:Unit)=>(⟨(.any :: .elt [.iv x2.N,.sl 2 (List.map Edge.row x2.Edges)] 0 :: .ptr 0 0 :: .any :: .iv x14::an 24 []),[some ⟨25,[.sl 5 (List.map Drinker.row x1.Drinkers),.sl 5 (List.map Mail.row x1.Mail)]⟩],[]⟩:St)) (Zgp x14) y1 ?_ fun J2=>?_
   ·rintro ⟨⟩ h;rw [Zgp] at h;(try dsimp only);refine Zl2 6 ?_;dsimp only [e30,Zep,Zdp,go_sem];refine ⟨by simp,?_⟩;exact Zu4 h hin1
   ·refine Zl2 1 ?_;dsimp only [e30,Zep,Zdp,go_sem];refine ⟨by simp,?_⟩;refine Zj4 h (fun (x18:Int)=>(⟨(.any :: .elt [.iv x2.N,.sl 2 (List.map Edge.row x2.Edges)] 0 :: .ptr 0 0 :: .any :: .iv x14 :: .iv x18::an 23 []),[some ⟨25,[.sl 5 (List.map Drinker.row x1.Drinkers),.sl 5 (List.map Mail.row x1.Mail)]⟩],[]⟩:St)) (by simp [go_sem]) (by intro x18;first | rfl | simp [go_sem]) ?_;rintro n2 x18 y2 h hin2 hout2;rw [Zhp] at h;(try dsimp only);refine Zl2 6 ?_;dsimp only [e30,Zep,Zdp,go_sem];refine ⟨by simp,?_⟩
    refine Zk4 h rfl (fun _ h=>?_) fun _ h=>?_
    ·refine Zl2 4 ?_;dsimp only [e30,Zep,Zdp,go_sem];refine ⟨by simp,?_⟩;refine Zh3 (by kernel_rfl) fun all hall hs hnap haf=>?_;dsimp only [go_sem];refine Zf5 hall hs haf hnap 5 4 ?_;dsimp only [go_sem];refine ⟨by simp,?_⟩;obtain ⟨x19,ex19,h⟩:=Option.bind_eq_some_iff.1 h;refine Zo4 hall hs haf hnap 4 Edge.row ex19 rfl rfl trivial rfl rfl rfl rfl ?_;refine Zf5 hall hs haf hnap 1 2 ?_;dsimp only [go_sem];refine ⟨by simp,?_⟩;refine Zu3 7 rfl ?_;obtain ⟨x20,ex20,h⟩:=Option.bind_eq_some_iff.1 h
     refine Z04 hall rfl trivial (Zqm x1 x19 x18 _ ex20) (h:=?_);dsimp only [go_sem];refine Zf5 hall hs haf hnap 1 0 ?_;dsimp only [go_sem];refine ⟨by simp,?_⟩;refine Zt3 rfl ?_ _;refine Zk4 h rfl (fun _ h=>?_) fun _ h=>?_
     ·refine Zl2 4 ?_;dsimp only [e30,Zep,Zdp,go_sem];refine ⟨by simp,?_⟩;exact Zt4 (res:=fun (r:Bool)=>.bv r) ok30 (Zh4 (Zh4 h hout2) hout1)
     ·refine Zl2 7 ?_;dsimp only [e30,Zep,Zdp,go_sem];refine ⟨by simp,?_⟩;exact Zu4 h hin2
    ·refine Zl2 1 ?_;dsimp only [e30,Zep,Zdp,go_sem];refine ⟨by simp,?_⟩;exact Zv4 J2 (s:=()) (Zh4 h hout2)
  ·refine Zl2 1 ?_;dsimp only [e30,Zep,Zdp,go_sem];refine ⟨by simp,?_⟩;exact Zv4 J1 (s:=()) (Zh4 h hout1)
set_option maxRecDepth 100000
set_option maxHeartbeats 4000000
def e4:EC:=.seq (.reg [(Qa 2 (.box 53 2 (.t 0))),(Qa 4 (.mv (.c .ff)))]) (.seq (.seq (.reg [(Qa 7 (.call 11 [])),(Qa 8 (.not (.t 7))),(Qa 9 (.mv (.t 8))),(Qg 10 9 false (.loadA 2 (.t 2))),(Qg 11 9 false (.mv (.t 1))),(Qg 12 9 false (.call 28 [(.t 10),(.t 11)])),(Qg 13 9 false (.not (.t 12))),(Qa 14 (.pick (.t 9) (.c .tt) (.t 13)))]) (.ite (.t 14) (.seq (.reg [(Qa 15 (.call 11 [])),(Qa 4 (.mv (.t 15)))]) (.ret)) (.skip))) (.seq (.reg [(Qa 17 (.loadA 2 (.t 2))),(Qa 18 (.mv (.t 1))),(Qa 19 (.mkf 30 [(.t 2)])),(Qa 20 (.call 29 [(.t 17),(.t 18),(.t 19)])),(Qa 16 (.mv (.t 20))),(Qa 21 (.ext (.t 16) 0)),(Qa 22 (.ext (.t 16) 1)),(Qa 5 (.alloc 25 [.nl,.nl])),(Qb (.store 2 (.t 5) (.t 21))),(Qa 6 (.mv (.t 22)))]) (.seq (.reg [(Qa 23 (.mv (.t 6))),(Qa 4 (.mv (.t 23)))]) (.ret))))
theorem ok4:FnOK Tryz.prog 4 Tryz.f4 e4 [.t 4] 2 22:=⟨by kernel_rfl,⟨_,rfl,by kernel_rfl⟩,by kernel_rfl,by kernel_rfl⟩
noncomputable def Zlp (x1:Graph) (x2:(List narthexlaw16_Act)):Bool→Option Bool
| x5=>
 ifb x5 (
 (Zsn).bind fun x6=>
 some x6) (
 (Zyo x1 x2 ((fun z=>Zjp z x1))).bind fun x7=>
 some x7.2)
noncomputable def Zmp (x1:Graph) (x2:(List narthexlaw16_Act)):Option Bool:=
 (Zsn).bind fun x3=>
 ifb (!x3) (
 (Zlp x1 x2) true) (
 (Z5p x1 x2).bind fun x4=>
 (Zlp x1 x2) (!x4))
theorem k_narthexlaw16_BarOne (x1:Graph) (x2:(List narthexlaw16_Act)) (r:Bool) (h:Zmp x1 x2=some r):Zq2 Tryz.prog 4 [.agg (Graph.row x1),.sl 4 (List.map narthexlaw16_Act.row x2)] (.bv r):=by
 refine Zu2 ok4 rfl rfl fun w0 H0=>?_
 rw [Zmp] at h
 refine Zl2 8 ?_;dsimp only [e4,go_sem];refine ⟨by simp,?_⟩;obtain ⟨x3,ex3,h⟩:=Option.bind_eq_some_iff.1 h;refine Zz2 trivial (Ztn _ ex3) (h:=?_);refine Zl2 2 ?_;dsimp only [e4,go_sem];refine ⟨by simp,?_⟩;refine Zi4 (fun (x5:Bool)=>(⟨(.any :: .sl 4 (List.map narthexlaw16_Act.row x2) :: .ptr 0 0::an 11 (.bv x5::an 9 [])),[some ⟨53,[.iv x1.N,.sl 2 (List.map Edge.row x1.Edges)]⟩],[]⟩:St)) (Zlp x1 x2) r ?_ fun J1=>?_
 ·intro x5 h;rw [Zlp] at h;(try dsimp only);refine Zk4 h rfl (fun _ h=>?_) fun _ h=>?_
  ·refine Zl2 2 ?_;dsimp only [e4,go_sem];refine ⟨by simp,?_⟩;obtain ⟨x6,ex6,h⟩:=Option.bind_eq_some_iff.1 h;refine Zz2 trivial (Ztn _ ex6) (h:=?_);refine Zl2 2 ?_;dsimp only [e4,go_sem];refine ⟨by simp,?_⟩;exact Zt4 (res:=fun (r:Bool)=>.bv r) ok4 h
  ·refine Zl2 6 ?_;dsimp only [e4,go_sem];refine ⟨by simp,?_⟩;refine V_sealB 0 rfl rfl ?_;dsimp only [go_sem];obtain ⟨x7,ex7,h⟩:=Option.bind_eq_some_iff.1 h;refine Zz2 trivial (Zzo x1 x2 _ _ ((fun z=>Zjp z x1)) ⟨by kernel_rfl,rfl,fun z r hz=>Zkp z x1 r hz⟩ _ ex7) (h:=?_);refine Zl2 12 ?_;dsimp only [e4,go_sem];refine ⟨by simp,?_⟩;exact Zt4 (res:=fun (r:Bool)=>.bv r) ok4 h
 ·refine Zs4 9 h rfl (fun _ h=>?_) fun _ h=>?_
  ·dsimp only [go_sem];refine Zl2 6 ?_;dsimp only [e4,go_sem];refine ⟨by simp,?_⟩;exact Zv4 J1 (s:=true) h
  ·dsimp only [go_sem];refine Zl2 2 ?_;dsimp only [e4,go_sem];refine ⟨by simp,?_⟩;obtain ⟨x4,ex4,h⟩:=Option.bind_eq_some_iff.1 h;refine Zz2 trivial (Z6p x1 x2 _ ex4) (h:=?_);refine Zl2 3 ?_;dsimp only [e4,go_sem];refine ⟨by simp,?_⟩;exact Zv4 J1 (s:=!x4) h
set_option maxRecDepth 100000
set_option maxHeartbeats 4000000
def Znp:EC:=.seq (.seq (.reg [(Qa 26 (.mv (.t 6))),(Qa 27 (.fld 4 (.t 5))),(Qa 28 (.load (.t 27))),(Qa 29 (.len (.t 28))),(Qa 30 (.bin .lss (.t 26) (.t 29)))]) (.ite (.t 30) (.skip) (.exit 2))) (.seq (.blk 3 (.seq (.drw [(Qa 34 (.fld 0 (.t 5))),(Qa 35 (.loadA 3 (.t 34))),(Qa 36 (.fld 4 (.t 5))),(Qa 37 (.load (.t 36))),(Qa 38 (.mv (.t 6))),(Qa 39 (.idx 1 (.t 37) (.t 38))),(Qa 40 (.load (.t 39))),(Qa 41 (.call 32 [(.t 35),(.t 40)])),(Qa 33 (.mv (.t 41))),(Qa 42 (.ext (.t 33) 0)),(Qa 43 (.ext (.t 33) 1)),(Qa 7 (.alloc 66 [.iv 0,.iv 0,.iv 0,.ff,.ff,.ff,.ff,.ff])),(Qb (.store 8 (.t 7) (.t 42))),(Qa 8 (.mv (.t 43)))] [[],[0],[],[2],[],[3,4],[5],[1,6],[7],[8],[8],[],[11,9,7,0,1,2,3,4,5,6,7,8,9,11],[10,12,0,1,2,3,4,5,6,7,8,9,10,11,12]] [[1],[0,7],[3],[2,5],[5],[3,4,6],[5,7],[1,6,8],[7,9,10],[8,12],[8,13],[12],[9,11],[10]]) (.seq (.drw [(Qa 44 (.fld 0 (.t 1))),(Qa 45 (.load (.t 44))),(Qa 46 (.fld 4 (.t 5))),(Qa 47 (.load (.t 46))),(Qa 48 (.mv (.t 6))),(Qa 49 (.idx 1 (.t 47) (.t 48))),(Qa 50 (.load (.t 49))),(Qa 51 (.idx 5 (.t 45) (.t 50))),(Qa 52 (.loadA 5 (.t 51))),(Qa 9 (.alloc 63 [.iv 0,.iv 0,.nl,.iv 0,.nl])),(Qb (.store 5 (.t 9) (.t 52)))] [[],[0],[],[2],[],[3,4],[5],[1,6],[7],[],[9,8,0,1,2,3,4,5,6,7,8,9]] [[1],[0,7],[3],[2,5],[5],[3,4,6],[5,7],[1,6,8],[7,10],[10],[8,9]]) (.seq (.reg [(Qa 53 (.mv (.t 8))),(Qa 54 (.not (.t 53))),(Qa 55 (.mv (.t 54))),(Qg 56 55 false (.fld 6 (.t 7))),(Qg 57 55 false (.load (.t 56))),(Qg 58 55 false (.not (.t 57))),(Qa 59 (.pick (.t 55) (.c .tt) (.t 58))),(Qa 60 (.mv (.t 59))),(Qg 61 60 false (.fld 3 (.t 9))),(Qg 62 60 false (.load (.t 61))),(Qg 63 60 false (.bin .eql (.t 62) (.c (.iv 2)))),(Qg 64 60 false (.mv (.t 63))),(Qg 65 64 true (.fld 4 (.t 9))),(Qg 66 64 true (.load (.t 65))),(Qg 67 64 true (.fld 0 (.t 5))),(Qg 68 64 true (.fld 0 (.t 67))),(Qg 69 64 true (.load (.t 68))),(Qg 70 64 true (.call 33 [(.t 66),(.t 69)])),(Qg 71 60 false (.pick (.t 64) (.t 70) (.c .ff))),(Qa 72 (.pick (.t 60) (.c .tt) (.t 71)))]) (.ite (.t 72) (.seq (.reg [(Qa 2 (.mv (.c .ff)))]) (.ret)) (.skip)))))) (.reg [(Qa 31 (.mv (.t 6))),(Qa 32 (.bin .add (.t 31) (.c (.iv 1)))),(Qa 6 (.mv (.t 32)))]))
def Zop:EC:=.seq (.seq (.reg [(Qa 12 (.mv (.t 4))),(Qa 13 (.mv (.t 3))),(Qa 14 (.len (.t 13))),(Qa 15 (.bin .lss (.t 12) (.t 14)))]) (.ite (.t 15) (.skip) (.exit 0))) (.seq (.blk 1 (.seq (.drw [(Qa 18 (.fld 0 (.t 1))),(Qa 19 (.load (.t 18))),(Qa 20 (.mv (.t 3))),(Qa 21 (.mv (.t 4))),(Qa 22 (.idx 1 (.t 20) (.t 21))),(Qa 23 (.load (.t 22))),(Qa 24 (.idx 5 (.t 19) (.t 23))),(Qa 25 (.loadA 5 (.t 24))),(Qa 5 (.alloc 63 [.iv 0,.iv 0,.nl,.iv 0,.nl])),(Qb (.store 5 (.t 5) (.t 25)))] [[],[0],[],[],[2,3],[4],[1,5],[6],[],[8,7,0,1,2,3,4,5,6,7,8]] [[1],[0,6],[4],[4],[2,3,5],[4,6],[1,5,7],[6,9],[9],[7,8]]) (.seq (.reg [(Qa 6 (.mv (.c (.iv 0))))]) (.blk 2 (.loop Znp))))) (.reg [(Qa 16 (.mv (.t 4))),(Qa 17 (.bin .add (.t 16) (.c (.iv 1)))),(Qa 4 (.mv (.t 17)))]))
def e31:EC:=.seq (.reg [(Qa 1 (.box 25 2 (.t 0))),(Qa 2 (.mv (.c .ff)))]) (.seq (.reg [(Qa 10 (.loadA 2 (.t 1))),(Qa 11 (.call 22 [(.t 10),(.c (.iv 2))])),(Qa 3 (.mv (.t 11)))]) (.seq (.seq (.reg [(Qa 4 (.mv (.c (.iv 0))))]) (.blk 0 (.loop Zop))) (.seq (.reg [(Qa 2 (.mv (.c .tt)))]) (.ret))))
theorem ok31:FnOK Tryz.prog 31 Tryz.f31 e31 [.t 2] 1 72:=⟨by kernel_rfl,⟨_,rfl,by kernel_rfl⟩,by kernel_rfl,by kernel_rfl⟩
noncomputable def Zpp:Unit→Option Bool
| ()=>
 some true
noncomputable def Zqp (x31:Int):Unit→Option (Int ⊕ Bool)
| ()=>
 some (.inl (wr (x31+1)))
noncomputable def Zrp (x44:Int):Bool→Option (Int ⊕ (Int ⊕ Bool))
| x53=>
 ifb x53 (
 Option.map Sum.inr (Option.map Sum.inr (some false))) (
 some (.inl (wr (x44+1))))
noncomputable def Zsp (x1:Bar) (x33:Drinker) (x44:Int):(Bool×Side)→Option (Int ⊕ (Int ⊕ Bool))
| (x48,x49)=>
 (at_ x33.Need x44).bind fun x50=>
 (at_ x1.Drinkers x50).bind fun x51=>
 ifb (!x48) (
 (Zrp x44) true) (
 ifb (!x49.Bottle) (
 (Zrp x44) true) (
 ifb (decide (x51.Thirst=2)) (
 (Z1e x51.Need x33.Diner.ID).bind fun x52=>
 (Zrp x44) x52) (
 (Zrp x44) false)))
noncomputable def Ztp (x1:Bar) (x31:Int) (x33:Drinker):Int→Option (Int ⊕ (Int ⊕ Bool))
| x44=>
 ifb (decide (x44<(ln Z05 x33.Need))) (
 (at_ x33.Need x44).bind fun x45=>
 (Zg8 x33.Diner x45).bind fun x46=>
 (Zsp x1 x33 x44) (x46.2,x46.1)) (
 Option.map Sum.inr ((Zqp x31) ()))
noncomputable def Zup (x1:Bar) (x2:(List Int)):Int→Option (Int ⊕ Bool)
| x31=>
 ifb (decide (x31<(ln Z05 x2))) (
 (at_ x2 x31).bind fun x32=>
 (at_ x1.Drinkers x32).bind fun x33=>
 loop (Ztp x1 x31 x33) 0) (
 Option.map Sum.inr (Zpp ()))
noncomputable def Zvp (x1:Bar):Option Bool:=
 (Z8m x1 2).bind fun x2=>
 loop (Zup x1 x2) 0
theorem Zwp (x1:Bar) (r:Bool) (h:Zvp x1=some r):Zq2 Tryz.prog 31 [.agg (Bar.row x1)] (.bv r):=by
 refine Zu2 ok31 rfl rfl fun w0 H0=>?_
 rw [Zvp] at h
 refine Zl2 8 ?_;dsimp only [e31,Zop,Znp,go_sem];refine ⟨by simp,?_⟩;obtain ⟨x2,ex2,h⟩:=Option.bind_eq_some_iff.1 h;refine Zz2 trivial (Z9m x1 2 _ ex2) (h:=?_);refine Zl2 7 ?_;dsimp only [e31,Zop,Znp,go_sem];refine ⟨by simp,?_⟩;refine Zi4 (fun (_:Unit)=>(⟨(an 73 []),[],[]⟩:St)) Zpp r ?_ fun J1=>?_
 ·rintro ⟨⟩ h;rw [Zpp] at h;(try dsimp only);refine Zl2 4 ?_;dsimp only [e31,Zop,Znp,go_sem];refine ⟨by simp,?_⟩;exact Zt4 (res:=fun (r:Bool)=>.bv r) ok31 h
 ·refine Zl2 1 ?_;dsimp only [e31,Zop,Znp,go_sem];refine ⟨by simp,?_⟩;refine Zj4 h (fun (x31:Int)=>(⟨(.any :: .ptr 0 0 :: .any :: .sl 1 (List.map Z05 x2) :: .iv x31::an 68 []),[some ⟨25,[.sl 5 (List.map Drinker.row x1.Drinkers),.sl 5 (List.map Mail.row x1.Mail)]⟩],[]⟩:St)) (by simp [go_sem]) (by intro x31;first | rfl | simp [go_sem]) ?_;rintro n1 x31 y1 h hin1 hout1;rw [Zup] at h;(try dsimp only);refine Zl2 8 ?_;dsimp only [e31,Zop,Znp,go_sem];refine ⟨by simp,?_⟩;refine Zk4 h rfl (fun _ h=>?_) fun _ h=>?_
  ·refine Zl2 4 ?_;dsimp only [e31,Zop,Znp,go_sem];refine ⟨by simp,?_⟩;refine Zh3 (by kernel_rfl) fun all hall hs hnap haf=>?_;dsimp only [go_sem];refine Zf5 hall hs haf hnap 4 6 ?_;dsimp only [go_sem];refine ⟨by simp,?_⟩;obtain ⟨x32,ex32,h⟩:=Option.bind_eq_some_iff.1 h;refine Zo4 hall hs haf hnap 4 Z05 ex32 rfl rfl trivial rfl rfl rfl rfl ?_;refine Zf5 hall hs haf hnap 1 4 ?_;dsimp only [go_sem];refine ⟨by simp,?_⟩;obtain ⟨x33,ex33,h⟩:=Option.bind_eq_some_iff.1 h
   refine Zo4 hall hs haf hnap 6 Drinker.row ex33 rfl rfl trivial rfl rfl rfl rfl ?_;refine Zf5 hall hs haf hnap 1 2 ?_;dsimp only [go_sem];refine ⟨by simp,?_⟩;refine Zu3 8 rfl ?_;refine Zz3 hall rfl trivial ?_;dsimp only [go_sem];refine Zu3 9 rfl ?_;refine Zz3 hall rfl trivial ?_;dsimp only [go_sem];refine Zt3 rfl ?_ _;refine Zl2 4 ?_;dsimp only [e31,Zop,Znp,go_sem];refine ⟨by simp,?_⟩
   refine Zi4 (fun (_:Unit)=>(⟨(.any :: .ptr 0 0 :: .any :: .sl 1 (List.map Z05 x2) :: .iv x31::an 68 []),[some ⟨25,[.sl 5 (List.map Drinker.row x1.Drinkers),.sl 5 (List.map Mail.row x1.Mail)]⟩],[]⟩:St)) (Zqp x31) y1 ?_ fun J2=>?_
   ·rintro ⟨⟩ h;rw [Zqp] at h;(try dsimp only);refine Zl2 6 ?_;dsimp only [e31,Zop,Znp,go_sem];refine ⟨by simp,?_⟩;exact Zu4 h hin1
   ·refine Zl2 1 ?_;dsimp only [e31,Zop,Znp,go_sem];refine ⟨by simp,?_⟩;refine Zj4 h (fun (x44:Int)=>(⟨(.any :: .ptr 0 0 :: .any :: .sl 1 (List.map Z05 x2) :: .iv x31 :: .ptr 1 0 :: .iv x44::an 66 []),[some ⟨25,[.sl 5 (List.map Drinker.row x1.Drinkers),.sl 5 (List.map Mail.row x1.Mail)]⟩,some ⟨63,[.iv x33.Diner.ID,.iv x33.Diner.Phase,.sl 8 (List.map Side.row x33.Diner.Sides),.iv x33.Thirst,.sl 1 (List.map Z05 x33.Need)]⟩],[]⟩:St)) (by simp [go_sem]) (by intro x44;first | rfl | simp [go_sem]) ?_;rintro n2 x44 y2 h hin2 hout2
    rw [Ztp] at h;(try dsimp only);refine Zl2 9 ?_;dsimp only [e31,Zop,Znp,go_sem];refine ⟨by simp,?_⟩;refine Zk4 h rfl (fun _ h=>?_) fun _ h=>?_
    ·refine Zl2 4 ?_;dsimp only [e31,Zop,Znp,go_sem];refine ⟨by simp,?_⟩
     refine Zi4 (fun ((x48,x49):(Bool×Side))=>(⟨(.any :: .ptr 0 0 :: .any :: .sl 1 (List.map Z05 x2) :: .iv x31 :: .ptr 1 0 :: .iv x44 :: .ptr 2 0 :: .bv x48::an 64 []),[some ⟨25,[.sl 5 (List.map Drinker.row x1.Drinkers),.sl 5 (List.map Mail.row x1.Mail)]⟩,some ⟨63,[.iv x33.Diner.ID,.iv x33.Diner.Phase,.sl 8 (List.map Side.row x33.Diner.Sides),.iv x33.Thirst,.sl 1 (List.map Z05 x33.Need)]⟩,some ⟨66,[.iv x49.Peer,.iv x49.Epoch,.iv x49.State,.bv x49.Fork,.bv x49.Dirty,.bv x49.Token,.bv x49.Bottle,.bv x49.Ask]⟩],[]⟩:St)) (Zsp x1 x33 x44) y2 ?_ fun J3=>?_
     ·rintro ⟨x48,x49⟩ h;rw [Zsp] at h;(try dsimp only);refine Zl2 1 ?_;dsimp only [e31,Zop,Znp,go_sem];refine ⟨by simp,?_⟩;refine Zh3 (by kernel_rfl) fun all hall hs hnap haf=>?_;dsimp only [go_sem];refine Zf5 hall hs haf hnap 5 6 ?_;dsimp only [go_sem];refine ⟨by simp,?_⟩;obtain ⟨x50,ex50,h⟩:=Option.bind_eq_some_iff.1 h;refine Zo4 hall hs haf hnap 5 Z05 ex50 rfl rfl trivial rfl rfl rfl rfl ?_;refine Zf5 hall hs haf hnap 1 4 ?_;dsimp only [go_sem];refine ⟨by simp,?_⟩
      obtain ⟨x51,ex51,h⟩:=Option.bind_eq_some_iff.1 h;refine Zo4 hall hs haf hnap 7 Drinker.row ex51 rfl rfl trivial rfl rfl rfl rfl ?_;refine Zf5 hall hs haf hnap 1 2 ?_;dsimp only [go_sem];refine ⟨by simp,?_⟩;refine Zu3 9 rfl ?_;refine Zz3 hall rfl trivial ?_;dsimp only [go_sem];refine Zu3 10 rfl ?_;refine Zz3 hall rfl trivial ?_;dsimp only [go_sem];refine Zt3 rfl ?_ _;refine Zl2 5 ?_;dsimp only [e31,Zop,Znp,go_sem];refine ⟨by simp,?_⟩
      refine Zi4 (fun (x53:Bool)=>(⟨(.any :: .ptr 0 0 :: .any :: .sl 1 (List.map Z05 x2) :: .iv x31 :: .ptr 1 0 :: .iv x44::an 65 [.bv x53]),[some ⟨25,[.sl 5 (List.map Drinker.row x1.Drinkers),.sl 5 (List.map Mail.row x1.Mail)]⟩,some ⟨63,[.iv x33.Diner.ID,.iv x33.Diner.Phase,.sl 8 (List.map Side.row x33.Diner.Sides),.iv x33.Thirst,.sl 1 (List.map Z05 x33.Need)]⟩],[]⟩:St)) (Zrp x44) y2 ?_ fun J4=>?_
      ·intro x53 h;rw [Zrp] at h;(try dsimp only);refine Zk4 h rfl (fun _ h=>?_) fun _ h=>?_
       ·refine Zl2 4 ?_;dsimp only [e31,Zop,Znp,go_sem];refine ⟨by simp,?_⟩;exact Zt4 (res:=fun (r:Bool)=>.bv r) ok31 (Zh4 (Zh4 h hout2) hout1)
       ·refine Zl2 7 ?_;dsimp only [e31,Zop,Znp,go_sem];refine ⟨by simp,?_⟩;exact Zu4 h hin2
      ·refine Zs4 55 h rfl (fun _ h=>?_) fun _ h=>?_
       ·dsimp only [go_sem];refine Zl2 18 ?_;dsimp only [e31,Zop,Znp,go_sem];refine ⟨by simp,?_⟩;exact Zv4 J4 (s:=true) h
       ·dsimp only [go_sem];refine Zl2 5 ?_;dsimp only [e31,Zop,Znp,go_sem];refine ⟨by simp,?_⟩;refine Zs4 60 h rfl (fun _ h=>?_) fun _ h=>?_
        ·dsimp only [go_sem];refine Zl2 13 ?_;dsimp only [e31,Zop,Znp,go_sem];refine ⟨by simp,?_⟩;exact Zv4 J4 (s:=true) h
        ·dsimp only [go_sem];refine Zl2 4 ?_;dsimp only [e31,Zop,Znp,go_sem];refine ⟨by simp,?_⟩;refine Zs4 64 h rfl (fun _ h=>?_) fun _ h=>?_
         ·dsimp only [go_sem];refine Zl2 5 ?_;dsimp only [e31,Zop,Znp,go_sem];refine ⟨by simp,?_⟩;obtain ⟨x52,ex52,h⟩:=Option.bind_eq_some_iff.1 h;refine Zz2 trivial (Z2e x51.Need x33.Diner.ID _ ex52) (h:=?_);refine Zl2 3 ?_;dsimp only [e31,Zop,Znp,go_sem];refine ⟨by simp,?_⟩;exact Zv4 J4 (s:=x52) h
         ·dsimp only [go_sem];refine Zl2 9 ?_;dsimp only [e31,Zop,Znp,go_sem];refine ⟨by simp,?_⟩;exact Zv4 J4 (s:=false) h
     ·refine Zh3 (by kernel_rfl) fun all hall hs hnap haf=>?_;dsimp only [go_sem]
      refine Zg5 hall hs haf hnap 5 9 [true,true,true,true,true,false,false,false,false,false,false,false,false,false] (⟨(.any :: .ptr 0 0 :: .any :: .sl 1 (List.map Z05 x2) :: .iv x31 :: .ptr 1 0 :: .iv x44::an 19 (.iv x44 :: .ptr 1 4 :: .sl 1 (List.map Z05 x33.Need) :: .iv (ln Z05 x33.Need) :: .bv (decide (x44<(ln Z05 x33.Need)))::an 3 (.ptr 1 0 :: .agg [.iv x33.Diner.ID,.iv x33.Diner.Phase,.sl 8 (List.map Side.row x33.Diner.Sides)] :: .ptr 1 4 :: .sl 1 (List.map Z05 x33.Need) :: .iv x44::an 34 []))),[some ⟨25,[.sl 5 (List.map Drinker.row x1.Drinkers),.sl 5 (List.map Mail.row x1.Mail)]⟩,some ⟨63,[.iv x33.Diner.ID,.iv x33.Diner.Phase,.sl 8 (List.map Side.row x33.Diner.Sides),.iv x33.Thirst,.sl 1 (List.map Z05 x33.Need)]⟩],[]⟩:St) (by kernel_rfl) ?_
      obtain ⟨x45,ex45,h⟩:=Option.bind_eq_some_iff.1 h;refine Zo4 hall hs haf hnap 5 Z05 ex45 rfl rfl trivial rfl rfl rfl rfl ?_;refine Zf5 hall hs haf hnap 1 7 ?_;dsimp only [go_sem];refine ⟨by simp,?_⟩;obtain ⟨x46,ex46,h⟩:=Option.bind_eq_some_iff.1 h;refine Zv3 7 11 rfl ?_ ?_
      ·refine Z04 hall rfl trivial (Zh8 x33.Diner x45 _ ex46) (h:=?_);dsimp only [go_sem];refine Zf5 hall hs haf hnap 3 3 ?_;dsimp only [go_sem];refine ⟨by simp,?_⟩;refine Zu3 11 rfl ?_;refine Zz3 hall rfl trivial ?_;dsimp only [go_sem];refine Zu3 12 rfl ?_;refine Zz3 hall rfl trivial ?_;dsimp only [go_sem];refine Zf5 hall hs haf hnap 1 0 ?_;dsimp only [go_sem];refine ⟨by simp,?_⟩;refine Zt3 rfl ?_ _;exact Zv4 J3 (s:=(x46.2,x46.1)) h
      ·refine Zz3 hall rfl trivial ?_;dsimp only [go_sem];refine Zu3 7 rfl ?_;refine Z04 hall rfl trivial (Zh8 x33.Diner x45 _ ex46) (h:=?_);dsimp only [go_sem];refine Zf5 hall hs haf hnap 3 2 ?_;dsimp only [go_sem];refine ⟨by simp,?_⟩;refine Zu3 12 rfl ?_;refine Zz3 hall rfl trivial ?_;dsimp only [go_sem];refine Zf5 hall hs haf hnap 1 0 ?_;dsimp only [go_sem];refine ⟨by simp,?_⟩;refine Zt3 rfl ?_ _;exact Zv4 J3 (s:=(x46.2,x46.1)) h
    ·refine Zl2 1 ?_;dsimp only [e31,Zop,Znp,go_sem];refine ⟨by simp,?_⟩;exact Zv4 J2 (s:=()) (Zh4 h hout2)
  ·refine Zl2 1 ?_;dsimp only [e31,Zop,Znp,go_sem];refine ⟨by simp,?_⟩;exact Zv4 J1 (s:=()) (Zh4 h hout1)
set_option maxRecDepth 100000
set_option maxHeartbeats 4000000
def e5:EC:=.seq (.reg [(Qa 2 (.box 53 2 (.t 0))),(Qa 4 (.mv (.c .ff)))]) (.seq (.seq (.reg [(Qa 7 (.call 11 [])),(Qa 8 (.not (.t 7))),(Qa 9 (.mv (.t 8))),(Qg 10 9 false (.loadA 2 (.t 2))),(Qg 11 9 false (.mv (.t 1))),(Qg 12 9 false (.call 28 [(.t 10),(.t 11)])),(Qg 13 9 false (.not (.t 12))),(Qa 14 (.pick (.t 9) (.c .tt) (.t 13)))]) (.ite (.t 14) (.seq (.reg [(Qa 15 (.call 11 [])),(Qa 4 (.mv (.t 15)))]) (.ret)) (.skip))) (.seq (.reg [(Qa 17 (.loadA 2 (.t 2))),(Qa 18 (.mv (.t 1))),(Qa 19 (.call 29 [(.t 17),(.t 18),(.c (.clo 31 []))])),(Qa 16 (.mv (.t 19))),(Qa 20 (.ext (.t 16) 0)),(Qa 21 (.ext (.t 16) 1)),(Qa 5 (.alloc 25 [.nl,.nl])),(Qb (.store 2 (.t 5) (.t 20))),(Qa 6 (.mv (.t 21)))]) (.seq (.reg [(Qa 22 (.mv (.t 6))),(Qa 4 (.mv (.t 22)))]) (.ret))))
theorem ok5:FnOK Tryz.prog 5 Tryz.f5 e5 [.t 4] 2 21:=⟨by kernel_rfl,⟨_,rfl,by kernel_rfl⟩,by kernel_rfl,by kernel_rfl⟩
noncomputable def Zxp (x1:Graph) (x2:(List narthexlaw16_Act)):Bool→Option Bool
| x5=>
 ifb x5 (
 (Zsn).bind fun x6=>
 some x6) (
 (Zyo x1 x2 ((fun z=>Zvp z))).bind fun x7=>
 some x7.2)
noncomputable def Zyp (x1:Graph) (x2:(List narthexlaw16_Act)):Option Bool:=
 (Zsn).bind fun x3=>
 ifb (!x3) (
 (Zxp x1 x2) true) (
 (Z5p x1 x2).bind fun x4=>
 (Zxp x1 x2) (!x4))
theorem k_narthexlaw16_BarApart (x1:Graph) (x2:(List narthexlaw16_Act)) (r:Bool) (h:Zyp x1 x2=some r):Zq2 Tryz.prog 5 [.agg (Graph.row x1),.sl 4 (List.map narthexlaw16_Act.row x2)] (.bv r):=by
 refine Zu2 ok5 rfl rfl fun w0 H0=>?_
 rw [Zyp] at h
 refine Zl2 8 ?_;dsimp only [e5,go_sem];refine ⟨by simp,?_⟩;obtain ⟨x3,ex3,h⟩:=Option.bind_eq_some_iff.1 h;refine Zz2 trivial (Ztn _ ex3) (h:=?_);refine Zl2 2 ?_;dsimp only [e5,go_sem];refine ⟨by simp,?_⟩;refine Zi4 (fun (x5:Bool)=>(⟨(.any :: .sl 4 (List.map narthexlaw16_Act.row x2) :: .ptr 0 0::an 11 (.bv x5::an 8 [])),[some ⟨53,[.iv x1.N,.sl 2 (List.map Edge.row x1.Edges)]⟩],[]⟩:St)) (Zxp x1 x2) r ?_ fun J1=>?_
 ·intro x5 h;rw [Zxp] at h;(try dsimp only);refine Zk4 h rfl (fun _ h=>?_) fun _ h=>?_
  ·refine Zl2 2 ?_;dsimp only [e5,go_sem];refine ⟨by simp,?_⟩;obtain ⟨x6,ex6,h⟩:=Option.bind_eq_some_iff.1 h;refine Zz2 trivial (Ztn _ ex6) (h:=?_);refine Zl2 2 ?_;dsimp only [e5,go_sem];refine ⟨by simp,?_⟩;exact Zt4 (res:=fun (r:Bool)=>.bv r) ok5 h
  ·refine Zl2 5 ?_;dsimp only [e5,go_sem];refine ⟨by simp,?_⟩;obtain ⟨x7,ex7,h⟩:=Option.bind_eq_some_iff.1 h;refine Zz2 trivial (Zzo x1 x2 _ _ ((fun z=>Zvp z)) ⟨by kernel_rfl,rfl,fun z r hz=>Zwp z r hz⟩ _ ex7) (h:=?_);refine Zl2 12 ?_;dsimp only [e5,go_sem];refine ⟨by simp,?_⟩;exact Zt4 (res:=fun (r:Bool)=>.bv r) ok5 h
 ·refine Zs4 9 h rfl (fun _ h=>?_) fun _ h=>?_
  ·dsimp only [go_sem];refine Zl2 6 ?_;dsimp only [e5,go_sem];refine ⟨by simp,?_⟩;exact Zv4 J1 (s:=true) h
  ·dsimp only [go_sem];refine Zl2 2 ?_;dsimp only [e5,go_sem];refine ⟨by simp,?_⟩;obtain ⟨x4,ex4,h⟩:=Option.bind_eq_some_iff.1 h;refine Zz2 trivial (Z6p x1 x2 _ ex4) (h:=?_);refine Zl2 3 ?_;dsimp only [e5,go_sem];refine ⟨by simp,?_⟩;exact Zv4 J1 (s:=!x4) h
theorem Zzp {g:Graph} {e:Edge} (hlt:e.A<e.B) (k:Int):∀M:List Mail,(∀m∈M,mailR g m)→Zhk M e k 1=cnt M k e.A e.B+cnt M k e.B e.A
 | [],_=>rfl
 | m::M,h=>by
   have ih:=Zzp hlt k M fun x hx=>h x (by simp [hx])
   obtain ⟨h1,h2,h3,h4⟩:=h m (by simp)
   have hm:bn (mailB e k 1 m)=bn (decide (m=⟨e.A,e.B,⟨k,1,0⟩⟩))+bn (decide (m=⟨e.B,e.A,⟨k,1,0⟩⟩)):=by
    obtain ⟨f,t,⟨kk,ep,n⟩⟩:=m
    dsimp only at h2 h3
    subst h2;subst h3
    unfold mailB
    dsimp only
    simp only [Mail.mk.injEq,Msg.mk.injEq]
    by_cases hk:kk=k
    ·by_cases c1:f=e.A∧t=e.B
     ·have:¬(f=e.B∧t=e.A):=by omega
      have m1:min f t=min e.A e.B:=by omega
      have m2:max f t=max e.A e.B:=by omega
      obtain ⟨c1,c2⟩:=c1
      have d2:¬e.A=e.B:=by omega
      rw [m1,m2,hk]
      simp [c1,c2,bn,d2]
     ·by_cases c2:f=e.B∧t=e.A
      ·have m1:min f t=min e.A e.B:=by omega
       have m2:max f t=max e.A e.B:=by omega
       obtain ⟨c3,c4⟩:=c2
       have d2:¬e.B=e.A:=by omega
       rw [m1,m2,hk]
       simp [c3,c4,bn,d2]
      ·have:¬(min f t=min e.A e.B∧max f t=max e.A e.B):=by omega
       have e1:(decide (min f t=min e.A e.B)&&decide (max f t=max e.A e.B))=false:=by
        rw [←Bool.decide_and,decide_eq_false_iff_not];exact this
       rw [e1]
       simp [bn]
       rw [if_neg (by omega),if_neg (by omega)]
    ·simp [hk,bn]
   unfold Zhk cnt at ih ⊢
   rw [List.countP_cons,List.count_cons,List.count_cons,ih]
   unfold bn at hm
   simp only [decide_eq_true_eq,beq_iff_eq] at hm ⊢
   omega
theorem InvB.get {g:Graph} {s:Bar} (h:InvB g s) {a:Int} (h0:0≤a) (h1:a<g.N):∃d,s.Drinkers[a.toNat]?=some d:=by
 have hl:=h.tab.len
 have e:(Zko s).Diners.length=s.Drinkers.length:=by simp [Zko]
 exact ⟨_,List.getElem?_eq_getElem (by omega)⟩
theorem cnt_k12 (M:List Mail) {k:Int} (hk:k≤2) (p q:Int):cnt (M.filter k12) k p q=cnt M k p q:=by
 unfold cnt
 exact List.count_filter (decide_eq_true hk)
theorem InvB.count {g:Graph} {s:Bar} (hg:okG g=true) (h:InvB g s) {e:Edge} (he:e∈g.Edges) {k:Int} (h1:1≤k) (h4:k≤4):Zpn s e k=1:=by
 obtain ⟨g1,g2,g3,g4,g5⟩:=Z28 hg
 obtain ⟨e1,e2,e3⟩:=g4 e he
 have nB:e.B∈Zye g e.A:=(Z2f hg).2 (.inl he)
 have nA:=Z6g hg nB
 obtain ⟨da,ha⟩:=h.get e1 (by omega)
 obtain ⟨db,hb⟩:=h.get (a:=e.B) (by omega) (by omega)
 have hat:=Zlo ha
 have hbt:=Zlo hb
 obtain ⟨x,hx,xm⟩:=h.tab.sided e1 hat nB
 obtain ⟨y,hy,ym⟩:=h.tab.sided (by omega) hbt nA
 have hxe:=((h.tab.loc _ (List.mem_iff_getElem?.2 ⟨_,hat⟩)).side x xm).1
 have hye:=((h.tab.loc _ (List.mem_iff_getElem?.2 ⟨_,hbt⟩)).side y ym).1
 have eA:=Int.toNat_of_nonneg e1
 have eB:=Int.toNat_of_nonneg (show 0≤e.B by omega)
 have la:=(List.getElem?_eq_some_iff.1 ha).1
 have lb:=(List.getElem?_eq_some_iff.1 hb).1
 have hcm:=Zzp e2 k s.Mail h.mail
 unfold Zpn
 by_cases hk:k=3∨k=4
 ·have hone:=h.two e.A.toNat e.B.toNat da db ha hb (by rw [eA,eB];exact nB) k hk
  rw [eA,eB] at hone
  unfold hasT at hone
  rw [hx,hy] at hone
  dsimp only at hone
  rw [if_pos hk,show Zcn s e.A=true from Zen.2 ⟨e1,by omega⟩,show Zcn s e.B=true from Zen.2 ⟨by omega,by omega⟩,Bool.and_self,if_pos rfl,ha,hb]
  dsimp only
  rw [hx,hy]
  dsimp only
  rw [if_pos (hxe.trans hye.symm),hxe]
  omega
 ·have hk2:k=1∨k=2:=by omega
  rw [if_neg hk]
  have hone:=h.tab.one e.A.toNat e.B.toNat da.Diner db.Diner hat hbt (by rw [eA,eB];exact nB) k hk2
  rw [eA,eB] at hone
  unfold hasD at hone
  rw [hx,hy] at hone
  dsimp only at hone
  have c1:cnt (Zko s).Mail k e.A e.B=cnt s.Mail k e.A e.B:=cnt_k12 s.Mail (by omega) _ _
  have c2:cnt (Zko s).Mail k e.B e.A=cnt s.Mail k e.B e.A:=cnt_k12 s.Mail (by omega) _ _
  rw [c1,c2] at hone
  have hsl:(scB s).Diners.length=s.Drinkers.length:=by simp [scB]
  unfold countS
  rw [show Z5j (scB s) e.A=true from Zlj.2 ⟨e1,by omega⟩,show Z5j (scB s) e.B=true from Zlj.2 ⟨by omega,by omega⟩]
  have ga:(scB s).Diners[e.A.toNat]?=some da.Diner:=hat
  have gb:(scB s).Diners[e.B.toNat]?=some db.Diner:=hbt
  rw [ga,gb]
  dsimp only
  rw [hx,hy]
  dsimp only
  have hcond:(decide (x.Epoch=y.Epoch)&&(decide (k=1)||decide (k=2)))=true:=by
   rw [hxe,hye]
   rcases hk2 with rfl | rfl<;>rfl
  rw [hcond,if_pos rfl,if_pos (show (true&&true)=true from rfl),hxe]
  have hm:(scB s).Mail=s.Mail:=rfl
  rw [hm]
  omega
theorem s_BOne1 {g:Graph} (hg:okG g=true) (hN:g.N≤60) (s:Bar) (h:InvB g s) (hM:s.Mail.length≤30000):Zjp s g=some true:=by
 obtain ⟨g1,g2,g3,g4,g5⟩:=Z28 hg
 have hD:=h.fewL hg
 refine Zs8 g.Edges (Zip s g) (fun pre=>(pre.length:Int)) true (fun pre e post hp=>?_) ?_
 ·have hx:=Zt8 hp
  have hm:=Zu8 hp
  have he:=Zv8 hp
  dsimp only [Zip]
  rw [Zi6 hx,Zc6,Zy8]
  have:=Zz8 4 (Zhp s g (pre.length:Int)) (fun k=>((k+1:Nat):Int)) (.inl ((pre.length+1:Nat):Int)) (fun k hk=>by
   dsimp only [Zhp]
   rw [decide_eq_true (by omega),Zc6,Zg6 hx,Option.bind_some,s_bCount s e _ hD (by omega),Option.bind_some,h.count hg he (by omega) (by omega),Zk6 (by omega)]
   rfl) (by
   dsimp only [Zhp]
   rw [decide_eq_false (by omega),Zd6]
   dsimp only [Zgp]
   rw [Zk6 (by omega)];rfl)
  exact this
 ·dsimp only [Zip]
  rw [Zj6,Zd6]
  dsimp only [Zfp]
  rw [Zbn s hD (by omega),Option.bind_some,h.ok hg hN]
  rfl
theorem p_narthexlaw16_BarOne (g:Graph) (l:List narthexlaw16_Act):Zmp g l=some true:=by
 have yes:Zlp g l true=some true:=by
  simp only [Zlp,Zc6,Zjo,Option.bind_some]
 simp only [Zmp,Zjo,Option.bind_some,Bool.not_true,Zd6,s_few16]
 cases hf:fewA g l with
 | false=>exact yes
 | true=>
   obtain ⟨hN,hg,hl,hn⟩:=fewA_iff hf
   rw [Bool.not_true]
   simp only [Zlp,Zd6]
   have:=(s_run16 hg (by omega) (J:=InvB g) (fun _ h=>h) (InvB.first hg) (fun s k a b n h he=>(actR_inv hg (by omega) h k a b n).2 he) l hl (fun a ha=>by have:=hn a ha;omega) (fun z=>Zjp z g) (fun s h hM=>s_BOne1 hg (by omega) s h hM)).1
   rw [this];rfl
theorem mem_who {g:Graph} {s:Bar} (h:InvB g s) {t a:Int} (ha:a∈whoL s.Drinkers t):∃d,s.Drinkers[a.toNat]?=some d∧0≤a∧d.Diner.ID=a∧d.Thirst=t:=by
 unfold whoL at ha
 obtain ⟨d,hd,rfl⟩:=List.mem_map.1 ha
 rw [List.mem_filter,decide_eq_true_eq] at hd
 obtain ⟨k,hk⟩:=List.mem_iff_getElem?.1 hd.1
 have:=h.tab.ids k d.Diner (Zlo hk)
 refine ⟨d,?_,by omega,rfl,hd.2⟩
 rw [this,Int.toNat_natCast];exact hk
theorem s_BApart1 {g:Graph} (hg:okG g=true) (s:Bar) (h:InvB g s):Zvp s=some true:=by
 obtain ⟨g1,g2,g3,g4,g5⟩:=Z28 hg
 have hD:=h.fewL hg
 have hD1:=hD.1
 have hlen:=whoL_len s.Drinkers 2
 simp only [Zvp,s_Who s 2 hD,Option.bind_some]
 refine Zs8 (whoL s.Drinkers 2) (Zup s (whoL s.Drinkers 2)) (fun pre=>(pre.length:Int)) true (fun pre a post hp=>?_) ?_
 ·have hx:=Zt8 hp
  have hm:=Zu8 hp
  obtain ⟨d,d1,d2,d3,d4⟩:=mem_who h (Zv8 hp)
  have hdm:d∈s.Drinkers:=List.mem_iff_getElem?.2 ⟨_,d1⟩
  have hT:=h.th d hdm
  have hs:=hD.2 d hdm
  have da:at_ s.Drinkers a=some d:=by
   have:=Zg6 d1
   rwa [Int.toNat_of_nonneg d2] at this
  have hdt:=Zlo d1
  obtain ⟨_,hsh⟩:=h.tab.shp _ _ hdt
  have hpw:=h.tab.pw hg hdt
  rw [Int.toNat_of_nonneg d2] at hsh
  dsimp only [Zup]
  rw [Zi6 hx,Zc6,Zg6 hx,Option.bind_some,da,Option.bind_some,Zy8]
  refine Zs8 d.Need (Ztp s (pre.length:Int) d) (fun q=>(q.length:Int)) (.inl ((pre.length+1:Nat):Int)) (fun q p rest hq=>?_) ?_
  ·have hy:=Zt8 hq
   have hn:=Zu8 hq
   have hpm:=Zv8 hq
   have hpn:p∈Zye g a:=by rw [←hsh];exact hT.sub p hpm
   obtain ⟨n1,n2,n3,_,_⟩:=Z3f hg hpn
   obtain ⟨o,ho⟩:=h.get n1 n2
   have hom:o∈s.Drinkers:=List.mem_iff_getElem?.2 ⟨_,ho⟩
   have oa:at_ s.Drinkers p=some o:=by
    have:=Zg6 ho
    rwa [Int.toNat_of_nonneg n1] at this
   obtain ⟨x,hxo,xm⟩:=h.tab.sided d2 hdt hpn
   have hxp:=(Zmg hxo).2
   have hbot:x.Bottle=true:=hT.dr d4 x xm (by rw [hxp];exact hpm)
   dsimp only [Ztp]
   rw [Zi6 hy,Zc6,Zg6 hy,Option.bind_some,s_r12Side d.Diner p (by omega),Option.bind_some,hxo]
   dsimp only [sideP,Zsp]
   rw [Zg6 hy,Option.bind_some,oa,Option.bind_some,Bool.not_true,Zd6,hbot,Bool.not_true,Zd6,Zy8]
   have good:Zrp (q.length:Int) false=some (.inl ((q.length+1:Nat):Int)):=by
    dsimp only [Zrp];rw [Zd6,Zk6 (by omega)]
   by_cases ht:o.Thirst=2
   ·have hno:¬d.Diner.ID∈o.Need:=fun hmem=>by
     have hTo:=h.th o hom
     have hot:=Zlo ho
     obtain ⟨_,hsho⟩:=h.tab.shp _ _ hot
     have nab:=Z6g hg hpn
     obtain ⟨y,hyo,ym⟩:=h.tab.sided n1 hot nab
     have hyp:=(Zmg hyo).2
     have hyb:y.Bottle=true:=hTo.dr ht y ym (by rw [hyp,←d3];exact hmem)
     have hone:=h.two a.toNat p.toNat d o d1 ho (by rw [Int.toNat_of_nonneg d2,Int.toNat_of_nonneg n1];exact hpn) 3 (.inl rfl)
     rw [Int.toNat_of_nonneg d2,Int.toNat_of_nonneg n1] at hone
     unfold hasT Zon at hone
     rw [hxo,hyo] at hone
     dsimp only at hone
     rw [if_neg (show ¬(3:Int)=4 by omega),if_neg (show ¬(3:Int)=4 by omega),hbot,hyb,show bn true=1 from rfl] at hone
     omega
    rw [decide_eq_true ht,Zc6,s_r01Has o.Need d.Diner.ID (by have:=(hD.2 o hom).2;omega),Option.bind_some,decide_eq_false hno,good]
   ·rw [decide_eq_false ht,Zd6,good]
  ·dsimp only [Ztp]
   rw [Zj6,Zd6]
   dsimp only [Zqp]
   rw [Zk6 (by omega)];rfl
 ·dsimp only [Zup]
  rw [Zj6,Zd6];rfl
theorem p_narthexlaw16_BarApart (g:Graph) (l:List narthexlaw16_Act):Zyp g l=some true:=by
 have yes:Zxp g l true=some true:=by
  simp only [Zxp,Zc6,Zjo,Option.bind_some]
 simp only [Zyp,Zjo,Option.bind_some,Bool.not_true,Zd6,s_few16]
 cases hf:fewA g l with
 | false=>exact yes
 | true=>
   obtain ⟨hN,hg,hl,hn⟩:=fewA_iff hf
   rw [Bool.not_true]
   simp only [Zxp,Zd6]
   have:=(s_run16 hg (by omega) (J:=InvB g) (fun _ h=>h) (InvB.first hg) (fun s k a b n h he=>(actR_inv hg (by omega) h k a b n).2 he) l hl (fun a ha=>by have:=hn a ha;omega) (fun z=>Zvp z) (fun s h _=>s_BApart1 hg s h)).1
   rw [this];rfl
end NX
end Go.Proofs.YtacfbmldajmjiaaGreat
