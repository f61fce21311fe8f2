/-
  Plain laws: what always holds of a graph's scene goes on to hold. No statement of the seat is proved here.
-/
import Derived.KernelRfl
import Derived.Test.YtadebhbiglmodaaGreatS3
import Derived.Test.YtadebhbiglmodaaGreatS1
import Derived.Test.YtadebhbiglmodaaGreatS2
namespace Go.Proofs.YtadebhbiglmodaaGreat
namespace NX
open Go
theorem Zmi (id:Int):∀(l:List Side) (q:Int),l.Pairwise (fun x y=>x.Peer<y.Peer)→(∀x∈l,q<x.Peer∧x.Peer≠id∧x.Epoch=1∧x.State=0∧(x.Dirty=true→x.Fork=true))→Z5e id q l=true
 | [],_,_,_=>rfl
 | x::l,q,h,hb=>by
   rw [List.pairwise_cons] at h
   obtain ⟨b1,b2,b3,b4,b5⟩:=hb x (by simp)
   have ih:=Zmi id l x.Peer h.2 fun y hy=>by
    have:=hb y (by simp [hy])
    exact ⟨h.1 y hy,this.2⟩
   simp only [Z5e,ih,Bool.and_true,sideD,decide_eq_true b1,decide_eq_false b2,b3,b4]
   cases hd:x.Dirty with
   | false=>rfl
   | true=>rw [b5 hd];rfl
theorem LocD.ok {g:Graph} (hg:okG g=true) (hN:g.N≤60) {a:Nat} {d:Diner} (h:LocD d) (hid:d.ID=a) (hp:d.Sides.map (·.Peer)=Zwb g a):okD d=true:=by
 have hlen:d.Sides.length=(Zwb g a).length:=by rw [←hp];simp
 have hfew:=near_few hg (a:Int)
 have hpw:d.Sides.Pairwise fun x y=>x.Peer<y.Peer:=by
  have:=Zxb hg (a:Int)
  rw [←hp,List.pairwise_map] at this
  exact this
 unfold okD
 rw [decide_eq_true (show 0≤d.ID by omega),decide_eq_true h.lo,decide_eq_true h.hi,decide_eq_true (show d.Sides.length<64 by omega),Zmi d.ID d.Sides (-1) hpw fun x hx=>?_]
 ·rfl
 ·have hm:x.Peer∈Zwb g a:=by rw [←hp];exact List.mem_map_of_mem hx
  obtain ⟨n1,n2,n3,_⟩:=Z0c hg hm
  exact ⟨by omega,by omega,h.side x hx⟩
theorem Inv.okd {g:Graph} {s:Scene} (hg:okG g=true) (hN:g.N≤60) (h:Inv g s) {d:Diner} (hd:d∈s.Diners):okD d=true:=by
 obtain ⟨k,hk⟩:=List.mem_iff_getElem?.1 hd
 obtain ⟨h1,h2⟩:=h.shp k d hk
 exact (h.loc d hd).ok hg hN h1 h2
theorem Inv.few {g:Graph} {s:Scene} (hg:okG g=true) (h:Inv g s):Zd9 s.Diners:=by
 have:=(Zp7 hg).2.1
 refine ⟨by have:=h.len;omega,fun d hd=>?_⟩
 obtain ⟨k,hk⟩:=List.mem_iff_getElem?.1 hd
 have h2:=(h.shp k d hk).2
 have:d.Sides.length=(Zwb g k).length:=by rw [←h2];simp
 have:=near_few hg (k:Int)
 omega
theorem Inv.graph {g:Graph} {s:Scene} (hg:okG g=true) (h:Inv g s):Zw9 s.Diners=(g,true):=by
 rw [←graphP_T hg []]
 refine graphP_key (List.ext_getElem? fun k=>?_)
 have hl:=Z8c hg []
 have hl2:=h.len
 rw [List.getElem?_map,List.getElem?_map]
 by_cases hk:k<s.Diners.length
 ·have e:=Z7c (g:=g) (c:=[]) (a:=(k:Int)) (by omega) (by omega)
  have hx:s.Diners[k]?=some s.Diners[k]:=List.getElem?_eq_getElem hk
  obtain ⟨h1,h2⟩:=h.shp k _ hx
  rw [Int.toNat_natCast] at e
  rw [hx,e]
  simp only [Option.map_some,key,h1,h2,Z2c,List.map_map]
  congr 2
  exact (List.map_id _).symm
 ·rw [List.getElem?_eq_none (by omega),List.getElem?_eq_none (by omega)]
theorem mailG_ok {g:Graph} (hg:okG g=true) {n:Nat} (hn:(n:Int)=g.N) {m:Mail} (h:mailG g m):Z7h n m=true:=by
 obtain ⟨n1,n2,n3,n4,n5⟩:=Z0c hg h.2.2.2
 unfold Z7h
 rw [decide_eq_false (by omega),decide_eq_false (by omega),decide_eq_false (by omega)];rfl
theorem Inv.ok {g:Graph} {s:Scene} (hg:okG g=true) (hN:g.N≤60) (h:Inv g s):okS s=true:=by
 unfold okS
 rw [h.graph hg,Bool.true_and,Bool.and_eq_true,List.all_eq_true,List.all_eq_true]
 exact ⟨fun d hd=>h.okd hg hN hd,fun m hm=>mailG_ok hg h.len (h.mail m hm)⟩
theorem Inv.init {g:Graph} (hg:okG g=true) {c:List Int} (hr:Zwa g c=true):Inv g ⟨Z3c g c,[]⟩:=by
 have get:∀(k:Nat) d,(Z3c g c)[k]?=some d→(k:Int)<g.N∧d=Z2c g c k:=fun k d hd=>by
  have hk:=(List.getElem?_eq_some_iff.1 hd).1
  have hl:=Z8c hg c
  have e:=Z7c (g:=g) (c:=c) (a:=(k:Int)) (by omega) (by omega)
  rw [Int.toNat_natCast,hd] at e
  exact ⟨by omega,by simpa using e⟩
 refine ⟨Z8c hg c,fun k d hd=>?_,fun d hd=>?_,by simp,fun a b da db ha hb hab k hk=>?_⟩
 ·obtain ⟨_,rfl⟩:=get k d hd
  refine ⟨rfl,?_⟩
  simp only [Z2c,List.map_map]
  exact List.map_id _
 ·obtain ⟨k,hk⟩:=List.mem_iff_getElem?.1 hd
  obtain ⟨_,rfl⟩:=get k d hk
  refine ⟨Int.le_refl _,by show (0:Int)≤2;omega,fun x hx=>?_,fun h=>absurd h (by show ¬(0:Int)=2;omega)⟩
  obtain ⟨b,_,rfl⟩:=List.mem_map.1 hx
  exact ⟨rfl,rfl,fun h=>h⟩
 ·obtain ⟨_,rfl⟩:=get a da ha
  obtain ⟨_,rfl⟩:=get b db hb
  have hne:=rightB_ne hg hr hab
  have hba:=Z9c hg hab
  unfold hasD cnt
  rw [sideO_T,if_pos hab,sideO_T,if_pos hba]
  have hlt:decide (cg c a<cg c b)=!decide (cg c b<cg c a):=by
   rw [←decide_not,decide_eq_decide];omega
  simp only [Z1c,has,hlt,bn]
  by_cases hh:cg c b<cg c a<;>rcases hk with rfl | rfl<;>simp [hh]
theorem Zni {l:List Diner} (hid:∀(k:Nat) x,l[k]?=some x→x.ID=k) (a:Nat) (y:Diner):(l.map fun x=>if x.ID=(a:Int) then y else x)=l.set a y:=by
 refine List.ext_getElem? fun k=>?_
 rw [List.getElem?_map,List.getElem?_set]
 by_cases hk:k<l.length
 ·have hx:l[k]?=some l[k]:=List.getElem?_eq_getElem hk
  have:=hid k _ hx
  rw [hx,Option.map_some]
  by_cases he:a=k
  ·subst he;simp [this,hk]
  ·rw [if_neg (by omega),if_neg he]
 ·rw [List.getElem?_eq_none (by omega)]
  split
  ·rename_i he;subst he;simp;omega
  ·rfl
theorem Inv.ids {g:Graph} {s:Scene} (h:Inv g s) (k:Nat) (x:Diner) (hx:s.Diners[k]?=some x):x.ID=k:=(h.shp k x hx).1
theorem actS_eq {g:Graph} {s:Scene} (h:Inv g s) (a:Nat) (d:Diner):actS s a d=⟨(s.Diners.set a d).set a (Zhe d),s.Mail++Zie d⟩:=by
 unfold actS
 rw [Zni h.ids a,List.set_set]
theorem set_get {l:List Diner} {a:Nat} {d d':Diner} (hd:l[a]?=some d):(l.set a d')[a]?=some d':=by
 have hlt:=(List.getElem?_eq_some_iff.1 hd).1
 rw [List.getElem?_set];simp [hlt]
theorem Inv.act {g:Graph} {s s1:Scene} (hg:okG g=true) (hN:g.N≤60) {a:Nat} {d:Diner} (h:Inv g s1) (hd:s1.Diners[a]?=some d) (he:s1.Diners=s.Diners.set a d) (hm:s1.Mail=s.Mail) (hs:∀(k:Nat) x,s.Diners[k]?=some x→x.ID=k):
  okD d=true∧Inv g (actS s a d):=by
 refine ⟨h.okd hg hN (List.mem_iff_getElem?.2 ⟨_,hd⟩),?_⟩
 have:=h.fire hg hd
 unfold actS
 rw [Zni hs a]
 rw [he,List.set_set,hm] at this
 exact this
theorem Inv.phase {g:Graph} {s:Scene} (hg:okG g=true) (h:Inv g s) {a:Nat} {d:Diner} (hd:s.Diners[a]?=some d) {p:Int} (h0:0≤p) (h1:p<2):Inv g ⟨s.Diners.set a ⟨d.ID,p,d.Sides⟩,s.Mail⟩:=by
 have hl:=h.loc d (List.mem_iff_getElem?.2 ⟨_,hd⟩)
 exact h.set (d':=⟨d.ID,p,d.Sides⟩) hg hd rfl rfl ⟨h0,by show p≤2;omega,hl.side,fun e=>absurd e (by show ¬p=2;omega)⟩ h.mail (fun _ _ _ _ _=>rfl) (fun _ _ _ _=>rfl)
theorem Zoi {s:Scene} {a:Int}:Z8h s a=true↔0≤a∧a<s.Diners.length:=by simp [Z8h]
def fineE (e:Int):Bool:=decide (e=0)||(decide (e=134)||(decide (e=141)||decide (e=140)))
theorem turnS_inv {g:Graph} {s:Scene} (hg:okG g=true) (hN:g.N≤60) (h:Inv g s) (a p q:Int) (h0:0≤q) (h1:q<2):fineE (Z9h s a fun d=>Zce d p q).2=true∧((Z9h s a fun d=>Zce d p q).2=0→Inv g (Z9h s a fun d=>Zce d p q).1):=by
 unfold Z9h
 rw [h.ok hg hN,if_pos rfl]
 cases ht:Z8h s a with
 | false=>exact ⟨rfl,fun e=>absurd e (by show ¬(140:Int)=0;omega)⟩
 | true=>
   obtain ⟨a0,_⟩:=Zoi.1 ht
   obtain ⟨d,hd1,hd⟩:=Zah ht
   have hok:=h.okd hg hN (List.mem_iff_getElem?.2 ⟨_,hd⟩)
   rw [if_pos rfl,hd1]
   dsimp only
   unfold Zce
   rw [hok,if_pos rfl]
   by_cases hp:d.Phase=p
   ·rw [if_pos hp]
    have h2:=h.phase hg hd (p:=q) h0 h1
    obtain ⟨k1,k2⟩:=Inv.act (s:=s) hg hN h2 (set_get hd) rfl rfl h.ids
    rw [Int.toNat_of_nonneg a0] at k2
    unfold actP
    rw [if_pos rfl,if_pos k1]
    exact ⟨rfl,fun _=>k2⟩
   ·rw [if_neg hp]
    exact ⟨rfl,fun e=>absurd e (by show ¬(134:Int)=0;omega)⟩
theorem Zpi {α:Type} {p q:α→Bool}:∀ {l:List α},(∀x∈l,p x=q x)→l.find? p=l.find? q
 | [],_=>rfl
 | x::l,h=>by
   rw [List.find?_cons,List.find?_cons,h x (by simp),Zpi fun y hy=>h y (by simp [hy])]
theorem Zqi {M:List Mail} {i:Nat} {m:Mail} (hm:M[i]?=some m) (x:Mail):(M.take i++M.drop (i+1)).count x+(if m=x then 1 else 0)=M.count x:=by
 have hlt:=(List.getElem?_eq_some_iff.1 hm).1
 have e:M=M.take i++m::M.drop (i+1):=by
  have h1:=List.take_append_drop i M
  rw [List.drop_eq_getElem_cons hlt] at h1
  have h2:M[i]=m:=by rw [List.getElem?_eq_getElem hlt] at hm;simpa using hm
  rw [h2] at h1
  exact h1.symm
 have e2:M.count x=(M.take i++m::M.drop (i+1)).count x:=by rw [←e]
 rw [e2,List.count_append,List.count_append,List.count_cons]
 by_cases h:m=x
 ·simp [h];omega
 ·simp [h]
def Zri (x:Side) (k:Int):Side:=if k=1 then {x with Fork:=true} else {x with Token:=true}
theorem delivS_eq {g:Graph} {s:Scene} (hg:okG g=true) (hN:g.N≤60) (h:Inv g s) {a b:Int} (ht:Z8h s a=true) (ht':Z8h s b=true) {i:Nat} (hf:Zbh s a b=some i):
  ∃m db x d1,s.Mail[i]?=some m∧m.From=a∧m.To=b∧s.Diners[b.toNat]?=some db∧Ze9 db a=some x∧(m.Msg.Kind=1∨m.Msg.Kind=2)∧d1.ID=db.ID∧d1.Phase=db.Phase∧(∀z:Int,Ze9 d1 z=if z=a then some (Zri x m.Msg.Kind) else Ze9 db z)∧
   Inv g ⟨s.Diners.set b.toNat d1,s.Mail.take i++s.Mail.drop (i+1)⟩∧Zch s a b=(actS ⟨s.Diners,s.Mail.take i++s.Mail.drop (i+1)⟩ b d1,0)∧Inv g (actS ⟨s.Diners,s.Mail.take i++s.Mail.drop (i+1)⟩ b d1):=by
 obtain ⟨a0,a1⟩:=Zoi.1 ht
 obtain ⟨b0,b1⟩:=Zoi.1 ht'
 obtain ⟨db,hdb1,hdb⟩:=Zah ht'
 obtain ⟨da,_,hda⟩:=Zah ht
 have hf0:=hf
 unfold Zbh at hf
 have hfi:=Zf9 (fun m:Mail=>decide (m.From=a)&&decide (m.To=b)) s.Mail
 rw [hf] at hfi
 obtain ⟨m,hm,hq⟩:=hfi
 have hq':=List.find?_some hq
 simp only [Bool.and_eq_true,decide_eq_true_eq] at hq'
 obtain ⟨q1,q2⟩:=hq'
 have hmm:m∈s.Mail:=List.mem_iff_getElem?.2 ⟨_,hm⟩
 obtain ⟨m1,m2,m3,m4⟩:=h.mail m hmm
 rw [q1,q2] at m4
 have nab:=Z9c hg m4
 obtain ⟨hid,hsh⟩:=h.shp _ _ hdb
 have hok:=h.okd hg hN (List.mem_iff_getElem?.2 ⟨_,hdb⟩)
 have hloc:=h.loc db (List.mem_iff_getElem?.2 ⟨_,hdb⟩)
 have hpw:=h.pw hg hdb
 have hsome:(Ze9 db a).isSome=true:=by
  rw [Zke,hsh,Int.toNat_of_nonneg b0];exact decide_eq_true nab
 obtain ⟨x,hx⟩:=Option.isSome_iff_exists.1 hsome
 obtain ⟨xm,xp⟩:=Zve hx
 have hidx:=Zf9 (fun x:Side=>decide (x.Peer=a)&&decide (x.Epoch=m.Msg.Epoch)) db.Sides
 have efun:∀y∈db.Sides,(decide (y.Peer=a)&&decide (y.Epoch=m.Msg.Epoch))=decide (y.Peer=a):=fun y hy=>by
  rw [m2,(hloc.side y hy).1];simp
 have efind:db.Sides.find? (fun y=>decide (y.Peer=a)&&decide (y.Epoch=m.Msg.Epoch))=some x:=by
  rw [←hx];unfold Ze9
  exact Zpi efun
 cases hj:db.Sides.findIdx? (fun y=>decide (y.Peer=a)&&decide (y.Epoch=m.Msg.Epoch)) with
 | none=>rw [hj] at hidx;rw [efind] at hidx;exact absurd hidx (by simp)
 | some j=>
   rw [hj] at hidx
   obtain ⟨x',hx1,hx2⟩:=hidx
   rw [efind] at hx2
   have:x'=x:=by simpa using hx2.symm
   subst this
   have hk:m.Msg.Kind=1∨m.Msg.Kind=2:=m1
   have hme:m=⟨a,b,⟨m.Msg.Kind,1,0⟩⟩:=by
    obtain ⟨f,t,⟨k,e,n⟩⟩:=m
    dsimp only at q1 q2 m2 m3 ⊢
    rw [q1,q2,m2,m3]
   have hcnt:1≤cnt s.Mail m.Msg.Kind a b:=by
    unfold cnt
    have:=List.count_pos_iff.2 hmm
    rw [←hme];omega
   have hone:=h.one b.toNat a.toNat db da hdb hda (by rw [Int.toNat_of_nonneg b0,Int.toNat_of_nonneg a0];exact nab) m.Msg.Kind hk
   rw [Int.toNat_of_nonneg b0,Int.toNat_of_nonneg a0] at hone
   have hhas:has x' m.Msg.Kind=false:=by
    cases hh:has x' m.Msg.Kind with
    | false=>rfl
    | true=>
      have:hasD db m.Msg.Kind a=1:=by unfold hasD;rw [hx];simp only [hh,bn];rfl
      omega
   have hgp:(Zri x' m.Msg.Kind).Peer=x'.Peer:=by unfold Zri;split<;>rfl
   have hjlt:=(List.getElem?_eq_some_iff.1 hx1).1
   have es:∀z:Int,Ze9 ⟨db.ID,db.Phase,db.Sides.set j (Zri x' m.Msg.Kind)⟩ z=if z=a then some (Zri x' m.Msg.Kind) else Ze9 db z:=fun z=>by
    have hsplit:db.Sides=db.Sides.take j++x'::db.Sides.drop (j+1):=by
     have h1:=List.take_append_drop j db.Sides
     rw [List.drop_eq_getElem_cons hjlt] at h1
     have h2:db.Sides[j]=x':=by rw [List.getElem?_eq_getElem hjlt] at hx1;simpa using hx1
     rw [h2] at h1;exact h1.symm
    have hjl:(db.Sides.take j).length=j:=by simp;omega
    have hset2:db.Sides.set j (Zri x' m.Msg.Kind)=db.Sides.take j++Zri x' m.Msg.Kind::db.Sides.drop (j+1):=by
     have:=Z69 (db.Sides.take j) (db.Sides.drop (j+1)) x' (Zri x' m.Msg.Kind)
     rw [←hsplit,hjl,Int.toNat_natCast] at this
     exact this
    unfold Ze9
    dsimp only
    rw [hset2]
    have hpw2:=hpw
    rw [hsplit,List.pairwise_append,List.pairwise_cons] at hpw2
    have before:∀y∈db.Sides.take j,y.Peer≠a:=fun y hy=>by
     have:=hpw2.2.2 y hy x' (by simp);omega
    rw [List.find?_append,List.find?_cons,hgp]
    by_cases hz:z=a
    ·subst hz
     rw [decide_eq_true xp,if_pos rfl]
     have:(db.Sides.take j).find? (fun y=>decide (y.Peer=z))=none:=by
      rw [List.find?_eq_none];intro y hy;simpa using before y hy
     rw [this];rfl
    ·rw [if_neg hz]
     have e3:db.Sides.find? (fun y=>decide (y.Peer=z))=(db.Sides.take j++x'::db.Sides.drop (j+1)).find? (fun y=>decide (y.Peer=z)):=by rw [←hsplit]
     rw [e3,List.find?_append,List.find?_cons,decide_eq_false (show ¬x'.Peer=z by omega)]
   have hset:Inv g ⟨s.Diners.set b.toNat ⟨db.ID,db.Phase,db.Sides.set j (Zri x' m.Msg.Kind)⟩,s.Mail.take i++s.Mail.drop (i+1)⟩:=by
    have smem:∀y∈db.Sides.set j (Zri x' m.Msg.Kind),y=Zri x' m.Msg.Kind∨y∈db.Sides:=fun y hy=>by
     rcases List.mem_or_eq_of_mem_set hy with h1 | h1
     ·exact .inr h1
     ·exact .inl h1
    have gloc:=hloc.side x' xm
    have gside:(Zri x' m.Msg.Kind).Epoch=1∧(Zri x' m.Msg.Kind).State=0∧((Zri x' m.Msg.Kind).Dirty=true→(Zri x' m.Msg.Kind).Fork=true):=by
     unfold Zri;split
     ·exact ⟨gloc.1,gloc.2.1,fun _=>rfl⟩
     ·exact gloc
    refine h.set (d':=⟨db.ID,db.Phase,db.Sides.set j (Zri x' m.Msg.Kind)⟩) hg hdb rfl ?_ ⟨hloc.lo,hloc.hi,fun y hy=>?_,fun h2 y hy=>?_⟩ (fun y hy=>?_) (fun k p q hp hq=>?_) (fun c hc k hk'=>?_)
    ·dsimp only
     rw [List.map_set,hgp]
     refine List.ext_getElem? fun n=>?_
     rw [List.getElem?_set]
     split
     ·rename_i hn;subst hn
      rw [List.getElem?_map,hx1];simp [hjlt]
     ·rfl
    ·rcases smem y hy with rfl | hy
     ·exact gside
     ·exact hloc.side y hy
    ·rcases smem y hy with rfl | hy
     ·have:=hloc.eat h2 x' xm
      unfold Zri;split
      ·exact ⟨rfl,this.2⟩
      ·exact this
     ·exact hloc.eat h2 y hy
    ·rcases List.mem_append.1 hy with hy | hy
     ·exact h.mail y (List.mem_of_mem_take hy)
     ·exact h.mail y (List.mem_of_mem_drop hy)
    ·have:=Zqi hm ⟨p,q,⟨k,1,0⟩⟩
     rw [if_neg (by rw [hme];simp only [Mail.mk.injEq];omega)] at this
     exact this
    ·rw [Int.toNat_of_nonneg b0] at hc ⊢
     have e1:=Zqi hm ⟨b,c,⟨k,1,0⟩⟩
     have e2:=Zqi hm ⟨c,b,⟨k,1,0⟩⟩
     have hnab:a≠b:=fun e=>(Z0c hg m4).2.2.1 e.symm
     rw [if_neg (by rw [hme];simp only [Mail.mk.injEq];omega)] at e1
     unfold hasD
     rw [es]
     by_cases hca:c=a
     ·subst hca
      rw [if_pos rfl,hx]
      dsimp only
      by_cases hkk:k=m.Msg.Kind
      ·subst hkk
       have h1:has (Zri x' m.Msg.Kind) m.Msg.Kind=true:=by
        unfold has Zri
        rcases hk with h1 | h1<;>rw [h1]<;>rfl
       rw [if_pos hme] at e2
       rw [h1,hhas]
       unfold cnt
       simp only [bn,if_true,Bool.false_eq_true,if_false]
       omega
      ·have h1:has (Zri x' m.Msg.Kind) k=has x' k:=by
        unfold has Zri
        rcases hk with h2 | h2<;>rcases hk' with h3 | h3<;>rw [h2,h3]
        ·exact absurd (h3.trans h2.symm) hkk
        ·rfl
        ·rfl
        ·exact absurd (h3.trans h2.symm) hkk
       rw [if_neg (by rw [hme];simp only [Mail.mk.injEq,Msg.mk.injEq];omega)] at e2
       rw [h1]
       unfold cnt
       omega
     ·rw [if_neg hca]
      rw [if_neg (by rw [hme];simp only [Mail.mk.injEq];omega)] at e2
      unfold cnt
      omega
   obtain ⟨k1,k2⟩:=Inv.act (s:=⟨s.Diners,s.Mail.take i++s.Mail.drop (i+1)⟩) hg hN hset (set_get hdb) rfl rfl h.ids
   rw [Int.toNat_of_nonneg b0] at k2
   refine ⟨m,db,x',⟨db.ID,db.Phase,db.Sides.set j (Zri x' m.Msg.Kind)⟩,hm,q1,q2,hdb,hx,hk,rfl,rfl,es,hset,?_,k2⟩
   have hres:(if (decide (m.Msg.Kind=1)&&decide (m.Msg.Num=0))=true then (if x'.Fork=true then (Zbe,132) else (⟨db.ID,db.Phase,db.Sides.set j {x' with Fork:=true}⟩,0))
    else if (decide (m.Msg.Kind=2)&&decide (m.Msg.Num=0))=true then (if x'.Token=true then (Zbe,132) else (⟨db.ID,db.Phase,db.Sides.set j {x' with Token:=true}⟩,0))
    else ((Zbe,133):Diner×Int))=(⟨db.ID,db.Phase,db.Sides.set j (Zri x' m.Msg.Kind)⟩,0):=by
    unfold has at hhas
    unfold Zri
    rcases hk with h1 | h1
    ·rw [h1] at hhas ⊢
     rw [m3]
     simp at hhas
     simp [hhas]
    ·rw [h1] at hhas ⊢
     rw [m3]
     simp at hhas
     simp [hhas]
   unfold Zch getD'
   rw [h.ok hg hN,if_pos rfl,ht,ht',Bool.true_and,if_pos rfl,hf0]
   dsimp only
   rw [hm,hdb1]
   dsimp only
   rw [hok,if_pos rfl,hj]
   dsimp only
   rw [hx1]
   dsimp only
   rw [hres]
   unfold actP
   dsimp only
   rw [if_pos rfl,if_pos k1]
theorem delivS_inv {g:Graph} {s:Scene} (hg:okG g=true) (hN:g.N≤60) (h:Inv g s) (a b:Int):fineE (Zch s a b).2=true∧((Zch s a b).2=0→Inv g (Zch s a b).1):=by
 cases ht:Z8h s a with
 | false=>
   unfold Zch
   rw [h.ok hg hN,if_pos rfl,ht]
   exact ⟨rfl,fun e=>absurd e (by show ¬(140:Int)=0;omega)⟩
 | true=>
   cases ht':Z8h s b with
   | false=>
     unfold Zch
     rw [h.ok hg hN,if_pos rfl,ht,ht']
     exact ⟨rfl,fun e=>absurd e (by show ¬(140:Int)=0;omega)⟩
   | true=>
     cases hf:Zbh s a b with
     | none=>
       unfold Zch
       rw [h.ok hg hN,if_pos rfl,ht,ht',Bool.true_and,if_pos rfl,hf]
       exact ⟨rfl,fun e=>absurd e (by show ¬(141:Int)=0;omega)⟩
     | some i=>
       obtain ⟨m,db,x,d1,_,_,_,_,_,_,_,_,_,_,e,k⟩:=delivS_eq hg hN h ht ht' hf
       rw [e]
       exact ⟨rfl,fun _=>k⟩
theorem actA_inv {g:Graph} {s:Scene} (hg:okG g=true) (hN:g.N≤60) (h:Inv g s) (k a b:Int):fineE (Zeh s k a b).2=true∧((Zeh s k a b).2=0→Inv g (Zeh s k a b).1):=by
 unfold Zeh
 split
 ·exact turnS_inv hg hN h a 0 1 (by omega) (by omega)
 ·split
  ·exact turnS_inv hg hN h a 2 0 (by omega) (by omega)
  ·exact delivS_inv hg hN h a b
set_option maxRecDepth 100000
set_option maxHeartbeats 4000000
def e50:EC:=.seq (.reg [(Qa 1 (.box 65 8 (.t 0))),(Qa 2 (.mv (.c .ff)))]) (.seq (.reg [(Qa 3 (.fld 3 (.t 1))),(Qa 4 (.load (.t 3))),(Qa 2 (.mv (.t 4)))]) (.ret))
theorem ok50:FnOK Tryz.prog 50 Tryz.f50 e50 [.t 2] 1 4:=⟨by kernel_rfl,⟨_,rfl,by kernel_rfl⟩,by kernel_rfl,by kernel_rfl⟩
noncomputable def Zsi (x1:Side):Option Bool:=
 some x1.Fork
theorem Zti (x1:Side) (r:Bool) (h:Zsi x1=some r):Zq2 Tryz.prog 50 [.agg (Side.row x1)] (.bv r):=by
 refine Zu2 ok50 rfl rfl fun w0 H0=>?_
 rw [Zsi] at h
 refine Zl2 11 ?_;dsimp only [e50,go_sem];refine ⟨by simp,?_⟩;exact Zx4 (res:=fun (r:Bool)=>.bv r) ok50 h
set_option maxRecDepth 100000
set_option maxHeartbeats 4000000
def e51:EC:=.seq (.reg [(Qa 1 (.box 65 8 (.t 0))),(Qa 2 (.mv (.c .ff)))]) (.seq (.reg [(Qa 3 (.fld 5 (.t 1))),(Qa 4 (.load (.t 3))),(Qa 2 (.mv (.t 4)))]) (.ret))
theorem ok51:FnOK Tryz.prog 51 Tryz.f51 e51 [.t 2] 1 4:=⟨by kernel_rfl,⟨_,rfl,by kernel_rfl⟩,by kernel_rfl,by kernel_rfl⟩
noncomputable def Zui (x1:Side):Option Bool:=
 some x1.Token
theorem Zvi (x1:Side) (r:Bool) (h:Zui x1=some r):Zq2 Tryz.prog 51 [.agg (Side.row x1)] (.bv r):=by
 refine Zu2 ok51 rfl rfl fun w0 H0=>?_
 rw [Zui] at h
 refine Zl2 11 ?_;dsimp only [e51,go_sem];refine ⟨by simp,?_⟩;exact Zx4 (res:=fun (r:Bool)=>.bv r) ok51 h
set_option maxRecDepth 100000
set_option maxHeartbeats 4000000
def Zwi:EC:=.seq (.reg [(Qa 89 (.bin .lss (.t 88) (.t 87)))]) (.seq (.ite (.t 89) (.skip) (.exit 3)) (.seq (.blk 4 (.seq (.reg [(Qa 90 (.idx 5 (.t 86) (.t 88))),(Qa 91 (.loadA 5 (.t 90))),(Qa 16 (.alloc 78 [.iv 0,.iv 0,.iv 0,.iv 0,.iv 0])),(Qb (.store 5 (.t 16) (.t 91)))]) (.seq (.reg [(Qa 92 (.fld 2 (.t 16))),(Qa 93 (.fld 0 (.t 92))),(Qa 94 (.load (.t 93))),(Qa 95 (.mv (.t 2))),(Qa 96 (.bin .eql (.t 94) (.t 95))),(Qa 97 (.mv (.t 96))),(Qg 98 97 true (.fld 2 (.t 16))),(Qg 99 97 true (.fld 1 (.t 98))),(Qg 100 97 true (.load (.t 99))),(Qg 101 97 true (.fld 1 (.t 7))),(Qg 102 97 true (.load (.t 101))),(Qg 103 97 true (.bin .eql (.t 100) (.t 102))),(Qa 104 (.pick (.t 97) (.t 103) (.c .ff))),(Qa 105 (.mv (.t 104))),(Qg 106 105 true (.fld 0 (.t 16))),(Qg 107 105 true (.load (.t 106))),(Qg 108 105 true (.fld 1 (.t 16))),(Qg 109 105 true (.load (.t 108))),(Qg 110 105 true (.mm false [(.t 107),(.t 109)])),(Qg 111 105 true (.fld 0 (.t 4))),(Qg 112 105 true (.load (.t 111))),(Qg 113 105 true (.fld 1 (.t 4))),(Qg 114 105 true (.load (.t 113))),(Qg 115 105 true (.mm false [(.t 112),(.t 114)])),(Qg 116 105 true (.bin .eql (.t 110) (.t 115))),(Qa 117 (.pick (.t 105) (.t 116) (.c .ff))),(Qa 118 (.mv (.t 117))),(Qg 119 118 true (.fld 0 (.t 16))),(Qg 120 118 true (.load (.t 119))),(Qg 121 118 true (.fld 1 (.t 16))),(Qg 122 118 true (.load (.t 121))),(Qg 123 118 true (.mm true [(.t 120),(.t 122)])),(Qg 124 118 true (.fld 0 (.t 4))),(Qg 125 118 true (.load (.t 124))),(Qg 126 118 true (.fld 1 (.t 4))),(Qg 127 118 true (.load (.t 126))),(Qg 128 118 true (.mm true [(.t 125),(.t 127)])),(Qg 129 118 true (.bin .eql (.t 123) (.t 128))),(Qa 130 (.pick (.t 118) (.t 129) (.c .ff)))]) (.ite (.t 130) (.reg [(Qa 131 (.mv (.t 12))),(Qa 132 (.bin .add (.t 131) (.c (.iv 1)))),(Qa 12 (.mv (.t 132)))]) (.skip))))) (.reg [(Qa 133 (.bin .add (.t 88) (.c (.iv 1)))),(Qa 88 (.mv (.t 133)))])))
def Zxi:EC:=.seq (.reg [(Qa 76 (.bin .lss (.t 75) (.t 74)))]) (.seq (.ite (.t 76) (.skip) (.exit 1)) (.seq (.blk 2 (.seq (.reg [(Qa 77 (.idx 8 (.t 73) (.t 75))),(Qa 78 (.loadA 8 (.t 77))),(Qa 14 (.alloc 65 [.iv 0,.iv 0,.iv 0,.ff,.ff,.ff,.ff,.ff])),(Qb (.store 8 (.t 14) (.t 78)))]) (.seq (.reg [(Qa 79 (.mv (.t 11))),(Qa 80 (.loadA 8 (.t 14))),(Qa 81 (.callv (.t 79) [(.t 80)]))]) (.ite (.t 81) (.reg [(Qa 82 (.mv (.t 12))),(Qa 83 (.bin .add (.t 82) (.c (.iv 1)))),(Qa 12 (.mv (.t 83)))]) (.skip))))) (.reg [(Qa 84 (.bin .add (.t 75) (.c (.iv 1)))),(Qa 75 (.mv (.t 84)))])))
def e14:EC:=.seq (.reg [(Qa 3 (.box 25 2 (.t 0))),(Qa 4 (.box 29 2 (.t 1))),(Qa 6 (.mv (.c (.iv 0))))]) (.seq (.seq (.reg [(Qa 17 (.loadA 2 (.t 3))),(Qa 18 (.fld 0 (.t 4))),(Qa 19 (.load (.t 18))),(Qa 20 (.call 49 [(.t 17),(.t 19)])),(Qa 21 (.not (.t 20))),(Qa 22 (.mv (.t 21))),(Qg 23 22 false (.loadA 2 (.t 3))),(Qg 24 22 false (.fld 1 (.t 4))),(Qg 25 22 false (.load (.t 24))),(Qg 26 22 false (.call 49 [(.t 23),(.t 25)])),(Qg 27 22 false (.not (.t 26))),(Qa 28 (.pick (.t 22) (.c .tt) (.t 27)))]) (.ite (.t 28) (.seq (.reg [(Qa 6 (.mv (.c (.iv 0))))]) (.ret)) (.skip))) (.seq (.drw [(Qa 30 (.fld 0 (.t 3))),(Qa 31 (.load (.t 30))),(Qa 32 (.fld 0 (.t 4))),(Qa 33 (.load (.t 32))),(Qa 34 (.idx 3 (.t 31) (.t 33))),(Qa 35 (.loadA 3 (.t 34))),(Qa 36 (.fld 1 (.t 4))),(Qa 37 (.load (.t 36))),(Qa 38 (.call 31 [(.t 35),(.t 37)])),(Qa 29 (.mv (.t 38))),(Qa 39 (.ext (.t 29) 0)),(Qa 40 (.ext (.t 29) 1)),(Qa 7 (.alloc 65 [.iv 0,.iv 0,.iv 0,.ff,.ff,.ff,.ff,.ff])),(Qb (.store 8 (.t 7) (.t 39))),(Qa 8 (.mv (.t 40)))] [[],[0],[],[2],[1,3],[4],[],[6],[5,7],[8],[9],[9],[],[12,10,8,0,1,2,3,4,5,6,7,8,9,10,12],[11,13,0,1,2,3,4,5,6,7,8,9,10,11,12,13]] [[1],[0,4],[3],[2,4],[1,3,5],[4,8],[7],[6,8],[5,7,9],[8,10,11],[9,13],[9,14],[13],[10,12],[11]]) (.seq (.drw [(Qa 42 (.fld 0 (.t 3))),(Qa 43 (.load (.t 42))),(Qa 44 (.fld 1 (.t 4))),(Qa 45 (.load (.t 44))),(Qa 46 (.idx 3 (.t 43) (.t 45))),(Qa 47 (.loadA 3 (.t 46))),(Qa 48 (.fld 0 (.t 4))),(Qa 49 (.load (.t 48))),(Qa 50 (.call 31 [(.t 47),(.t 49)])),(Qa 41 (.mv (.t 50))),(Qa 51 (.ext (.t 41) 0)),(Qa 52 (.ext (.t 41) 1)),(Qa 9 (.alloc 65 [.iv 0,.iv 0,.iv 0,.ff,.ff,.ff,.ff,.ff])),(Qb (.store 8 (.t 9) (.t 51))),(Qa 10 (.mv (.t 52)))] [[],[0],[],[2],[1,3],[4],[],[6],[5,7],[8],[9],[9],[],[12,10,8,0,1,2,3,4,5,6,7,8,9,10,12],[11,13,0,1,2,3,4,5,6,7,8,9,10,11,12,13]] [[1],[0,4],[3],[2,4],[1,3,5],[4,8],[7],[6,8],[5,7,9],[8,10,11],[9,13],[9,14],[13],[10,12],[11]]) (.seq (.seq (.reg [(Qa 53 (.mv (.t 8))),(Qa 54 (.not (.t 53))),(Qa 55 (.mv (.t 54))),(Qg 56 55 false (.mv (.t 10))),(Qg 57 55 false (.not (.t 56))),(Qa 58 (.pick (.t 55) (.c .tt) (.t 57))),(Qa 59 (.mv (.t 58))),(Qg 60 59 false (.fld 1 (.t 7))),(Qg 61 59 false (.load (.t 60))),(Qg 62 59 false (.fld 1 (.t 9))),(Qg 63 59 false (.load (.t 62))),(Qg 64 59 false (.bin .neq (.t 61) (.t 63))),(Qa 65 (.pick (.t 59) (.c .tt) (.t 64)))]) (.ite (.t 65) (.seq (.reg [(Qa 6 (.mv (.c (.iv 0))))]) (.ret)) (.skip))) (.seq (.reg [(Qa 11 (.mv (.c .any)))]) (.seq (.seq (.reg [(Qa 66 (.mv (.t 2)))]) (.blk 0 (.seq (.reg [(Qa 68 (.bin .eql (.t 66) (.c (.iv 1)))),(Qa 67 (.mv (.t 68)))]) (.ite (.t 67) (.reg [(Qa 11 (.mv (.c (.clo 50 []))))]) (.seq (.reg [(Qa 70 (.bin .eql (.t 66) (.c (.iv 2)))),(Qa 69 (.mv (.t 70)))]) (.ite (.t 69) (.reg [(Qa 11 (.mv (.c (.clo 51 []))))]) (.seq (.reg [(Qa 6 (.mv (.c (.iv 0))))]) (.ret)))))))) (.seq (.reg [(Qa 12 (.mv (.c (.iv 0))))]) (.seq (.seq (.reg [(Qa 71 (.loadA 8 (.t 7))),(Qa 72 (.loadA 8 (.t 9))),(Qa 73 (.bsl 65 8 2 [.iv 0,.iv 0,.iv 0,.ff,.ff,.ff,.ff,.ff] [(0,(.t 71)),(1,(.t 72))])),(Qa 74 (.len (.t 73))),(Qa 75 (.mv (.c (.iv 0))))]) (.blk 1 (.loop Zxi))) (.seq (.seq (.reg [(Qa 85 (.fld 1 (.t 3))),(Qa 86 (.load (.t 85))),(Qa 87 (.len (.t 86))),(Qa 88 (.mv (.c (.iv 0))))]) (.blk 3 (.loop Zwi))) (.seq (.reg [(Qa 134 (.mv (.t 12))),(Qa 6 (.mv (.t 134)))]) (.ret)))))))))))
theorem ok14:FnOK Tryz.prog 14 Tryz.f14 e14 [.t 6] 3 132:=⟨by kernel_rfl,⟨_,rfl,by kernel_rfl⟩,by kernel_rfl,by kernel_rfl⟩
noncomputable def Zyi:Int→Option Int
| x58=>
 some x58
noncomputable def Zzi (x45:Int):Int→Option ((Int×Int) ⊕ Int)
| x48=>
 some (.inl (x48,wr (x45+1)))
noncomputable def Z0j (x44:Int) (x45:Int):Bool→Option ((Int×Int) ⊕ Int)
| x47=>
 ifb x47 (
 (Zzi x45) (wr (x44+1))) (
 (Zzi x45) x44)
noncomputable def Z1j (x1:Scene) (x2:Edge) (x3:Int) (x11:Side):(Int×Int)→Option ((Int×Int) ⊕ Int)
| (x44,x45)=>
 ifb (decide (x45<(ln Mail.row x1.Mail))) (
 (at_ x1.Mail x45).bind fun x46=>
 ifb (decide (x46.Msg.Kind=x3)) (
 ifb (decide (x46.Msg.Epoch=x11.Epoch)) (
 ifb (decide (((min x46.From x46.To))=((min x2.A x2.B)))) (
 (Z0j x44 x45) (decide (((max x46.From x46.To))=((max x2.A x2.B))))) (
 (Z0j x44 x45) false)) (
 (Z0j x44 x45) false)) (
 (Z0j x44 x45) false)) (
 Option.map Sum.inr (Zyi x44))
noncomputable def Z2j (x1:Scene) (x2:Edge) (x3:Int) (x11:Side):Int→Option Int
| x38=>
 loop (Z1j x1 x2 x3 x11) (x38,0)
noncomputable def Z3j (x24:Int):Int→Option ((Int×Int) ⊕ Int)
| x27=>
 some (.inl (x27,wr (x24+1)))
noncomputable def Z4j (x1:Scene) (x2:Edge) (x3:Int) (x11:Side) (x16:Side):(Int×Int)→Option ((Int×Int) ⊕ Int)
| (x23,x24)=>
 ifb (decide (x24<(ln Side.row ([x11,x16])))) (
 (at_ ([x11,x16]) x24).bind fun x25=>
 (Zsi x25).bind fun x26=>
 ifb x26 (
 (Z3j x24) (wr (x23+1))) (
 (Z3j x24) x23)) (
 Option.map Sum.inr ((Z2j x1 x2 x3 x11) x23))
noncomputable def Z5j:Int→Option Int
| x99=>
 some x99
noncomputable def Z6j (x86:Int):Int→Option ((Int×Int) ⊕ Int)
| x89=>
 some (.inl (x89,wr (x86+1)))
noncomputable def Z7j (x85:Int) (x86:Int):Bool→Option ((Int×Int) ⊕ Int)
| x88=>
 ifb x88 (
 (Z6j x86) (wr (x85+1))) (
 (Z6j x86) x85)
noncomputable def Z8j (x1:Scene) (x2:Edge) (x3:Int) (x11:Side):(Int×Int)→Option ((Int×Int) ⊕ Int)
| (x85,x86)=>
 ifb (decide (x86<(ln Mail.row x1.Mail))) (
 (at_ x1.Mail x86).bind fun x87=>
 ifb (decide (x87.Msg.Kind=x3)) (
 ifb (decide (x87.Msg.Epoch=x11.Epoch)) (
 ifb (decide (((min x87.From x87.To))=((min x2.A x2.B)))) (
 (Z7j x85 x86) (decide (((max x87.From x87.To))=((max x2.A x2.B))))) (
 (Z7j x85 x86) false)) (
 (Z7j x85 x86) false)) (
 (Z7j x85 x86) false)) (
 Option.map Sum.inr (Z5j x85))
noncomputable def Z9j (x1:Scene) (x2:Edge) (x3:Int) (x11:Side):Int→Option Int
| x79=>
 loop (Z8j x1 x2 x3 x11) (x79,0)
noncomputable def Zaj (x65:Int):Int→Option ((Int×Int) ⊕ Int)
| x68=>
 some (.inl (x68,wr (x65+1)))
noncomputable def Zbj (x1:Scene) (x2:Edge) (x3:Int) (x11:Side) (x16:Side):(Int×Int)→Option ((Int×Int) ⊕ Int)
| (x64,x65)=>
 ifb (decide (x65<(ln Side.row ([x11,x16])))) (
 (at_ ([x11,x16]) x65).bind fun x66=>
 (Zui x66).bind fun x67=>
 ifb x67 (
 (Zaj x65) (wr (x64+1))) (
 (Zaj x65) x64)) (
 Option.map Sum.inr ((Z9j x1 x2 x3 x11) x64))
noncomputable def Zcj (x1:Scene) (x2:Edge) (x3:Int) (x11:Side) (x16:Side):Bool→Option Int
| x17=>
 ifb x17 (
 some 0) (
 ifb (decide (x3=1)) (
 loop (Z4j x1 x2 x3 x11 x16) (0,0)) (
 ifb (decide (x3=2)) (
 loop (Zbj x1 x2 x3 x11 x16) (0,0)) (
 some 0)))
noncomputable def Zdj (x1:Scene) (x2:Edge) (x3:Int) (x10:Bool) (x11:Side):(Bool×Side)→Option Int
| (x15,x16)=>
 ifb (!x10) (
 (Zcj x1 x2 x3 x11 x16) true) (
 ifb (!x15) (
 (Zcj x1 x2 x3 x11 x16) true) (
 (Zcj x1 x2 x3 x11 x16) (!decide (x11.Epoch=x16.Epoch))))
noncomputable def Zej (x1:Scene) (x2:Edge) (x3:Int):(Bool×Side)→Option Int
| (x10,x11)=>
 (at_ x1.Diners x2.B).bind fun x12=>
 (Zi8 x12 x2.A).bind fun x13=>
 (Zdj x1 x2 x3 x10 x11) (x13.2,x13.1)
noncomputable def Zfj (x1:Scene) (x2:Edge) (x3:Int):Bool→Option Int
| x6=>
 ifb x6 (
 some 0) (
 (at_ x1.Diners x2.A).bind fun x7=>
 (Zi8 x7 x2.B).bind fun x8=>
 (Zej x1 x2 x3) (x8.2,x8.1))
noncomputable def Zgj (x1:Scene) (x2:Edge) (x3:Int):Option Int:=
 (Zjf x1 x2.A).bind fun x4=>
 ifb (!x4) (
 (Zfj x1 x2 x3) true) (
 (Zjf x1 x2.B).bind fun x5=>
 (Zfj x1 x2 x3) (!x5))
theorem k_table_Count (x1:Scene) (x2:Edge) (x3:Int) (r:Int) (h:Zgj x1 x2 x3=some r):Zq2 Tryz.prog 14 [.agg (Scene.row x1),.agg (Edge.row x2),.iv x3] (.iv r):=by
 refine Zu2 ok14 rfl rfl fun w0 H0=>?_
 rw [Zgj] at h
 refine Zl2 12 ?_;dsimp only [e14,Zxi,Zwi,go_sem];refine ⟨by simp,?_⟩;obtain ⟨x4,ex4,h⟩:=Option.bind_eq_some_iff.1 h;refine Zz2 trivial (Zkf x1 x2.A _ ex4) (h:=?_);refine Zl2 2 ?_;dsimp only [e14,Zxi,Zwi,go_sem];refine ⟨by simp,?_⟩;refine Zl4 (fun (x6:Bool)=>(⟨(.any :: .any :: .iv x3 :: .ptr 0 0 :: .ptr 1 0::an 23 (.bv x6::an 106 [])),[some ⟨25,[.sl 3 (List.map Diner.row x1.Diners),.sl 5 (List.map Mail.row x1.Mail)]⟩,some ⟨29,[.iv x2.A,.iv x2.B]⟩],[]⟩:St)) (Zfj x1 x2 x3) r ?_ fun J1=>?_
 ·intro x6 h;rw [Zfj] at h;(try dsimp only);refine Zn4 h rfl (fun _ h=>?_) fun _ h=>?_
  ·refine Zl2 4 ?_;dsimp only [e14,Zxi,Zwi,go_sem];refine ⟨by simp,?_⟩;exact Zx4 (res:=fun (r:Int)=>.iv r) ok14 h
  ·refine Zl2 2 ?_;dsimp only [e14,Zxi,Zwi,go_sem];refine ⟨by simp,?_⟩;refine Zl4 (fun ((x10,x11):(Bool×Side))=>(⟨(.any :: .any :: .iv x3 :: .ptr 0 0 :: .ptr 1 0 :: .any :: .any :: .ptr 2 0 :: .bv x10::an 126 []),[some ⟨25,[.sl 3 (List.map Diner.row x1.Diners),.sl 5 (List.map Mail.row x1.Mail)]⟩,some ⟨29,[.iv x2.A,.iv x2.B]⟩,some ⟨65,[.iv x11.Peer,.iv x11.Epoch,.iv x11.State,.bv x11.Fork,.bv x11.Dirty,.bv x11.Token,.bv x11.Bottle,.bv x11.Ask]⟩],[]⟩:St)) (Zej x1 x2 x3) r ?_ fun J2=>?_
   ·rintro ⟨x10,x11⟩ h;rw [Zej] at h;(try dsimp only);refine Zl2 1 ?_;dsimp only [e14,Zxi,Zwi,go_sem];refine ⟨by simp,?_⟩
    refine Zl4 (fun ((x15,x16):(Bool×Side))=>(⟨(.any :: .any :: .iv x3 :: .ptr 0 0 :: .ptr 1 0 :: .any :: .any :: .ptr 2 0 :: .bv x10 :: .ptr 3 0 :: .bv x15::an 124 []),[some ⟨25,[.sl 3 (List.map Diner.row x1.Diners),.sl 5 (List.map Mail.row x1.Mail)]⟩,some ⟨29,[.iv x2.A,.iv x2.B]⟩,some ⟨65,[.iv x11.Peer,.iv x11.Epoch,.iv x11.State,.bv x11.Fork,.bv x11.Dirty,.bv x11.Token,.bv x11.Bottle,.bv x11.Ask]⟩,some ⟨65,[.iv x16.Peer,.iv x16.Epoch,.iv x16.State,.bv x16.Fork,.bv x16.Dirty,.bv x16.Token,.bv x16.Bottle,.bv x16.Ask]⟩],[]⟩:St)) (Zdj x1 x2 x3 x10 x11) r ?_ fun J3=>?_
    ·rintro ⟨x15,x16⟩ h;rw [Zdj] at h;(try dsimp only);refine Zl2 6 ?_;dsimp only [e14,Zxi,Zwi,go_sem];refine ⟨by simp,?_⟩
     refine Zl4 (fun (x17:Bool)=>(⟨(.any :: .any :: .iv x3 :: .ptr 0 0 :: .ptr 1 0 :: .any :: .any :: .ptr 2 0 :: .any :: .ptr 3 0::an 55 (.bv x17::an 69 [])),[some ⟨25,[.sl 3 (List.map Diner.row x1.Diners),.sl 5 (List.map Mail.row x1.Mail)]⟩,some ⟨29,[.iv x2.A,.iv x2.B]⟩,some ⟨65,[.iv x11.Peer,.iv x11.Epoch,.iv x11.State,.bv x11.Fork,.bv x11.Dirty,.bv x11.Token,.bv x11.Bottle,.bv x11.Ask]⟩,some ⟨65,[.iv x16.Peer,.iv x16.Epoch,.iv x16.State,.bv x16.Fork,.bv x16.Dirty,.bv x16.Token,.bv x16.Bottle,.bv x16.Ask]⟩],[]⟩:St)) (Zcj x1 x2 x3 x11 x16) r ?_ fun J4=>?_
     ·intro x17 h;rw [Zcj] at h;(try dsimp only);refine Zn4 h rfl (fun _ h=>?_) fun _ h=>?_
      ·refine Zl2 4 ?_;dsimp only [e14,Zxi,Zwi,go_sem];refine ⟨by simp,?_⟩;exact Zx4 (res:=fun (r:Int)=>.iv r) ok14 h
      ·refine Zl2 16 ?_;dsimp only [e14,Zxi,Zwi,go_sem];refine ⟨by simp,?_⟩;refine Zn4 h rfl (fun _ h=>?_) fun _ h=>?_
       ·refine Zl2 17 ?_;dsimp only [e14,Zxi,Zwi,go_sem];refine ⟨by simp,?_⟩;refine Zl4 (fun (x38:Int)=>(⟨(.any :: .any :: .iv x3 :: .ptr 0 0 :: .ptr 1 0 :: .any :: .any :: .ptr 2 0::an 4 (.iv x38::an 122 [])),[some ⟨25,[.sl 3 (List.map Diner.row x1.Diners),.sl 5 (List.map Mail.row x1.Mail)]⟩,some ⟨29,[.iv x2.A,.iv x2.B]⟩,some ⟨65,[.iv x11.Peer,.iv x11.Epoch,.iv x11.State,.bv x11.Fork,.bv x11.Dirty,.bv x11.Token,.bv x11.Bottle,.bv x11.Ask]⟩],[]⟩:St)) (Z2j x1 x2 x3 x11) r ?_ fun J5=>?_
        ·intro x38 h;rw [Z2j] at h;(try dsimp only);refine Zl2 8 ?_;dsimp only [e14,Zxi,Zwi,go_sem];refine ⟨by simp,?_⟩;refine Zl4 (fun (x58:Int)=>(⟨(an 12 (.iv x58::an 122 [])),[],[]⟩:St)) Zyi r ?_ fun J7=>?_
         ·intro x58 h;rw [Zyi] at h;(try dsimp only);refine Zl2 5 ?_;dsimp only [e14,Zxi,Zwi,go_sem];refine ⟨by simp,?_⟩;exact Zx4 (res:=fun (r:Int)=>.iv r) ok14 h
         ·refine Zl2 1 ?_;dsimp only [e14,Zxi,Zwi,go_sem];refine ⟨by simp,?_⟩;refine Zm4 h (fun ((x44,x45):(Int×Int))=>(⟨(.any :: .any :: .iv x3 :: .any :: .ptr 1 0 :: .any :: .any :: .ptr 2 0::an 4 (.iv x44::an 73 (.sl 5 (List.map Mail.row x1.Mail) :: .iv (ln Mail.row x1.Mail) :: .iv x45::an 46 []))),[none,some ⟨29,[.iv x2.A,.iv x2.B]⟩,some ⟨65,[.iv x11.Peer,.iv x11.Epoch,.iv x11.State,.bv x11.Fork,.bv x11.Dirty,.bv x11.Token,.bv x11.Bottle,.bv x11.Ask]⟩],[]⟩:St)) (by simp [go_sem]) (by rintro ⟨x44,x45⟩;first | rfl | simp [go_sem]) ?_
          rintro n1 ⟨x44,x45⟩ y1 h hin1 hout1;rw [Z1j] at h;(try dsimp only);refine Zl2 5 ?_;dsimp only [e14,Zxi,Zwi,go_sem];refine ⟨by simp,?_⟩;refine Zn4 h rfl (fun _ h=>?_) fun _ h=>?_
          ·refine Zl2 5 ?_;dsimp only [e14,Zxi,Zwi,go_sem];refine ⟨by simp,?_⟩;obtain ⟨x46,ex46,h⟩:=Option.bind_eq_some_iff.1 h;refine Zq4 Mail.row ex46 trivial rfl rfl rfl ?_;refine Zl2 12 ?_;dsimp only [e14,Zxi,Zwi,go_sem];refine ⟨by simp,?_⟩
           refine Zl4 (fun (x47:Bool)=>(⟨(.any :: .any :: .iv x3 :: .any :: .ptr 1 0 :: .any :: .any :: .ptr 2 0::an 4 (.iv x44::an 73 (.sl 5 (List.map Mail.row x1.Mail) :: .iv (ln Mail.row x1.Mail) :: .iv x45::an 41 (.bv x47::an 4 [])))),[none,some ⟨29,[.iv x2.A,.iv x2.B]⟩,some ⟨65,[.iv x11.Peer,.iv x11.Epoch,.iv x11.State,.bv x11.Fork,.bv x11.Dirty,.bv x11.Token,.bv x11.Bottle,.bv x11.Ask]⟩],[]⟩:St)) (Z0j x44 x45) y1 ?_ fun J8=>?_
           ·intro x47 h;rw [Z0j] at h;(try dsimp only);refine Zl4 (fun (x48:Int)=>(⟨(.any :: .any :: .iv x3 :: .any :: .ptr 1 0 :: .any :: .any :: .ptr 2 0::an 4 (.iv x48::an 73 (.sl 5 (List.map Mail.row x1.Mail) :: .iv (ln Mail.row x1.Mail) :: .iv x45::an 46 []))),[none,some ⟨29,[.iv x2.A,.iv x2.B]⟩,some ⟨65,[.iv x11.Peer,.iv x11.Epoch,.iv x11.State,.bv x11.Fork,.bv x11.Dirty,.bv x11.Token,.bv x11.Bottle,.bv x11.Ask]⟩],[]⟩:St)) (Zzi x45) y1 ?_ fun J9=>?_
            ·intro x48 h;rw [Zzi] at h;(try dsimp only);refine Zl2 5 ?_;dsimp only [e14,Zxi,Zwi,go_sem];refine ⟨by simp,?_⟩;exact Zy4 h hin1
            ·refine Zn4 h rfl (fun _ h=>?_) fun _ h=>?_
             ·refine Zl2 5 ?_;dsimp only [e14,Zxi,Zwi,go_sem];refine ⟨by simp,?_⟩;exact Zz4 J9 (s:=wr (x44+1)) h
             ·refine Zl2 1 ?_;dsimp only [e14,Zxi,Zwi,go_sem];refine ⟨by simp,?_⟩;exact Zz4 J9 (s:=x44) h
           ·refine Zw4 97 h rfl (fun _ h=>?_) fun _ h=>?_
            ·dsimp only [go_sem];refine Zl2 8 ?_;dsimp only [e14,Zxi,Zwi,go_sem];refine ⟨by simp,?_⟩;refine Zw4 105 h rfl (fun _ h=>?_) fun _ h=>?_
             ·dsimp only [go_sem];refine Zl2 13 ?_;dsimp only [e14,Zxi,Zwi,go_sem];refine ⟨by simp,?_⟩;refine Zw4 118 h rfl (fun _ h=>?_) fun _ h=>?_
              ·dsimp only [go_sem];refine Zl2 13 ?_;dsimp only [e14,Zxi,Zwi,go_sem];refine ⟨by simp,?_⟩;exact Zz4 J8 (s:=decide (((max x46.From x46.To))=((max x2.A x2.B)))) h
              ·dsimp only [go_sem];refine Zl2 13 ?_;dsimp only [e14,Zxi,Zwi,go_sem];refine ⟨by simp,?_⟩;exact Zz4 J8 (s:=false) h
             ·dsimp only [go_sem];refine Zl2 26 ?_;dsimp only [e14,Zxi,Zwi,go_sem];refine ⟨by simp,?_⟩;exact Zz4 J8 (s:=false) h
            ·dsimp only [go_sem];refine Zl2 34 ?_;dsimp only [e14,Zxi,Zwi,go_sem];refine ⟨by simp,?_⟩;exact Zz4 J8 (s:=false) h
          ·refine Zl2 1 ?_;dsimp only [e14,Zxi,Zwi,go_sem];refine ⟨by simp,?_⟩;exact Zz4 J7 (s:=x44) (Zk4 h hout1)
        ·refine Zl2 1 ?_;dsimp only [e14,Zxi,Zwi,go_sem];refine ⟨by simp,?_⟩
         refine Zm4 h (fun ((x23,x24):(Int×Int))=>(⟨(.any :: .any :: .iv x3 :: .ptr 0 0 :: .ptr 1 0 :: .any :: .any :: .ptr 2 0::an 3 (.clo 50 [] :: .iv x23::an 60 (.osl 0 :: .iv (ln Side.row ([x11,x16])) :: .iv x24::an 59 []))),[some ⟨25,[.sl 3 (List.map Diner.row x1.Diners),.sl 5 (List.map Mail.row x1.Mail)]⟩,some ⟨29,[.iv x2.A,.iv x2.B]⟩,some ⟨65,[.iv x11.Peer,.iv x11.Epoch,.iv x11.State,.bv x11.Fork,.bv x11.Dirty,.bv x11.Token,.bv x11.Bottle,.bv x11.Ask]⟩],[some ⟨65,8,List.map Side.row ([x11,x16])⟩]⟩:St)) (by simp [go_sem]) (by rintro ⟨x23,x24⟩;first | rfl | simp [go_sem]) ?_
         rintro n1 ⟨x23,x24⟩ y1 h hin1 hout1;rw [Z4j] at h;(try dsimp only);refine Zl2 5 ?_;dsimp only [e14,Zxi,Zwi,go_sem];refine ⟨by simp,?_⟩;refine Zn4 h rfl (fun _ h=>?_) fun _ h=>?_
         ·refine Zl2 5 ?_;dsimp only [e14,Zxi,Zwi,go_sem];refine ⟨by simp,?_⟩;obtain ⟨x25,ex25,h⟩:=Option.bind_eq_some_iff.1 h;refine Z06 Side.row ex25 trivial rfl rfl rfl ?_;refine V_loadAO Side.row ex25 trivial rfl rfl rfl ?_;refine Zl2 7 ?_;dsimp only [e14,Zxi,Zwi,go_sem];refine ⟨by simp,?_⟩;obtain ⟨x26,ex26,h⟩:=Option.bind_eq_some_iff.1 h;refine V_callv trivial rfl (Zti x25 _ ex26) (by kernel_rfl) (h:=?_);refine Zl2 1 ?_;dsimp only [e14,Zxi,Zwi,go_sem];refine ⟨by simp,?_⟩
          refine Zl4 (fun (x27:Int)=>(⟨(.any :: .any :: .iv x3 :: .ptr 0 0 :: .ptr 1 0 :: .any :: .any :: .ptr 2 0::an 3 (.clo 50 [] :: .iv x27::an 60 (.osl 0 :: .iv (ln Side.row ([x11,x16])) :: .iv x24::an 59 []))),[some ⟨25,[.sl 3 (List.map Diner.row x1.Diners),.sl 5 (List.map Mail.row x1.Mail)]⟩,some ⟨29,[.iv x2.A,.iv x2.B]⟩,some ⟨65,[.iv x11.Peer,.iv x11.Epoch,.iv x11.State,.bv x11.Fork,.bv x11.Dirty,.bv x11.Token,.bv x11.Bottle,.bv x11.Ask]⟩],[some ⟨65,8,List.map Side.row ([x11,x16])⟩]⟩:St)) (Z3j x24) y1 ?_ fun J6=>?_
          ·intro x27 h;rw [Z3j] at h;(try dsimp only);refine Zl2 5 ?_;dsimp only [e14,Zxi,Zwi,go_sem];refine ⟨by simp,?_⟩;exact Zy4 h hin1
          ·refine Zn4 h rfl (fun _ h=>?_) fun _ h=>?_
           ·refine Zl2 5 ?_;dsimp only [e14,Zxi,Zwi,go_sem];refine ⟨by simp,?_⟩;exact Zz4 J6 (s:=wr (x23+1)) h
           ·refine Zl2 1 ?_;dsimp only [e14,Zxi,Zwi,go_sem];refine ⟨by simp,?_⟩;exact Zz4 J6 (s:=x23) h
         ·refine Zl2 1 ?_;dsimp only [e14,Zxi,Zwi,go_sem];refine ⟨by simp,?_⟩;exact Zz4 J5 (s:=x23) (Zk4 h hout1)
       ·refine Zl2 5 ?_;dsimp only [e14,Zxi,Zwi,go_sem];refine ⟨by simp,?_⟩;refine Zn4 h rfl (fun _ h=>?_) fun _ h=>?_
        ·refine Zl2 17 ?_;dsimp only [e14,Zxi,Zwi,go_sem];refine ⟨by simp,?_⟩;refine Zl4 (fun (x79:Int)=>(⟨(.any :: .any :: .iv x3 :: .ptr 0 0 :: .ptr 1 0 :: .any :: .any :: .ptr 2 0::an 4 (.iv x79::an 122 [])),[some ⟨25,[.sl 3 (List.map Diner.row x1.Diners),.sl 5 (List.map Mail.row x1.Mail)]⟩,some ⟨29,[.iv x2.A,.iv x2.B]⟩,some ⟨65,[.iv x11.Peer,.iv x11.Epoch,.iv x11.State,.bv x11.Fork,.bv x11.Dirty,.bv x11.Token,.bv x11.Bottle,.bv x11.Ask]⟩],[]⟩:St)) (Z9j x1 x2 x3 x11) r ?_ fun J10=>?_
         ·intro x79 h;rw [Z9j] at h;(try dsimp only);refine Zl2 8 ?_;dsimp only [e14,Zxi,Zwi,go_sem];refine ⟨by simp,?_⟩;refine Zl4 (fun (x99:Int)=>(⟨(an 12 (.iv x99::an 122 [])),[],[]⟩:St)) Z5j r ?_ fun J12=>?_
          ·intro x99 h;rw [Z5j] at h;(try dsimp only);refine Zl2 5 ?_;dsimp only [e14,Zxi,Zwi,go_sem];refine ⟨by simp,?_⟩;exact Zx4 (res:=fun (r:Int)=>.iv r) ok14 h
          ·refine Zl2 1 ?_;dsimp only [e14,Zxi,Zwi,go_sem];refine ⟨by simp,?_⟩;refine Zm4 h (fun ((x85,x86):(Int×Int))=>(⟨(.any :: .any :: .iv x3 :: .any :: .ptr 1 0 :: .any :: .any :: .ptr 2 0::an 4 (.iv x85::an 73 (.sl 5 (List.map Mail.row x1.Mail) :: .iv (ln Mail.row x1.Mail) :: .iv x86::an 46 []))),[none,some ⟨29,[.iv x2.A,.iv x2.B]⟩,some ⟨65,[.iv x11.Peer,.iv x11.Epoch,.iv x11.State,.bv x11.Fork,.bv x11.Dirty,.bv x11.Token,.bv x11.Bottle,.bv x11.Ask]⟩],[]⟩:St)) (by simp [go_sem]) (by rintro ⟨x85,x86⟩;first | rfl | simp [go_sem]) ?_
           rintro n1 ⟨x85,x86⟩ y1 h hin1 hout1;rw [Z8j] at h;(try dsimp only);refine Zl2 5 ?_;dsimp only [e14,Zxi,Zwi,go_sem];refine ⟨by simp,?_⟩;refine Zn4 h rfl (fun _ h=>?_) fun _ h=>?_
           ·refine Zl2 5 ?_;dsimp only [e14,Zxi,Zwi,go_sem];refine ⟨by simp,?_⟩;obtain ⟨x87,ex87,h⟩:=Option.bind_eq_some_iff.1 h;refine Zq4 Mail.row ex87 trivial rfl rfl rfl ?_;refine Zl2 12 ?_;dsimp only [e14,Zxi,Zwi,go_sem];refine ⟨by simp,?_⟩
            refine Zl4 (fun (x88:Bool)=>(⟨(.any :: .any :: .iv x3 :: .any :: .ptr 1 0 :: .any :: .any :: .ptr 2 0::an 4 (.iv x85::an 73 (.sl 5 (List.map Mail.row x1.Mail) :: .iv (ln Mail.row x1.Mail) :: .iv x86::an 41 (.bv x88::an 4 [])))),[none,some ⟨29,[.iv x2.A,.iv x2.B]⟩,some ⟨65,[.iv x11.Peer,.iv x11.Epoch,.iv x11.State,.bv x11.Fork,.bv x11.Dirty,.bv x11.Token,.bv x11.Bottle,.bv x11.Ask]⟩],[]⟩:St)) (Z7j x85 x86) y1 ?_ fun J13=>?_
            ·intro x88 h;rw [Z7j] at h;(try dsimp only);refine Zl4 (fun (x89:Int)=>(⟨(.any :: .any :: .iv x3 :: .any :: .ptr 1 0 :: .any :: .any :: .ptr 2 0::an 4 (.iv x89::an 73 (.sl 5 (List.map Mail.row x1.Mail) :: .iv (ln Mail.row x1.Mail) :: .iv x86::an 46 []))),[none,some ⟨29,[.iv x2.A,.iv x2.B]⟩,some ⟨65,[.iv x11.Peer,.iv x11.Epoch,.iv x11.State,.bv x11.Fork,.bv x11.Dirty,.bv x11.Token,.bv x11.Bottle,.bv x11.Ask]⟩],[]⟩:St)) (Z6j x86) y1 ?_ fun J14=>?_
             ·intro x89 h;rw [Z6j] at h;(try dsimp only);refine Zl2 5 ?_;dsimp only [e14,Zxi,Zwi,go_sem];refine ⟨by simp,?_⟩;exact Zy4 h hin1
             ·refine Zn4 h rfl (fun _ h=>?_) fun _ h=>?_
              ·refine Zl2 5 ?_;dsimp only [e14,Zxi,Zwi,go_sem];refine ⟨by simp,?_⟩;exact Zz4 J14 (s:=wr (x85+1)) h
              ·refine Zl2 1 ?_;dsimp only [e14,Zxi,Zwi,go_sem];refine ⟨by simp,?_⟩;exact Zz4 J14 (s:=x85) h
            ·refine Zw4 97 h rfl (fun _ h=>?_) fun _ h=>?_
             ·dsimp only [go_sem];refine Zl2 8 ?_;dsimp only [e14,Zxi,Zwi,go_sem];refine ⟨by simp,?_⟩;refine Zw4 105 h rfl (fun _ h=>?_) fun _ h=>?_
              ·dsimp only [go_sem];refine Zl2 13 ?_;dsimp only [e14,Zxi,Zwi,go_sem];refine ⟨by simp,?_⟩;refine Zw4 118 h rfl (fun _ h=>?_) fun _ h=>?_
               ·dsimp only [go_sem];refine Zl2 13 ?_;dsimp only [e14,Zxi,Zwi,go_sem];refine ⟨by simp,?_⟩;exact Zz4 J13 (s:=decide (((max x87.From x87.To))=((max x2.A x2.B)))) h
               ·dsimp only [go_sem];refine Zl2 13 ?_;dsimp only [e14,Zxi,Zwi,go_sem];refine ⟨by simp,?_⟩;exact Zz4 J13 (s:=false) h
              ·dsimp only [go_sem];refine Zl2 26 ?_;dsimp only [e14,Zxi,Zwi,go_sem];refine ⟨by simp,?_⟩;exact Zz4 J13 (s:=false) h
             ·dsimp only [go_sem];refine Zl2 34 ?_;dsimp only [e14,Zxi,Zwi,go_sem];refine ⟨by simp,?_⟩;exact Zz4 J13 (s:=false) h
           ·refine Zl2 1 ?_;dsimp only [e14,Zxi,Zwi,go_sem];refine ⟨by simp,?_⟩;exact Zz4 J12 (s:=x85) (Zk4 h hout1)
         ·refine Zl2 1 ?_;dsimp only [e14,Zxi,Zwi,go_sem];refine ⟨by simp,?_⟩
          refine Zm4 h (fun ((x64,x65):(Int×Int))=>(⟨(.any :: .any :: .iv x3 :: .ptr 0 0 :: .ptr 1 0 :: .any :: .any :: .ptr 2 0::an 3 (.clo 51 [] :: .iv x64::an 60 (.osl 0 :: .iv (ln Side.row ([x11,x16])) :: .iv x65::an 59 []))),[some ⟨25,[.sl 3 (List.map Diner.row x1.Diners),.sl 5 (List.map Mail.row x1.Mail)]⟩,some ⟨29,[.iv x2.A,.iv x2.B]⟩,some ⟨65,[.iv x11.Peer,.iv x11.Epoch,.iv x11.State,.bv x11.Fork,.bv x11.Dirty,.bv x11.Token,.bv x11.Bottle,.bv x11.Ask]⟩],[some ⟨65,8,List.map Side.row ([x11,x16])⟩]⟩:St)) (by simp [go_sem]) (by rintro ⟨x64,x65⟩;first | rfl | simp [go_sem]) ?_
          rintro n1 ⟨x64,x65⟩ y1 h hin1 hout1;rw [Zbj] at h;(try dsimp only);refine Zl2 5 ?_;dsimp only [e14,Zxi,Zwi,go_sem];refine ⟨by simp,?_⟩;refine Zn4 h rfl (fun _ h=>?_) fun _ h=>?_
          ·refine Zl2 5 ?_;dsimp only [e14,Zxi,Zwi,go_sem];refine ⟨by simp,?_⟩;obtain ⟨x66,ex66,h⟩:=Option.bind_eq_some_iff.1 h;refine Z06 Side.row ex66 trivial rfl rfl rfl ?_;refine V_loadAO Side.row ex66 trivial rfl rfl rfl ?_;refine Zl2 7 ?_;dsimp only [e14,Zxi,Zwi,go_sem];refine ⟨by simp,?_⟩;obtain ⟨x67,ex67,h⟩:=Option.bind_eq_some_iff.1 h;refine V_callv trivial rfl (Zvi x66 _ ex67) (by kernel_rfl) (h:=?_);refine Zl2 1 ?_;dsimp only [e14,Zxi,Zwi,go_sem];refine ⟨by simp,?_⟩
           refine Zl4 (fun (x68:Int)=>(⟨(.any :: .any :: .iv x3 :: .ptr 0 0 :: .ptr 1 0 :: .any :: .any :: .ptr 2 0::an 3 (.clo 51 [] :: .iv x68::an 60 (.osl 0 :: .iv (ln Side.row ([x11,x16])) :: .iv x65::an 59 []))),[some ⟨25,[.sl 3 (List.map Diner.row x1.Diners),.sl 5 (List.map Mail.row x1.Mail)]⟩,some ⟨29,[.iv x2.A,.iv x2.B]⟩,some ⟨65,[.iv x11.Peer,.iv x11.Epoch,.iv x11.State,.bv x11.Fork,.bv x11.Dirty,.bv x11.Token,.bv x11.Bottle,.bv x11.Ask]⟩],[some ⟨65,8,List.map Side.row ([x11,x16])⟩]⟩:St)) (Zaj x65) y1 ?_ fun J11=>?_
           ·intro x68 h;rw [Zaj] at h;(try dsimp only);refine Zl2 5 ?_;dsimp only [e14,Zxi,Zwi,go_sem];refine ⟨by simp,?_⟩;exact Zy4 h hin1
           ·refine Zn4 h rfl (fun _ h=>?_) fun _ h=>?_
            ·refine Zl2 5 ?_;dsimp only [e14,Zxi,Zwi,go_sem];refine ⟨by simp,?_⟩;exact Zz4 J11 (s:=wr (x64+1)) h
            ·refine Zl2 1 ?_;dsimp only [e14,Zxi,Zwi,go_sem];refine ⟨by simp,?_⟩;exact Zz4 J11 (s:=x64) h
          ·refine Zl2 1 ?_;dsimp only [e14,Zxi,Zwi,go_sem];refine ⟨by simp,?_⟩;exact Zz4 J10 (s:=x64) (Zk4 h hout1)
        ·refine Zl2 4 ?_;dsimp only [e14,Zxi,Zwi,go_sem];refine ⟨by simp,?_⟩;exact Zx4 (res:=fun (r:Int)=>.iv r) ok14 h
     ·refine Zw4 55 h rfl (fun _ h=>?_) fun _ h=>?_
      ·dsimp only [go_sem];refine Zl2 11 ?_;dsimp only [e14,Zxi,Zwi,go_sem];refine ⟨by simp,?_⟩;exact Zz4 J4 (s:=true) h
      ·dsimp only [go_sem];refine Zl2 4 ?_;dsimp only [e14,Zxi,Zwi,go_sem];refine ⟨by simp,?_⟩;refine Zw4 59 h rfl (fun _ h=>?_) fun _ h=>?_
       ·dsimp only [go_sem];refine Zl2 7 ?_;dsimp only [e14,Zxi,Zwi,go_sem];refine ⟨by simp,?_⟩;exact Zz4 J4 (s:=true) h
       ·dsimp only [go_sem];refine Zl2 7 ?_;dsimp only [e14,Zxi,Zwi,go_sem];refine ⟨by simp,?_⟩;exact Zz4 J4 (s:=!decide (x11.Epoch=x16.Epoch)) h
    ·refine Zh3 (by kernel_rfl) fun all hall hs hnap haf=>?_;dsimp only [go_sem]
     refine Zi5 hall hs haf hnap 6 9 [true,true,true,true,false,false,true,true,false,false,false,false,false,false,false] (⟨(.any :: .any :: .iv x3 :: .ptr 0 0 :: .ptr 1 0 :: .any :: .any :: .ptr 2 0 :: .bv x10::an 33 (.ptr 0 0 :: .sl 3 (List.map Diner.row x1.Diners) :: .ptr 1 1 :: .iv x2.B :: .any :: .any :: .ptr 1 0 :: .iv x2.A::an 85 [])),[some ⟨25,[.sl 3 (List.map Diner.row x1.Diners),.sl 5 (List.map Mail.row x1.Mail)]⟩,some ⟨29,[.iv x2.A,.iv x2.B]⟩,some ⟨65,[.iv x11.Peer,.iv x11.Epoch,.iv x11.State,.bv x11.Fork,.bv x11.Dirty,.bv x11.Token,.bv x11.Bottle,.bv x11.Ask]⟩],[]⟩:St) (by kernel_rfl) ?_
     obtain ⟨x12,ex12,h⟩:=Option.bind_eq_some_iff.1 h;refine Zr4 hall hs haf hnap 4 Diner.row ex12 rfl rfl trivial rfl rfl rfl rfl ?_;refine Zh5 hall hs haf hnap 1 7 ?_;dsimp only [go_sem];refine ⟨by simp,?_⟩;obtain ⟨x13,ex13,h⟩:=Option.bind_eq_some_iff.1 h;refine Zu3 8 12 rfl ?_ ?_
     ·refine Zz3 hall rfl trivial (Zj8 x12 x2.A _ ex13) (h:=?_);dsimp only [go_sem];refine Zh5 hall hs haf hnap 3 3 ?_;dsimp only [go_sem];refine ⟨by simp,?_⟩;refine Zt3 12 rfl ?_;refine Zy3 hall rfl trivial ?_;dsimp only [go_sem];refine Zt3 13 rfl ?_;refine Zy3 hall rfl trivial ?_;dsimp only [go_sem];refine Zh5 hall hs haf hnap 1 0 ?_;dsimp only [go_sem];refine ⟨by simp,?_⟩;refine Zs3 rfl ?_ _;exact Zz4 J3 (s:=(x13.2,x13.1)) h
     ·refine Zy3 hall rfl trivial ?_;dsimp only [go_sem];refine Zt3 8 rfl ?_;refine Zz3 hall rfl trivial (Zj8 x12 x2.A _ ex13) (h:=?_);dsimp only [go_sem];refine Zh5 hall hs haf hnap 3 2 ?_;dsimp only [go_sem];refine ⟨by simp,?_⟩;refine Zt3 13 rfl ?_;refine Zy3 hall rfl trivial ?_;dsimp only [go_sem];refine Zh5 hall hs haf hnap 1 0 ?_;dsimp only [go_sem];refine ⟨by simp,?_⟩;refine Zs3 rfl ?_ _;exact Zz4 J3 (s:=(x13.2,x13.1)) h
   ·refine Zh3 (by kernel_rfl) fun all hall hs hnap haf=>?_;dsimp only [go_sem];refine Zi5 hall hs haf hnap 6 9 [true,true,true,true,false,false,true,true,false,false,false,false,false,false,false] (⟨(.any :: .any :: .iv x3 :: .ptr 0 0 :: .ptr 1 0::an 23 (.bv x6 :: .any :: .ptr 0 0 :: .sl 3 (List.map Diner.row x1.Diners) :: .ptr 1 0 :: .iv x2.A :: .any :: .any :: .ptr 1 1 :: .iv x2.B::an 97 [])),[some ⟨25,[.sl 3 (List.map Diner.row x1.Diners),.sl 5 (List.map Mail.row x1.Mail)]⟩,some ⟨29,[.iv x2.A,.iv x2.B]⟩],[]⟩:St) (by kernel_rfl) ?_
    obtain ⟨x7,ex7,h⟩:=Option.bind_eq_some_iff.1 h;refine Zr4 hall hs haf hnap 4 Diner.row ex7 rfl rfl trivial rfl rfl rfl rfl ?_;refine Zh5 hall hs haf hnap 1 7 ?_;dsimp only [go_sem];refine ⟨by simp,?_⟩;obtain ⟨x8,ex8,h⟩:=Option.bind_eq_some_iff.1 h;refine Zu3 8 12 rfl ?_ ?_
    ·refine Zz3 hall rfl trivial (Zj8 x7 x2.B _ ex8) (h:=?_);dsimp only [go_sem];refine Zh5 hall hs haf hnap 3 3 ?_;dsimp only [go_sem];refine ⟨by simp,?_⟩;refine Zt3 12 rfl ?_;refine Zy3 hall rfl trivial ?_;dsimp only [go_sem];refine Zt3 13 rfl ?_;refine Zy3 hall rfl trivial ?_;dsimp only [go_sem];refine Zh5 hall hs haf hnap 1 0 ?_;dsimp only [go_sem];refine ⟨by simp,?_⟩;refine Zs3 rfl ?_ _;exact Zz4 J2 (s:=(x8.2,x8.1)) h
    ·refine Zy3 hall rfl trivial ?_;dsimp only [go_sem];refine Zt3 8 rfl ?_;refine Zz3 hall rfl trivial (Zj8 x7 x2.B _ ex8) (h:=?_);dsimp only [go_sem];refine Zh5 hall hs haf hnap 3 2 ?_;dsimp only [go_sem];refine ⟨by simp,?_⟩;refine Zt3 13 rfl ?_;refine Zy3 hall rfl trivial ?_;dsimp only [go_sem];refine Zh5 hall hs haf hnap 1 0 ?_;dsimp only [go_sem];refine ⟨by simp,?_⟩;refine Zs3 rfl ?_ _;exact Zz4 J2 (s:=(x8.2,x8.1)) h
 ·refine Zw4 22 h rfl (fun _ h=>?_) fun _ h=>?_
  ·dsimp only [go_sem];refine Zl2 7 ?_;dsimp only [e14,Zxi,Zwi,go_sem];refine ⟨by simp,?_⟩;exact Zz4 J1 (s:=true) h
  ·dsimp only [go_sem];refine Zl2 3 ?_;dsimp only [e14,Zxi,Zwi,go_sem];refine ⟨by simp,?_⟩;obtain ⟨x5,ex5,h⟩:=Option.bind_eq_some_iff.1 h;refine Zz2 trivial (Zkf x1 x2.B _ ex5) (h:=?_);refine Zl2 3 ?_;dsimp only [e14,Zxi,Zwi,go_sem];refine ⟨by simp,?_⟩;exact Zz4 J1 (s:=!x5) h
set_option maxRecDepth 100000
set_option maxHeartbeats 4000000
def Zhj:EC:=.seq (.reg [(Qa 12 (.bin .lss (.t 11) (.t 10)))]) (.seq (.ite (.t 12) (.skip) (.exit 0)) (.seq (.blk 1 (.seq (.reg [(Qa 13 (.idx 3 (.t 9) (.t 11))),(Qa 14 (.loadA 3 (.t 13))),(Qa 7 (.alloc 70 [.iv 0,.iv 0,.nl])),(Qb (.store 3 (.t 7) (.t 14)))]) (.seq (.reg [(Qa 15 (.fld 1 (.t 7))),(Qa 16 (.load (.t 15))),(Qa 17 (.mv (.t 1))),(Qa 18 (.bin .eql (.t 16) (.t 17)))]) (.ite (.t 18) (.reg [(Qa 19 (.mv (.t 5))),(Qa 20 (.fld 0 (.t 7))),(Qa 21 (.load (.t 20))),(Qa 22 (.bsl 3 1 1 [.iv 0] [(0,(.t 21))])),(Qa 23 (.app 3 1 8 (.t 19) (.t 22))),(Qa 5 (.mv (.t 23)))]) (.skip))))) (.reg [(Qa 24 (.bin .add (.t 11) (.c (.iv 1)))),(Qa 11 (.mv (.t 24)))])))
def e17:EC:=.seq (.reg [(Qa 2 (.box 25 2 (.t 0))),(Qa 4 (.mv (.c .nl)))]) (.seq (.reg [(Qa 5 (.mv (.c .nl)))]) (.seq (.seq (.reg [(Qa 8 (.fld 0 (.t 2))),(Qa 9 (.load (.t 8))),(Qa 10 (.len (.t 9))),(Qa 11 (.mv (.c (.iv 0))))]) (.blk 0 (.loop Zhj))) (.seq (.reg [(Qa 25 (.mv (.t 5))),(Qa 4 (.mv (.t 25)))]) (.ret))))
theorem ok17:FnOK Tryz.prog 17 Tryz.f17 e17 [.t 4] 2 24:=⟨by kernel_rfl,⟨_,rfl,by kernel_rfl⟩,by kernel_rfl,by kernel_rfl⟩
noncomputable def Zij:(List Int)→Option (List Int)
| x20=>
 some x20
noncomputable def Zjj (x8:Int):(List Int)→Option ((Int×(List Int)) ⊕ (List Int))
| x12=>
 some (.inl (wr (x8+1),x12))
noncomputable def Zkj (x1:Scene) (x2:Int):(Int×(List Int))→Option ((Int×(List Int)) ⊕ (List Int))
| (x8,x9)=>
 ifb (decide (x8<(ln Diner.row x1.Diners))) (
 (at_ x1.Diners x8).bind fun x10=>
 ifb (decide (x10.Phase=x2)) (
 (Za4 8 x9 ([x10.ID])).bind fun x11=>
 (Zjj x8) x11) (
 (Zjj x8) x9)) (
 Option.map Sum.inr (Zij x9))
noncomputable def Zlj (x1:Scene) (x2:Int):Option (List Int):=
 loop (Zkj x1 x2) (0,([]:List Int))
theorem Zmj (x1:Scene) (x2:Int) (r:(List Int)) (h:Zlj x1 x2=some r):FunO Tryz.prog 17 [.agg (Scene.row x1),.iv x2] 3 1 (List.map Z45 r):=by
 refine Zc5 ok17 rfl fun w0 H0=>?_
 rw [Zlj] at h
 refine Zl2 17 ?_;dsimp only [e17,Zhj,go_sem];refine ⟨by simp,?_⟩;refine Zl4 (fun (x20:(List Int))=>(⟨(an 5 (.osl 0::an 20 [])),[],[some ⟨3,1,List.map Z45 x20⟩]⟩:St)) Zij r ?_ fun J1=>?_
 ·intro x20 h;rw [Zij] at h;(try dsimp only);refine Zl2 5 ?_;dsimp only [e17,Zhj,go_sem];refine ⟨by simp,?_⟩;exact Zj5 Z45 ok17 h rfl rfl
 ·refine Zl2 1 ?_;dsimp only [e17,Zhj,go_sem];refine ⟨by simp,?_⟩;refine V_own 5 3 1 rfl rfl ?_;dsimp only [go_sem];refine Zm4 h (fun ((x8,x9):(Int×(List Int)))=>(⟨(.any :: .iv x2::an 3 (.osl 0::an 3 (.sl 3 (List.map Diner.row x1.Diners) :: .iv (ln Diner.row x1.Diners) :: .iv x8::an 14 []))),[],[some ⟨3,1,List.map Z45 x9⟩]⟩:St)) (by simp [go_sem]) (by rintro ⟨x8,x9⟩;first | rfl | simp [go_sem]) ?_;rintro n1 ⟨x8,x9⟩ y1 h hin1 hout1;rw [Zkj] at h;(try dsimp only);refine Zl2 5 ?_;dsimp only [e17,Zhj,go_sem];refine ⟨by simp,?_⟩
  refine Zn4 h rfl (fun _ h=>?_) fun _ h=>?_
  ·refine Zl2 5 ?_;dsimp only [e17,Zhj,go_sem];refine ⟨by simp,?_⟩;obtain ⟨x10,ex10,h⟩:=Option.bind_eq_some_iff.1 h;refine Zq4 Diner.row ex10 trivial rfl rfl rfl ?_;refine Zl2 11 ?_;dsimp only [e17,Zhj,go_sem];refine ⟨by simp,?_⟩;refine Zl4 (fun (x12:(List Int))=>(⟨(.any :: .iv x2::an 3 (.osl 0::an 3 (.sl 3 (List.map Diner.row x1.Diners) :: .iv (ln Diner.row x1.Diners) :: .iv x8::an 14 []))),[],[some ⟨3,1,List.map Z45 x12⟩]⟩:St)) (Zjj x8) y1 ?_ fun J2=>?_
   ·intro x12 h;rw [Zjj] at h;(try dsimp only);refine Zl2 5 ?_;dsimp only [e17,Zhj,go_sem];refine ⟨by simp,?_⟩;exact Zy4 h hin1
   ·refine Zn4 h rfl (fun _ h=>?_) fun _ h=>?_
    ·refine Zl2 5 ?_;dsimp only [e17,Zhj,go_sem];refine ⟨by simp,?_⟩;obtain ⟨x11,ex11,h⟩:=Option.bind_eq_some_iff.1 h;refine Zt4 Z45 ex11 trivial rfl rfl rfl ?_;refine Zl2 2 ?_;dsimp only [e17,Zhj,go_sem];refine ⟨by simp,?_⟩;refine Z44 2 0 rfl rfl rfl ?_;dsimp only [go_sem];exact Zz4 J2 (s:=x11) h
    ·refine Zl2 1 ?_;dsimp only [e17,Zhj,go_sem];refine ⟨by simp,?_⟩;exact Zz4 J2 (s:=x9) h
  ·refine Zl2 1 ?_;dsimp only [e17,Zhj,go_sem];refine ⟨by simp,?_⟩;exact Zz4 J1 (s:=x9) (Zk4 h hout1)
theorem Znj (x1:Scene) (x2:Int) (r:(List Int)) (h:Zlj x1 x2=some r):Zq2 Tryz.prog 17 [.agg (Scene.row x1),.iv x2] (.sl 1 (List.map Z45 r)):=(Zmj x1 x2 r h).sealed
set_option maxRecDepth 100000
set_option maxHeartbeats 4000000
def Zoj:EC:=.seq (.seq (.reg [(Qa 28 (.mv (.t 10))),(Qa 29 (.mv (.t 1))),(Qa 30 (.len (.t 29))),(Qa 31 (.bin .lss (.t 28) (.t 30)))]) (.ite (.t 31) (.skip) (.exit 0))) (.seq (.blk 1 (.seq (.drw [(Qa 35 (.loadA 2 (.t 8))),(Qa 36 (.call 9 [(.t 35)])),(Qa 37 (.mv (.t 1))),(Qa 38 (.mv (.t 10))),(Qa 39 (.idx 3 (.t 37) (.t 38))),(Qa 40 (.loadA 3 (.t 39))),(Qa 41 (.call 8 [(.t 36),(.t 40)])),(Qa 34 (.mv (.t 41))),(Qa 42 (.ext (.t 34) 0)),(Qa 43 (.ext (.t 34) 1)),(Qa 11 (.alloc 25 [.nl,.nl])),(Qb (.store 2 (.t 11) (.t 42))),(Qa 12 (.mv (.t 43)))] [[],[0],[],[],[2,3],[4],[1,5,1],[6],[7],[7],[],[10,8,6,0,1,2,3,4,5,6,7,8,10],[9,11,0,1,2,3,4,5,6,7,8,9,10,11]] [[1],[0,6],[4],[4],[2,3,5],[4,6],[1,5,7],[6,8,9],[7,11],[7,12],[11],[8,10],[9]]) (.seq (.seq (.reg [(Qa 44 (.mv (.t 12))),(Qa 45 (.bin .neq (.t 44) (.c (.iv 0)))),(Qa 46 (.mv (.t 45))),(Qg 47 46 true (.mv (.t 12))),(Qg 48 46 true (.bin .neq (.t 47) (.c (.iv 134)))),(Qa 49 (.pick (.t 46) (.t 48) (.c .ff))),(Qa 50 (.mv (.t 49))),(Qg 51 50 true (.mv (.t 12))),(Qg 52 50 true (.bin .neq (.t 51) (.c (.iv 141)))),(Qa 53 (.pick (.t 50) (.t 52) (.c .ff))),(Qa 54 (.mv (.t 53))),(Qg 55 54 true (.mv (.t 12))),(Qg 56 54 true (.bin .neq (.t 55) (.c (.iv 140)))),(Qa 57 (.pick (.t 54) (.t 56) (.c .ff)))]) (.ite (.t 57) (.seq (.reg [(Qa 58 (.loadA 2 (.t 8))),(Qb (.store 2 (.t 6) (.t 58))),(Qa 7 (.mv (.c .ff)))]) (.ret)) (.skip))) (.seq (.seq (.reg [(Qa 59 (.mv (.t 12))),(Qa 60 (.bin .eql (.t 59) (.c (.iv 0))))]) (.ite (.t 60) (.reg [(Qa 61 (.loadA 2 (.t 11))),(Qb (.store 2 (.t 8) (.t 61)))]) (.skip))) (.seq (.reg [(Qa 62 (.mv (.t 2))),(Qa 63 (.loadA 2 (.t 8))),(Qa 64 (.callv (.t 62) [(.t 63)])),(Qa 65 (.not (.t 64)))]) (.ite (.t 65) (.seq (.reg [(Qa 66 (.loadA 2 (.t 8))),(Qb (.store 2 (.t 6) (.t 66))),(Qa 7 (.mv (.c .ff)))]) (.ret)) (.skip))))))) (.reg [(Qa 32 (.mv (.t 10))),(Qa 33 (.bin .add (.t 32) (.c (.iv 1)))),(Qa 10 (.mv (.t 33)))]))
def e25:EC:=.seq (.reg [(Qa 3 (.box 48 2 (.t 0))),(Qa 6 (.alloc 25 [.nl,.nl])),(Qa 7 (.mv (.c .ff)))]) (.seq (.reg [(Qa 14 (.loadA 2 (.t 3))),(Qa 15 (.call 21 [(.t 14)])),(Qa 16 (.call 20 [(.t 15)])),(Qa 13 (.mv (.t 16))),(Qa 17 (.ext (.t 13) 0)),(Qa 18 (.ext (.t 13) 1)),(Qa 8 (.alloc 25 [.nl,.nl])),(Qb (.store 2 (.t 8) (.t 17))),(Qa 9 (.mv (.t 18)))]) (.seq (.seq (.reg [(Qa 19 (.mv (.t 9))),(Qa 20 (.bin .neq (.t 19) (.c (.iv 0)))),(Qa 21 (.mv (.t 20))),(Qg 22 21 false (.mv (.t 2))),(Qg 23 21 false (.loadA 2 (.t 8))),(Qg 24 21 false (.callv (.t 22) [(.t 23)])),(Qg 25 21 false (.not (.t 24))),(Qa 26 (.pick (.t 21) (.c .tt) (.t 25)))]) (.ite (.t 26) (.seq (.reg [(Qa 27 (.loadA 2 (.t 8))),(Qb (.store 2 (.t 6) (.t 27))),(Qa 7 (.mv (.c .ff)))]) (.ret)) (.skip))) (.seq (.seq (.reg [(Qa 10 (.mv (.c (.iv 0))))]) (.blk 0 (.loop Zoj))) (.seq (.reg [(Qa 67 (.loadA 2 (.t 8))),(Qb (.store 2 (.t 6) (.t 67))),(Qa 7 (.mv (.c .tt)))]) (.ret)))))
theorem ok25:FnOK Tryz.prog 25 Tryz.f25 e25 [.c 6 (some 2),.t 7] 3 65:=⟨by kernel_rfl,⟨_,rfl,by kernel_rfl⟩,by kernel_rfl,by kernel_rfl⟩
noncomputable def Zpj:Scene→Option (Scene×Bool)
| x36=>
 some (x36,true)
noncomputable def Zqj (p2:(Scene→Option Bool)) (x19:Int):Scene→Option ((Int×Scene) ⊕ (Scene×Bool))
| x29=>
 (p2 x29).bind fun x30=>
 ifb (!x30) (
 Option.map Sum.inr (some (x29,false))) (
 some (.inl (wr (x19+1),x29)))
noncomputable def Zrj (p2:(Scene→Option Bool)) (x19:Int) (x20:Scene) (x26:Int) (x27:Scene):Bool→Option ((Int×Scene) ⊕ (Scene×Bool))
| x28=>
 ifb x28 (
 Option.map Sum.inr (some (x20,false))) (
 ifb (decide (x26=0)) (
 (Zqj p2 x19) x27) (
 (Zqj p2 x19) x20))
noncomputable def Zsj (p2:(Scene→Option Bool)) (x19:Int) (x20:Scene):(Int×Scene)→Option ((Int×Scene) ⊕ (Scene×Bool))
| (x26,x27)=>
 ifb (!decide (x26=0)) (
 ifb (!decide (x26=134)) (
 ifb (!decide (x26=141)) (
 (Zrj p2 x19 x20 x26 x27) (!decide (x26=140))) (
 (Zrj p2 x19 x20 x26 x27) false)) (
 (Zrj p2 x19 x20 x26 x27) false)) (
 (Zrj p2 x19 x20 x26 x27) false)
noncomputable def Ztj (x2:(List narthexlaw14_Act)) (p2:(Scene→Option Bool)):(Int×Scene)→Option ((Int×Scene) ⊕ (Scene×Bool))
| (x19,x20)=>
 ifb (decide (x19<(ln narthexlaw14_Act.row x2))) (
 (at_ x2 x19).bind fun x21=>
 (Ztg x20).bind fun x22=>
 (Zqg x22 x21).bind fun x24=>
 (Zsj p2 x19 x20) (x24.2,x24.1)) (
 Option.map Sum.inr (Zpj x20))
noncomputable def Zuj (x2:(List narthexlaw14_Act)) (p2:(Scene→Option Bool)) (x4:(Scene×Int)):Bool→Option (Scene×Bool)
| x6=>
 ifb x6 (
 some (x4.1,false)) (
 loop (Ztj x2 p2) (0,x4.1))
noncomputable def Zvj (x1:Graph) (x2:(List narthexlaw14_Act)) (p2:(Scene→Option Bool)):Option (Scene×Bool):=
 (Z09 x1).bind fun x3=>
 (Zdi x3).bind fun x4=>
 ifb (!decide (x4.2=0)) (
 (Zuj x2 p2 x4) true) (
 (p2 x4.1).bind fun x5=>
 (Zuj x2 p2 x4) (!x5))
theorem k_narthexlaw14_run (x1:Graph) (x2:(List narthexlaw14_Act)) (g2:Nat) (caps2:List AV) (p2:(Scene→Option Bool)) (hc2:CloOK Tryz.prog g2 caps2 (fun z=>[.agg (Scene.row z)]) p2 (fun z=>.bv z)) (r:(Scene×Bool)) (h:Zvj x1 x2 p2=some r):Zq2 Tryz.prog 25 [.agg (Graph.row x1),.sl 3 (List.map narthexlaw14_Act.row x2),.clo g2 caps2] (.tup [.agg (Scene.row r.1),.bv r.2]):=by
 refine Zu2 ok25 rfl rfl fun w0 H0=>?_
 rw [Zvj] at h
 refine Zl2 9 ?_;dsimp only [e25,Zoj,go_sem];refine ⟨by simp,?_⟩;obtain ⟨x3,ex3,h⟩:=Option.bind_eq_some_iff.1 h;refine Zz2 trivial (Z19 x1 _ ex3) (hp:=(by first | rfl | simp [go_sem,hc2.pu])) (h:=?_);obtain ⟨x4,ex4,h⟩:=Option.bind_eq_some_iff.1 h;refine Zz2 trivial (Zei x3 _ ex4) (hp:=(by first | rfl | simp [go_sem,hc2.pu])) (h:=?_);refine Zl2 13 ?_;dsimp only [e25,Zoj,go_sem];refine ⟨by simp,?_⟩
 refine Zl4 (fun (x6:Bool)=>(⟨(.any :: .sl 3 (List.map narthexlaw14_Act.row x2) :: .clo g2 caps2::an 3 (.ptr 1 0 :: .any :: .ptr 2 0::an 17 (.bv x6::an 41 []))),[none,some ⟨25,[.nl,.nl]⟩,some ⟨25,[.sl 3 (List.map Diner.row x4.1.Diners),.sl 5 (List.map Mail.row x4.1.Mail)]⟩],[]⟩:St)) (Zuj x2 p2 x4) r ?_ fun J1=>?_
 ·intro x6 h;rw [Zuj] at h;(try dsimp only);refine Zn4 h rfl (fun _ h=>?_) fun _ h=>?_
  ·refine Zl2 6 ?_;dsimp only [e25,Zoj,go_sem];refine ⟨by simp,?_⟩;exact Zx4 (res:=fun (r:(Scene×Bool))=>.tup [.agg (Scene.row r.1),.bv r.2]) ok25 h
  ·refine Zl2 6 ?_;dsimp only [e25,Zoj,go_sem];refine ⟨by simp,?_⟩;refine Zl4 (fun (x36:Scene)=>(⟨(an 6 (.ptr 1 0 :: .any :: .ptr 2 0::an 59 [])),[none,some ⟨25,[.nl,.nl]⟩,some ⟨25,[.sl 3 (List.map Diner.row x36.Diners),.sl 5 (List.map Mail.row x36.Mail)]⟩],[]⟩:St)) Zpj r ?_ fun J2=>?_
   ·intro x36 h;rw [Zpj] at h;(try dsimp only);refine Zl2 6 ?_;dsimp only [e25,Zoj,go_sem];refine ⟨by simp,?_⟩;exact Zx4 (res:=fun (r:(Scene×Bool))=>.tup [.agg (Scene.row r.1),.bv r.2]) ok25 h
   ·refine Zl2 1 ?_;dsimp only [e25,Zoj,go_sem];refine ⟨by simp,?_⟩;refine Zm4 h (fun ((x19,x20):(Int×Scene))=>(⟨(.any :: .sl 3 (List.map narthexlaw14_Act.row x2) :: .clo g2 caps2::an 3 (.ptr 1 0 :: .any :: .ptr 2 0 :: .any :: .iv x19::an 57 [])),[none,some ⟨25,[.nl,.nl]⟩,some ⟨25,[.sl 3 (List.map Diner.row x20.Diners),.sl 5 (List.map Mail.row x20.Mail)]⟩],[]⟩:St)) (by simp [go_sem]) (by rintro ⟨x19,x20⟩;first | rfl | simp [go_sem,Z84 _ hc2.pu]) ?_;rintro n1 ⟨x19,x20⟩ y1 h hin1 hout1;rw [Ztj] at h;(try dsimp only);refine Zl2 8 ?_
    dsimp only [e25,Zoj,go_sem];refine ⟨by simp,?_⟩;refine Zn4 h rfl (fun _ h=>?_) fun _ h=>?_
    ·refine Zl2 4 ?_;dsimp only [e25,Zoj,go_sem];refine ⟨by simp,?_⟩;refine Zl4 (fun ((x26,x27):(Int×Scene))=>(⟨(.any :: .sl 3 (List.map narthexlaw14_Act.row x2) :: .clo g2 caps2::an 3 (.ptr 1 0 :: .any :: .ptr 2 0 :: .any :: .iv x19 :: .ptr 3 0 :: .iv x26::an 55 [])),[none,some ⟨25,[.nl,.nl]⟩,some ⟨25,[.sl 3 (List.map Diner.row x20.Diners),.sl 5 (List.map Mail.row x20.Mail)]⟩,some ⟨25,[.sl 3 (List.map Diner.row x27.Diners),.sl 5 (List.map Mail.row x27.Mail)]⟩],[]⟩:St)) (Zsj p2 x19 x20) y1 ?_ fun J3=>?_
     ·rintro ⟨x26,x27⟩ h;rw [Zsj] at h;(try dsimp only);refine Zl2 6 ?_;dsimp only [e25,Zoj,go_sem];refine ⟨by simp,?_⟩
      refine Zl4 (fun (x28:Bool)=>(⟨(.any :: .sl 3 (List.map narthexlaw14_Act.row x2) :: .clo g2 caps2::an 3 (.ptr 1 0 :: .any :: .ptr 2 0 :: .any :: .iv x19 :: .ptr 3 0 :: .iv x26::an 44 (.bv x28::an 10 []))),[none,some ⟨25,[.nl,.nl]⟩,some ⟨25,[.sl 3 (List.map Diner.row x20.Diners),.sl 5 (List.map Mail.row x20.Mail)]⟩,some ⟨25,[.sl 3 (List.map Diner.row x27.Diners),.sl 5 (List.map Mail.row x27.Mail)]⟩],[]⟩:St)) (Zrj p2 x19 x20 x26 x27) y1 ?_ fun J4=>?_
      ·intro x28 h;rw [Zrj] at h;(try dsimp only);refine Zn4 h rfl (fun _ h=>?_) fun _ h=>?_
       ·refine Zl2 6 ?_;dsimp only [e25,Zoj,go_sem];refine ⟨by simp,?_⟩;exact Zx4 (res:=fun (r:(Scene×Bool))=>.tup [.agg (Scene.row r.1),.bv r.2]) ok25 (Zk4 h hout1)
       ·refine Zl2 7 ?_;dsimp only [e25,Zoj,go_sem];refine ⟨by simp,?_⟩;refine Zl4 (fun (x29:Scene)=>(⟨(.any :: .sl 3 (List.map narthexlaw14_Act.row x2) :: .clo g2 caps2::an 3 (.ptr 1 0 :: .any :: .ptr 2 0 :: .any :: .iv x19::an 57 [])),[none,some ⟨25,[.nl,.nl]⟩,some ⟨25,[.sl 3 (List.map Diner.row x29.Diners),.sl 5 (List.map Mail.row x29.Mail)]⟩],[]⟩:St)) (Zqj p2 x19) y1 ?_ fun J5=>?_
        ·intro x29 h;rw [Zqj] at h;(try dsimp only);refine Zl2 4 ?_;dsimp only [e25,Zoj,go_sem];refine ⟨by simp,?_⟩;obtain ⟨x30,ex30,h⟩:=Option.bind_eq_some_iff.1 h;refine Z35 trivial rfl hc2 (x:=x29) ex30 (by first | exact Z94 _ | simp [go_sem]) (by first | rfl | simp [go_sem,hc2.pu]) ?_;refine Zl2 2 ?_;dsimp only [e25,Zoj,go_sem];refine ⟨by simp,?_⟩;refine Zn4 h rfl (fun _ h=>?_) fun _ h=>?_
         ·refine Zl2 6 ?_;dsimp only [e25,Zoj,go_sem];refine ⟨by simp,?_⟩;exact Zx4 (res:=fun (r:(Scene×Bool))=>.tup [.agg (Scene.row r.1),.bv r.2]) ok25 (Zk4 h hout1)
         ·refine Zl2 7 ?_;dsimp only [e25,Zoj,go_sem];refine ⟨by simp,?_⟩;exact Zy4 h hin1 (hok:=by first | rfl | simp [go_sem,Z84 _ hc2.pu])
        ·refine Zn4 h rfl (fun _ h=>?_) fun _ h=>?_
         ·refine Zl2 4 ?_;dsimp only [e25,Zoj,go_sem];refine ⟨by simp,?_⟩;exact Zz4 J5 (s:=x27) h (hok:=by first | rfl | simp [go_sem,Z84 _ hc2.pu])
         ·refine Zl2 1 ?_;dsimp only [e25,Zoj,go_sem];refine ⟨by simp,?_⟩;exact Zz4 J5 (s:=x20) h (hok:=by first | rfl | simp [go_sem,Z84 _ hc2.pu])
      ·refine Zw4 46 h rfl (fun _ h=>?_) fun _ h=>?_
       ·dsimp only [go_sem];refine Zl2 4 ?_;dsimp only [e25,Zoj,go_sem];refine ⟨by simp,?_⟩;refine Zw4 50 h rfl (fun _ h=>?_) fun _ h=>?_
        ·dsimp only [go_sem];refine Zl2 4 ?_;dsimp only [e25,Zoj,go_sem];refine ⟨by simp,?_⟩;refine Zw4 54 h rfl (fun _ h=>?_) fun _ h=>?_
         ·dsimp only [go_sem];refine Zl2 4 ?_;dsimp only [e25,Zoj,go_sem];refine ⟨by simp,?_⟩;exact Zz4 J4 (s:=!decide (x26=140)) h (hok:=by first | rfl | simp [go_sem,Z84 _ hc2.pu])
         ·dsimp only [go_sem];refine Zl2 4 ?_;dsimp only [e25,Zoj,go_sem];refine ⟨by simp,?_⟩;exact Zz4 J4 (s:=false) h (hok:=by first | rfl | simp [go_sem,Z84 _ hc2.pu])
        ·dsimp only [go_sem];refine Zl2 8 ?_;dsimp only [e25,Zoj,go_sem];refine ⟨by simp,?_⟩;exact Zz4 J4 (s:=false) h (hok:=by first | rfl | simp [go_sem,Z84 _ hc2.pu])
       ·dsimp only [go_sem];refine Zl2 12 ?_;dsimp only [e25,Zoj,go_sem];refine ⟨by simp,?_⟩;exact Zz4 J4 (s:=false) h (hok:=by first | rfl | simp [go_sem,Z84 _ hc2.pu])
     ·refine Zh3 (by kernel_rfl) fun all hall hs hnap haf=>?_;dsimp only [go_sem];refine Zh5 hall hs haf hnap 3 10 ?_;dsimp only [go_sem];refine ⟨by simp,?_⟩;obtain ⟨x21,ex21,h⟩:=Option.bind_eq_some_iff.1 h;refine Zr4 hall hs haf hnap 4 narthexlaw14_Act.row ex21 rfl rfl trivial rfl rfl rfl rfl ?_;refine Zh5 hall hs haf hnap 1 8 ?_;dsimp only [go_sem];refine ⟨by simp,?_⟩;obtain ⟨x22,ex22,h⟩:=Option.bind_eq_some_iff.1 h;refine Zu3 1 10 rfl ?_ ?_
      ·refine Zz3 hall rfl trivial (Zug x20 _ ex22) (hp:=(by first | rfl | simp [go_sem,hc2.pu])) (h:=?_);dsimp only [go_sem];obtain ⟨x24,ex24,h⟩:=Option.bind_eq_some_iff.1 h;refine Zu3 6 10 rfl ?_ ?_
       ·refine Zz3 hall rfl trivial (Zrg x22 x21 _ ex24) (hp:=(by first | rfl | simp [go_sem,hc2.pu])) (h:=?_);dsimp only [go_sem];refine Zh5 hall hs haf hnap 3 3 ?_;dsimp only [go_sem];refine ⟨by simp,?_⟩;refine Zt3 10 rfl ?_;refine Zy3 hall rfl trivial ?_;dsimp only [go_sem];refine Zt3 11 rfl ?_;refine Zy3 hall rfl trivial ?_;dsimp only [go_sem];refine Zh5 hall hs haf hnap 1 0 ?_;dsimp only [go_sem];refine ⟨by simp,?_⟩;refine Zs3 rfl ?_ _;exact Zz4 J3 (s:=(x24.2,x24.1)) h (hok:=by first | rfl | simp [go_sem,Z84 _ hc2.pu])
       ·refine Zy3 hall rfl trivial ?_;dsimp only [go_sem];refine Zt3 6 rfl ?_;refine Zz3 hall rfl trivial (Zrg x22 x21 _ ex24) (hp:=(by first | rfl | simp [go_sem,hc2.pu])) (h:=?_);dsimp only [go_sem];refine Zh5 hall hs haf hnap 3 2 ?_;dsimp only [go_sem];refine ⟨by simp,?_⟩;refine Zt3 11 rfl ?_;refine Zy3 hall rfl trivial ?_;dsimp only [go_sem];refine Zh5 hall hs haf hnap 1 0 ?_;dsimp only [go_sem];refine ⟨by simp,?_⟩;refine Zs3 rfl ?_ _;exact Zz4 J3 (s:=(x24.2,x24.1)) h (hok:=by first | rfl | simp [go_sem,Z84 _ hc2.pu])
      ·refine Zy3 hall rfl trivial ?_;dsimp only [go_sem];refine Zt3 1 rfl ?_;refine Zz3 hall rfl trivial (Zug x20 _ ex22) (hp:=(by first | rfl | simp [go_sem,hc2.pu])) (h:=?_);dsimp only [go_sem];refine Zt3 6 rfl ?_;obtain ⟨x24,ex24,h⟩:=Option.bind_eq_some_iff.1 h;refine Zz3 hall rfl trivial (Zrg x22 x21 _ ex24) (hp:=(by first | rfl | simp [go_sem,hc2.pu])) (h:=?_);dsimp only [go_sem];refine Zh5 hall hs haf hnap 3 2 ?_;dsimp only [go_sem];refine ⟨by simp,?_⟩;refine Zt3 11 rfl ?_;refine Zy3 hall rfl trivial ?_
       dsimp only [go_sem];refine Zh5 hall hs haf hnap 1 0 ?_;dsimp only [go_sem];refine ⟨by simp,?_⟩;refine Zs3 rfl ?_ _;exact Zz4 J3 (s:=(x24.2,x24.1)) h (hok:=by first | rfl | simp [go_sem,Z84 _ hc2.pu])
    ·refine Zl2 1 ?_;dsimp only [e25,Zoj,go_sem];refine ⟨by simp,?_⟩;exact Zz4 J2 (s:=x20) (Zk4 h hout1) (hok:=by first | rfl | simp [go_sem,Z84 _ hc2.pu])
 ·refine Zw4 21 h rfl (fun _ h=>?_) fun _ h=>?_
  ·dsimp only [go_sem];refine Zl2 6 ?_;dsimp only [e25,Zoj,go_sem];refine ⟨by simp,?_⟩;exact Zz4 J1 (s:=true) h (hok:=by first | rfl | simp [go_sem,Z84 _ hc2.pu])
  ·dsimp only [go_sem];refine Zl2 2 ?_;dsimp only [e25,Zoj,go_sem];refine ⟨by simp,?_⟩;obtain ⟨x5,ex5,h⟩:=Option.bind_eq_some_iff.1 h;refine Z35 trivial rfl hc2 (x:=x4.1) ex5 (by first | exact Z94 _ | simp [go_sem]) (by first | rfl | simp [go_sem,hc2.pu]) ?_;refine Zl2 3 ?_;dsimp only [e25,Zoj,go_sem];refine ⟨by simp,?_⟩;exact Zz4 J1 (s:=!x5) h (hok:=by first | rfl | simp [go_sem,Z84 _ hc2.pu])
set_option maxRecDepth 100000
set_option maxHeartbeats 4000000
def e24:EC:=.seq (.reg [(Qa 1 (.box 48 2 (.t 0))),(Qa 2 (.mv (.c .ff)))]) (.seq (.reg [(Qa 3 (.fld 0 (.t 1))),(Qa 4 (.load (.t 3))),(Qa 5 (.bin .leq (.t 4) (.c (.iv 10)))),(Qa 6 (.mv (.t 5))),(Qg 7 6 true (.loadA 2 (.t 1))),(Qg 8 6 true (.call 22 [(.t 7)])),(Qa 9 (.pick (.t 6) (.t 8) (.c .ff))),(Qa 2 (.mv (.t 9)))]) (.ret))
theorem ok24:FnOK Tryz.prog 24 Tryz.f24 e24 [.t 2] 1 9:=⟨by kernel_rfl,⟨_,rfl,by kernel_rfl⟩,by kernel_rfl,by kernel_rfl⟩
noncomputable def Zwj:Bool→Option Bool
| x3=>
 some x3
noncomputable def Zxj (x1:Graph):Option Bool:=
 ifb (decide (x1.N≤10)) (
 (Zka x1).bind fun x2=>
 Zwj x2) (
 Zwj false)
theorem k_narthexref14_Small (x1:Graph) (r:Bool) (h:Zxj x1=some r):Zq2 Tryz.prog 24 [.agg (Graph.row x1)] (.bv r):=by
 refine Zu2 ok24 rfl rfl fun w0 H0=>?_
 rw [Zxj] at h
 refine Zl2 11 ?_;dsimp only [e24,go_sem];refine ⟨by simp,?_⟩;refine Zl4 (fun (x3:Bool)=>(⟨(.any :: .any :: .bv x3::an 7 []),[],[]⟩:St)) Zwj r ?_ fun J1=>?_
 ·intro x3 h;rw [Zwj] at h;(try dsimp only);exact Zx4 (res:=fun (r:Bool)=>.bv r) ok24 h
 ·refine Zw4 6 h rfl (fun _ h=>?_) fun _ h=>?_
  ·dsimp only [go_sem];refine Zl2 1 ?_;dsimp only [e24,go_sem];refine ⟨by simp,?_⟩;obtain ⟨x2,ex2,h⟩:=Option.bind_eq_some_iff.1 h;refine Zz2 trivial (Zla x1 _ ex2) (h:=?_);refine Zl2 3 ?_;dsimp only [e24,go_sem];refine ⟨by simp,?_⟩;exact Zz4 J1 (s:=x2) h
  ·dsimp only [go_sem];refine Zl2 5 ?_;dsimp only [e24,go_sem];refine ⟨by simp,?_⟩;exact Zz4 J1 (s:=false) h
def mailB (e:Edge) (k ep:Int) (m:Mail):Bool:=decide (m.Msg.Kind=k)&&(decide (m.Msg.Epoch=ep)&&(decide (min m.From m.To=min e.A e.B)&&decide (max m.From m.To=max e.A e.B)))
def Zyj (M:List Mail) (e:Edge) (k ep:Int):Nat:=M.countP (mailB e k ep)
theorem Zzj (M:List Mail) (m:Mail) (e:Edge) (k ep:Int):Zyj (M++[m]) e k ep=Zyj M e k ep+bn (mailB e k ep m):=by
 unfold Zyj
 rw [List.countP_append,List.countP_cons]
 cases mailB e k ep m<;>simp [bn]
theorem countM_le (M:List Mail) (e:Edge) (k ep:Int):Zyj M e k ep≤M.length:=List.countP_le_length
theorem s_countL2 (s:Scene) (e:Edge) (k:Int) (x:Side) (n:Nat) (hn:n≤2) (hM:s.Mail.length≤900000):loop (Z1j s e k x) ((n:Int),0)=some ((n+Zyj s.Mail e k x.Epoch:Nat):Int):=by
 have key:=Z39 s.Mail (Z1j s e k x) (fun pre=>(((n+Zyj pre e k x.Epoch:Nat):Int),(pre.length:Int))) ((n+Zyj s.Mail e k x.Epoch:Nat):Int) (fun pre m post h=>?_) ?_
 ·exact key
 ·have hx:=Z49 h
  have hm:=Z59 h
  have hc:=countM_le pre e k x.Epoch
  dsimp only [Z1j]
  rw [Zq5 hx,Zk5,Zo5 hx,Option.bind_some,Zzj,Z79]
  have step:∀z,Z0j ((n+Zyj pre e k x.Epoch:Nat):Int) (pre.length:Int) z=some (.inl (((n+(Zyj pre e k x.Epoch+bn z):Nat):Int),((pre.length+1:Nat):Int))):=fun z=>by
   cases z with
   | true=>dsimp only [Z0j,Zzi];rw [Zk5,Zs5 (by omega),Zs5 (by omega)];rfl
   | false=>dsimp only [Z0j,Zzi];rw [Zl5,Zs5 (by omega)];rfl
  unfold mailB
  cases h1:decide (m.Msg.Kind=k) with
  | false=>rw [Zl5,step,Bool.false_and]
  | true=>
    cases h2:decide (m.Msg.Epoch=x.Epoch) with
    | false=>rw [Zk5,Zl5,step,Bool.true_and,Bool.false_and]
    | true=>
      cases h3:decide (min m.From m.To=min e.A e.B) with
      | false=>rw [Zk5,Zk5,Zl5,step,Bool.true_and,Bool.true_and,Bool.false_and]
      | true=>rw [Zk5,Zk5,Zk5,step,Bool.true_and,Bool.true_and,Bool.true_and]
 ·dsimp only [Z1j]
  rw [Zr5,Zl5];rfl
theorem s_countL4 (s:Scene) (e:Edge) (k:Int) (x:Side) (n:Nat) (hn:n≤2) (hM:s.Mail.length≤900000):loop (Z8j s e k x) ((n:Int),0)=some ((n+Zyj s.Mail e k x.Epoch:Nat):Int):=by
 have key:=Z39 s.Mail (Z8j s e k x) (fun pre=>(((n+Zyj pre e k x.Epoch:Nat):Int),(pre.length:Int))) ((n+Zyj s.Mail e k x.Epoch:Nat):Int) (fun pre m post h=>?_) ?_
 ·exact key
 ·have hx:=Z49 h
  have hm:=Z59 h
  have hc:=countM_le pre e k x.Epoch
  dsimp only [Z8j]
  rw [Zq5 hx,Zk5,Zo5 hx,Option.bind_some,Zzj,Z79]
  have step:∀z,Z7j ((n+Zyj pre e k x.Epoch:Nat):Int) (pre.length:Int) z=some (.inl (((n+(Zyj pre e k x.Epoch+bn z):Nat):Int),((pre.length+1:Nat):Int))):=fun z=>by
   cases z with
   | true=>dsimp only [Z7j,Z6j];rw [Zk5,Zs5 (by omega),Zs5 (by omega)];rfl
   | false=>dsimp only [Z7j,Z6j];rw [Zl5,Zs5 (by omega)];rfl
  unfold mailB
  cases h1:decide (m.Msg.Kind=k) with
  | false=>rw [Zl5,step,Bool.false_and]
  | true=>
    cases h2:decide (m.Msg.Epoch=x.Epoch) with
    | false=>rw [Zk5,Zl5,step,Bool.true_and,Bool.false_and]
    | true=>
      cases h3:decide (min m.From m.To=min e.A e.B) with
      | false=>rw [Zk5,Zk5,Zl5,step,Bool.true_and,Bool.true_and,Bool.false_and]
      | true=>rw [Zk5,Zk5,Zk5,step,Bool.true_and,Bool.true_and,Bool.true_and]
 ·dsimp only [Z8j]
  rw [Zr5,Zl5];rfl
theorem s_countS1 (s:Scene) (e:Edge) (k:Int) (x y:Side):loop (Z4j s e k x y) (0,0)=Z2j s e k x ((bn x.Fork+bn y.Fork:Nat):Int):=by
 have ef:(([x,y].countP (·.Fork):Nat):Int)=((bn x.Fork+bn y.Fork:Nat):Int):=by
  rw [List.countP_cons,List.countP_cons,List.countP_nil]
  cases x.Fork<;>cases y.Fork<;>rfl
 rw [←ef]
 refine Z29 [x,y] (Z4j s e k x y) (fun pre=>(((pre.countP (·.Fork):Nat):Int),(pre.length:Int))) (fun _ _=>Z2j s e k x (([x,y].countP (·.Fork):Nat):Int)) (fun pre z post h=>.inl ⟨?_,rfl⟩) ?_
 ·have hx:=Z49 h
  have hm:=Z59 h
  have h2:pre.length<2:=hm
  have hc:pre.countP (·.Fork)≤pre.length:=List.countP_le_length
  dsimp only [Z4j,Zsi,Z3j]
  rw [Zq5 hx,Zk5,Zo5 hx,Option.bind_some,Option.bind_some,Z79,List.countP_append,List.countP_cons,List.countP_nil,Zs5 (by omega),Zs5 (by omega)]
  cases z.Fork<;>rfl
 ·dsimp only [Z4j]
  rw [Zr5,Zl5]
theorem s_countS3 (s:Scene) (e:Edge) (k:Int) (x y:Side):loop (Zbj s e k x y) (0,0)=Z9j s e k x ((bn x.Token+bn y.Token:Nat):Int):=by
 have ef:(([x,y].countP (·.Token):Nat):Int)=((bn x.Token+bn y.Token:Nat):Int):=by
  rw [List.countP_cons,List.countP_cons,List.countP_nil]
  cases x.Token<;>cases y.Token<;>rfl
 rw [←ef]
 refine Z29 [x,y] (Zbj s e k x y) (fun pre=>(((pre.countP (·.Token):Nat):Int),(pre.length:Int))) (fun _ _=>Z9j s e k x (([x,y].countP (·.Token):Nat):Int)) (fun pre z post h=>.inl ⟨?_,rfl⟩) ?_
 ·have hx:=Z49 h
  have hm:=Z59 h
  have h2:pre.length<2:=hm
  have hc:pre.countP (·.Token)≤pre.length:=List.countP_le_length
  dsimp only [Zbj,Zui,Zaj]
  rw [Zq5 hx,Zk5,Zo5 hx,Option.bind_some,Option.bind_some,Z79,List.countP_append,List.countP_cons,List.countP_nil,Zs5 (by omega),Zs5 (by omega)]
  cases z.Token<;>rfl
 ·dsimp only [Zbj]
  rw [Zr5,Zl5]
def countS (s:Scene) (e:Edge) (k:Int):Nat:=
 if Z8h s e.A&&Z8h s e.B then
  match s.Diners[e.A.toNat]?,s.Diners[e.B.toNat]? with
  | some da,some db=>match Ze9 da e.B,Ze9 db e.A with
    | some x,some y=>if decide (x.Epoch=y.Epoch)&&(decide (k=1)||decide (k=2)) then bn (has x k)+bn (has y k)+Zyj s.Mail e k x.Epoch else 0
    | _,_=>0
  | _,_=>0
 else 0
theorem s_Count (s:Scene) (e:Edge) (k:Int) (hD:Zd9 s.Diners) (hM:s.Mail.length≤900000):Zgj s e k=some (countS s e k:Int):=by
 simp only [Zgj,s_there,Option.bind_some]
 unfold countS
 cases ha:Z8h s e.A with
 | false=>rfl
 | true=>
   cases hb:Z8h s e.B with
   | false=>rfl
   | true=>
     obtain ⟨da,a1,a2⟩:=Zah ha
     obtain ⟨db,b1,b2⟩:=Zah hb
     have la:=hD.2 da (List.mem_iff_getElem?.2 ⟨_,a2⟩)
     have lb:=hD.2 db (List.mem_iff_getElem?.2 ⟨_,b2⟩)
     simp only [Bool.not_true,Zl5,Zfj,a1,a2,b1,b2,Option.bind_some,Zej,s_Side da e.B (by omega),s_Side db e.A (by omega),Bool.and_self,if_true,Zdj]
     cases hx:Ze9 da e.B with
     | none=>rfl
     | some x=>
       cases hy:Ze9 db e.A with
       | none=>rfl
       | some y=>
         simp only [sideP,Bool.not_true,Zl5,Zcj]
         by_cases he:x.Epoch=y.Epoch
         ·by_cases h1:k=1
          ·subst h1
           have n2:bn x.Fork+bn y.Fork≤2:=by cases x.Fork<;>cases y.Fork<;>decide
           simp only [decide_true,Zk5,s_countS1,Z2j,s_countL2 s e 1 x _ n2 hM]
           simp [he,has]
          ·by_cases h2:k=2
           ·subst h2
            have n2:bn x.Token+bn y.Token≤2:=by cases x.Token<;>cases y.Token<;>decide
            simp only [Zl5,show decide ((2:Int)=1)=false from rfl,decide_true,Zk5,s_countS3,Z9j,s_countL4 s e 2 x _ n2 hM]
            simp [he,has]
           ·simp [he,h1,h2]
         ·simp [he]
def Z0k (l:List Diner) (p:Int):List Int:=(l.filter fun d=>decide (d.Phase=p)).map (·.ID)
theorem s_Phases (s:Scene) (p:Int) (hD:Zd9 s.Diners):Zlj s p=some (Z0k s.Diners p):=by
 unfold Zlj
 refine Z39 s.Diners (Zkj s p) (fun pre=>((pre.length:Int),Z0k pre p)) _ (fun pre d post h=>?_) ?_
 ·have hx:=Z49 h
  have hm:=Z59 h
  have:=hD.1
  have hl:(Z0k pre p).length≤pre.length:=by unfold Z0k;rw [List.length_map];exact List.length_filter_le _ _
  have e:Z0k (pre++[d]) p=if d.Phase=p then Z0k pre p++[d.ID] else Z0k pre p:=by
   unfold Z0k
   by_cases hp:d.Phase=p<;>simp [hp]
  dsimp only [Zkj]
  rw [Zq5 hx,Zk5,Zo5 hx,Option.bind_some,e,Z79]
  by_cases hp:d.Phase=p
  ·rw [decide_eq_true hp,Zk5,Zp5 _ _ (by omega) (by simp only [List.length_singleton];omega),Option.bind_some,if_pos hp]
   dsimp only [Zjj];rw [Zs5 (by omega)]
  ·rw [decide_eq_false hp,Zl5,if_neg hp]
   dsimp only [Zjj];rw [Zs5 (by omega)]
 ·dsimp only [Zkj]
  rw [Zr5,Zl5];rfl
theorem fireMs_small {d:Diner} (h:okD d=true):(Zie d).length≤128:=by
 have h1:=Zae h
 have h2:=Zje d.Sides d.ID d.Phase
 unfold Zie
 omega
theorem actP_mail {s:Scene} {a:Int} {r:Diner×Int} (h:(actP s a r).2=0):(actP s a r).1.Mail.length≤s.Mail.length+128:=by
 unfold actP at h ⊢
 split at h
 ·rename_i h1
  split at h
  ·rename_i h2
   rw [if_pos h1,if_pos h2]
   have:=fireMs_small h2
   simp only [actS,List.length_append];omega
  ·simp at h
 ·exact absurd h (by assumption)
theorem Z1k {s:Scene} {a:Int} {q:Diner→Diner×Int} (h:(Z9h s a q).2=0):(Z9h s a q).1.Mail.length≤s.Mail.length+128:=by
 unfold Z9h at h ⊢
 cases hk:okS s with
 | false=>rw [hk] at h;simp at h
 | true=>
   rw [hk] at h
   simp only [if_true] at h ⊢
   cases ht:Z8h s a with
   | false=>rw [ht] at h;simp at h
   | true=>
     rw [ht] at h
     simp only [if_true] at h ⊢
     obtain ⟨d,hd,_⟩:=Zah ht
     rw [hd] at h ⊢
     exact actP_mail h
theorem delivS_mail {s:Scene} {a b:Int} (h:(Zch s a b).2=0):(Zch s a b).1.Mail.length≤s.Mail.length+128:=by
 unfold Zch at h ⊢
 cases hk:okS s with
 | false=>rw [hk] at h;simp at h
 | true=>
   rw [hk] at h
   simp only [if_true] at h ⊢
   cases ht:(Z8h s a&&Z8h s b) with
   | false=>rw [ht] at h;simp at h
   | true=>
     rw [ht] at h
     simp only [if_true] at h ⊢
     cases hi:Zbh s a b with
     | none=>rw [hi] at h;simp at h
     | some i=>
       rw [hi] at h
       simp only at h ⊢
       split at h
       ·rename_i m d hm hd
        have:=actP_mail h
        simp only [List.length_append,List.length_take,List.length_drop] at this
        refine Nat.le_trans this ?_
        omega
       ·simp at h
theorem actA_mail {s:Scene} {k a b:Int} (h:(Zeh s k a b).2=0):(Zeh s k a b).1.Mail.length≤s.Mail.length+128:=by
 unfold Zeh at h ⊢
 split at h
 ·rename_i h1;rw [if_pos h1];exact Z1k h
 ·rename_i h1
  rw [if_neg h1]
  split at h
  ·rename_i h2;rw [if_pos h2];exact Z1k h
  ·rename_i h2;rw [if_neg h2];exact delivS_mail h
def actT (s:Scene) (a:narthexlaw14_Act):Scene:=if (Zeh s a.K a.A a.B).2=0 then (Zeh s a.K a.A a.B).1 else s
def Z2k (g:Graph) (l:List narthexlaw14_Act):Scene:=l.foldl actT (Zli g)
theorem Inv.first {g:Graph} (hg:okG g=true):Inv g (Zli g):=Inv.init hg (Zki hg).1
theorem s_run14 {g:Graph} (hg:okG g=true) (hN:g.N≤60) {J:Scene→Prop} (hJ:∀s,J s→Inv g s) (h0:J (Zli g)) (hs:∀s k a b,J s→(Zeh s k a b).2=0→J (Zeh s k a b).1)
  (l:List narthexlaw14_Act) (hl:l.length≤80) (p:Scene→Option Bool) (hp:∀s,J s→s.Mail.length≤20000→p s=some true):
  Zvj g l p=some (Z2k g l,true)∧J (Z2k g l)∧(Z2k g l).Mail.length≤128*l.length:=by
 have inv:∀(l:List narthexlaw14_Act) s,J s→J (l.foldl actT s)∧(l.foldl actT s).Mail.length≤s.Mail.length+128*l.length:=fun l=>by
  induction l with
  | nil=>exact fun s h=>⟨h,by simp⟩
  | cons a l ih=>
    intro s h
    have h1:J (actT s a)∧(actT s a).Mail.length≤s.Mail.length+128:=by
     unfold actT
     split
     ·rename_i h2;exact ⟨hs _ _ _ _ h h2,actA_mail h2⟩
     ·exact ⟨h,by omega⟩
    have h3:=ih _ h1.1
    rw [List.foldl_cons,List.length_cons]
    exact ⟨h3.1,by omega⟩
 have e0:(Zli g).Mail.length=0:=rfl
 have hrun:=inv l (Zli g) h0
 refine ⟨?_,hrun.1,by have:=hrun.2;rw [e0] at this;unfold Z2k;omega⟩
 obtain ⟨g1,g2,g3,_,_⟩:=Zp7 hg
 simp only [Zvj,s_Own03 g (by omega),Option.bind_some,s_New,hg,if_true,decide_true,Bool.not_true,Zl5,hp _ h0 (by rw [e0];omega),Zuj]
 refine Z29 l (Ztj l p) (fun pre=>((pre.length:Int),Z2k g pre)) (fun _ _=>some (Z2k g l,true)) (fun pre a post h=>.inl ⟨?_,rfl⟩) ?_
 ·have hx:=Z49 h
  have hm:=Z59 h
  obtain ⟨k1,k2⟩:=inv pre (Zli g) h0
  rw [e0] at k2
  have k1':J (Z2k g pre):=k1
  have k2':(Z2k g pre).Mail.length≤128*pre.length:=by unfold Z2k;omega
  have hI:=hJ _ k1'
  have er:Z2k g (pre++[a])=actT (Z2k g pre) a:=by unfold Z2k;rw [List.foldl_append];rfl
  obtain ⟨ak,aa,ab⟩:=a
  obtain ⟨f1,f2⟩:=actA_inv hg hN hI ak aa ab
  have hT:=inv [⟨ak,aa,ab⟩] (Z2k g pre) k1'
  simp only [List.foldl_cons,List.foldl_nil,List.length_singleton] at hT
  have pT:p (actT (Z2k g pre) ⟨ak,aa,ab⟩)=some true:=hp _ hT.1 (by omega)
  dsimp only [Ztj]
  rw [Zq5 hx,Zk5,Zo5 hx,Option.bind_some,s_own14 _ (hI.few hg) (by omega),Option.bind_some,s_act14 _ ak aa ab (hI.few hg) (by omega),Option.bind_some,er,Z79]
  have ej:∀z:Scene,p z=some true→Zqj p (pre.length:Int) z=some (.inl (((pre.length+1:Nat):Int),z)):=fun z hz=>by
   dsimp only [Zqj]
   rw [hz,Option.bind_some,Zs5 (by omega)];rfl
  have e3:Zsj p (pre.length:Int) (Z2k g pre) ((Zeh (Z2k g pre) ak aa ab).2,(Zeh (Z2k g pre) ak aa ab).1)=Zrj p (pre.length:Int) (Z2k g pre) (Zeh (Z2k g pre) ak aa ab).2 (Zeh (Z2k g pre) ak aa ab).1 false:=by
   unfold fineE at f1
   dsimp only [Zsj]
   cases c1:decide ((Zeh (Z2k g pre) ak aa ab).2=0) with
   | true=>rfl
   | false=>
     cases c2:decide ((Zeh (Z2k g pre) ak aa ab).2=134) with
     | true=>rfl
     | false=>
       cases c3:decide ((Zeh (Z2k g pre) ak aa ab).2=141) with
       | true=>rfl
       | false=>
         rw [c1,c2,c3,Bool.false_or,Bool.false_or,Bool.false_or] at f1
         rw [f1];rfl
  rw [e3]
  dsimp only [Zrj]
  rw [Zl5]
  unfold actT at pT ⊢
  dsimp only at pT ⊢
  by_cases hz:(Zeh (Z2k g pre) ak aa ab).2=0
  ·rw [if_pos hz] at pT ⊢
   rw [decide_eq_true hz,Zk5,ej _ pT]
  ·rw [if_neg hz] at pT ⊢
   rw [decide_eq_false hz,Zl5,ej _ pT]
 ·dsimp only [Ztj]
  rw [Zr5,Zl5];rfl
theorem s_Small (g:Graph):Zxj g=some (decide (g.N≤10)&&okG g):=by
 simp only [Zxj,s_r03Check,Option.bind_some,Zwj]
 cases decide (g.N≤10)<;>rfl
theorem Inv.get {g:Graph} {s:Scene} (h:Inv g s) {a:Int} (h0:0≤a) (h1:a<g.N):∃d,s.Diners[a.toNat]?=some d:=by
 have:=h.len
 exact ⟨_,List.getElem?_eq_getElem (by omega)⟩
theorem Inv.sided {g:Graph} {s:Scene} (h:Inv g s) {a:Int} (h0:0≤a) {d:Diner} (hd:s.Diners[a.toNat]?=some d) {b:Int} (hb:b∈Zwb g a):∃x,Ze9 d b=some x∧x∈d.Sides:=by
 have h1:=(h.shp _ _ hd).2
 rw [Int.toNat_of_nonneg h0] at h1
 have:(Ze9 d b).isSome=true:=by rw [Zke,h1];exact decide_eq_true hb
 obtain ⟨x,hx⟩:=Option.isSome_iff_exists.1 this
 exact ⟨x,hx,(Zve hx).1⟩
theorem mem_phases {g:Graph} {s:Scene} (h:Inv g s) {p a:Int} (ha:a∈Z0k s.Diners p):∃d,s.Diners[a.toNat]?=some d∧0≤a∧d.ID=a∧d.Phase=p:=by
 unfold Z0k at ha
 obtain ⟨d,hd,rfl⟩:=List.mem_map.1 ha
 rw [List.mem_filter,decide_eq_true_eq] at hd
 obtain ⟨k,hk⟩:=List.mem_iff_getElem?.1 hd.1
 have:=h.ids k d hk
 refine ⟨d,?_,by omega,rfl,hd.2⟩
 rw [this,Int.toNat_natCast];exact hk
theorem phasesL_len (l:List Diner) (p:Int):(Z0k l p).length≤l.length:=by
 unfold Z0k;rw [List.length_map];exact List.length_filter_le _ _
theorem actP_none {s:Scene} {a:Int} {r:Diner×Int} (h:(actP s a r).2≠0):(actP s a r).1=Z6h:=by
 unfold actP at h ⊢
 split
 ·rename_i h1
  split
  ·rename_i h2
   rw [if_pos h1,if_pos h2] at h;simp at h
  ·rfl
 ·rfl
theorem Z3k {s:Scene} {a:Int} {q:Diner→Diner×Int} (h:(Z9h s a q).2≠0):(Z9h s a q).1=Z6h:=by
 unfold Z9h at h ⊢
 cases hk:okS s with
 | false=>rfl
 | true=>
   rw [hk] at h
   simp only [if_true] at h ⊢
   cases ht:Z8h s a with
   | false=>rfl
   | true=>
     rw [ht] at h
     simp only [if_true] at h ⊢
     obtain ⟨d,hd,_⟩:=Zah ht
     rw [hd] at h ⊢
     exact actP_none h
theorem delivS_none {s:Scene} {a b:Int} (h:(Zch s a b).2≠0):(Zch s a b).1=Z6h:=by
 unfold Zch at h ⊢
 cases hk:okS s with
 | false=>rfl
 | true=>
   rw [hk] at h
   simp only [if_true] at h ⊢
   cases ht:(Z8h s a&&Z8h s b) with
   | false=>rfl
   | true=>
     rw [ht] at h
     simp only [if_true] at h ⊢
     cases hi:Zbh s a b with
     | none=>rfl
     | some i=>
       rw [hi] at h
       simp only at h ⊢
       split
       ·rename_i m d hm hd
        rw [hm,hd] at h
        exact actP_none h
       ·rfl
theorem actA_none {s:Scene} {k a b:Int} (hk:k=0∨k=1∨k=2) (h:(Zeh s k a b).2≠0):(Zeh s k a b).1=Z6h:=by
 unfold Zeh at *
 rcases hk with rfl | rfl | rfl
 ·exact Z3k h
 ·exact Z3k h
 ·exact delivS_none h
set_option maxRecDepth 100000
set_option maxHeartbeats 4000000
def Z4k:EC:=.seq (.reg [(Qa 14 (.bin .lss (.t 13) (.t 12)))]) (.seq (.ite (.t 14) (.skip) (.exit 0)) (.seq (.blk 1 (.seq (.reg [(Qa 15 (.mv (.t 13))),(Qa 5 (.mv (.t 15)))]) (.seq (.drw [(Qa 16 (.mv (.t 0))),(Qa 17 (.mv (.t 5))),(Qa 18 (.idx 5 (.t 16) (.t 17))),(Qa 19 (.loadA 5 (.t 18))),(Qa 20 (.mv (.t 1))),(Qa 21 (.mv (.t 5))),(Qa 22 (.idx 5 (.t 20) (.t 21))),(Qa 23 (.loadA 5 (.t 22))),(Qa 24 (.eqs true [true,true,true,true,true] (.t 19) (.t 23)))] [[],[],[0,1],[2],[],[],[4,5],[6],[3,7]] [[2],[2],[0,1,3],[2,8],[6],[6],[4,5,7],[6,8],[3,7]]) (.ite (.t 24) (.seq (.reg [(Qa 4 (.mv (.c .ff)))]) (.ret)) (.skip))))) (.reg [(Qa 25 (.bin .add (.t 13) (.c (.iv 1)))),(Qa 13 (.mv (.t 25)))])))
def e54:EC:=.seq (.reg [(Qa 4 (.mv (.c .ff)))]) (.seq (.seq (.reg [(Qa 6 (.mv (.t 0))),(Qa 7 (.len (.t 6))),(Qa 8 (.mv (.t 1))),(Qa 9 (.len (.t 8))),(Qa 10 (.bin .neq (.t 7) (.t 9)))]) (.ite (.t 10) (.seq (.reg [(Qa 4 (.mv (.c .ff)))]) (.ret)) (.skip))) (.seq (.seq (.reg [(Qa 11 (.mv (.t 0))),(Qa 12 (.len (.t 11))),(Qa 13 (.mv (.c (.iv 0))))]) (.blk 0 (.loop Z4k))) (.seq (.reg [(Qa 4 (.mv (.c .tt)))]) (.ret))))
theorem ok54:FnOK Tryz.prog 54 Tryz.f54 e54 [.t 4] 2 24:=⟨by kernel_rfl,⟨_,rfl,by kernel_rfl⟩,by kernel_rfl,by kernel_rfl⟩
noncomputable def Z5k:Unit→Option Bool
| ()=>
 some true
noncomputable def Z6k (x1:(List Mail)) (x2:(List Mail)):Int→Option (Int ⊕ Bool)
| x6=>
 ifb (decide (x6<(ln Mail.row x1))) (
 (at_ x1 x6).bind fun x7=>
 (at_ x2 x6).bind fun x8=>
 ifb (!(decide (x7.From=x8.From)&&(decide (x7.To=x8.To)&&(decide (x7.Msg.Kind=x8.Msg.Kind)&&(decide (x7.Msg.Epoch=x8.Msg.Epoch)&&(decide (x7.Msg.Num=x8.Msg.Num)&&true)))))) (
 Option.map Sum.inr (some false)) (
 some (.inl (wr (x6+1))))) (
 Option.map Sum.inr (Z5k ()))
noncomputable def Z7k (x1:(List Mail)) (x2:(List Mail)):Option Bool:=
 ifb (!decide ((ln Mail.row x1)=(ln Mail.row x2))) (
 some false) (
 loop (Z6k x1 x2) 0)
theorem Z8k (x1:(List Mail)) (x2:(List Mail)) (r:Bool) (h:Z7k x1 x2=some r):Zq2 Tryz.prog 54 [.sl 5 (List.map Mail.row x1),.sl 5 (List.map Mail.row x2)] (.bv r):=by
 refine Zu2 ok54 rfl rfl fun w0 H0=>?_
 rw [Z7k] at h
 refine Zl2 13 ?_;dsimp only [e54,Z4k,go_sem];refine ⟨by simp,?_⟩;refine Zn4 h rfl (fun _ h=>?_) fun _ h=>?_
 ·refine Zl2 4 ?_;dsimp only [e54,Z4k,go_sem];refine ⟨by simp,?_⟩;exact Zx4 (res:=fun (r:Bool)=>.bv r) ok54 h
 ·refine Zl2 8 ?_;dsimp only [e54,Z4k,go_sem];refine ⟨by simp,?_⟩;refine Zl4 (fun (_:Unit)=>(⟨(an 26 []),[],[]⟩:St)) Z5k r ?_ fun J1=>?_
  ·rintro ⟨⟩ h;rw [Z5k] at h;(try dsimp only);refine Zl2 4 ?_;dsimp only [e54,Z4k,go_sem];refine ⟨by simp,?_⟩;exact Zx4 (res:=fun (r:Bool)=>.bv r) ok54 h
  ·refine Zl2 1 ?_;dsimp only [e54,Z4k,go_sem];refine ⟨by simp,?_⟩;refine Zm4 h (fun (x6:Int)=>(⟨(.sl 5 (List.map Mail.row x1) :: .sl 5 (List.map Mail.row x2)::an 10 (.iv (ln Mail.row x1) :: .iv x6::an 12 [])),[],[]⟩:St)) (by simp [go_sem]) (by intro x6;first | rfl | simp [go_sem]) ?_;rintro n1 x6 y1 h hin1 hout1;rw [Z6k] at h;(try dsimp only);refine Zl2 5 ?_;dsimp only [e54,Z4k,go_sem];refine ⟨by simp,?_⟩;refine Zn4 h rfl (fun _ h=>?_) fun _ h=>?_
   ·refine Zl2 9 ?_;dsimp only [e54,Z4k,go_sem];refine ⟨by simp,?_⟩;refine Zh3 (by kernel_rfl) fun all hall hs hnap haf=>?_;dsimp only [go_sem];refine Zh5 hall hs haf hnap 4 5 ?_;dsimp only [go_sem];refine ⟨by simp,?_⟩;obtain ⟨x7,ex7,h⟩:=Option.bind_eq_some_iff.1 h;refine Zr4 hall hs haf hnap 2 Mail.row ex7 rfl rfl trivial rfl rfl rfl rfl ?_;refine Zh5 hall hs haf hnap 1 3 ?_;dsimp only [go_sem];refine ⟨by simp,?_⟩;obtain ⟨x8,ex8,h⟩:=Option.bind_eq_some_iff.1 h;refine Zr4 hall hs haf hnap 6 Mail.row ex8 rfl rfl trivial rfl rfl rfl rfl ?_
    refine Zh5 hall hs haf hnap 2 0 ?_;dsimp only [go_sem];refine ⟨by simp,?_⟩;refine Zs3 rfl ?_ _;refine Zn4 h rfl (fun _ h=>?_) fun _ h=>?_
    ·refine Zl2 4 ?_;dsimp only [e54,Z4k,go_sem];refine ⟨by simp,?_⟩;exact Zx4 (res:=fun (r:Bool)=>.bv r) ok54 (Zk4 h hout1)
    ·refine Zl2 6 ?_;dsimp only [e54,Z4k,go_sem];refine ⟨by simp,?_⟩;exact Zy4 h hin1
   ·refine Zl2 1 ?_;dsimp only [e54,Z4k,go_sem];refine ⟨by simp,?_⟩;exact Zz4 J1 (s:=()) (Zk4 h hout1)
set_option maxRecDepth 100000
set_option maxHeartbeats 4000000
def e19:EC:=.seq (.reg [(Qa 2 (.box 25 2 (.t 0))),(Qa 3 (.box 25 2 (.t 1))),(Qa 4 (.mv (.c .ff)))]) (.seq (.reg [(Qa 5 (.fld 0 (.t 2))),(Qa 6 (.load (.t 5))),(Qa 7 (.fld 0 (.t 3))),(Qa 8 (.load (.t 7))),(Qa 9 (.call 53 [(.t 6),(.t 8)])),(Qa 10 (.mv (.t 9))),(Qg 11 10 true (.fld 1 (.t 2))),(Qg 12 10 true (.load (.t 11))),(Qg 13 10 true (.fld 1 (.t 3))),(Qg 14 10 true (.load (.t 13))),(Qg 15 10 true (.call 54 [(.t 12),(.t 14)])),(Qa 16 (.pick (.t 10) (.t 15) (.c .ff))),(Qa 4 (.mv (.t 16)))]) (.ret))
theorem ok19:FnOK Tryz.prog 19 Tryz.f19 e19 [.t 4] 2 15:=⟨by kernel_rfl,⟨_,rfl,by kernel_rfl⟩,by kernel_rfl,by kernel_rfl⟩
noncomputable def Z9k:Bool→Option Bool
| x5=>
 some x5
noncomputable def Zak (x1:Scene) (x2:Scene):Option Bool:=
 (Z48 x1.Diners x2.Diners).bind fun x3=>
 ifb x3 (
 (Z7k x1.Mail x2.Mail).bind fun x4=>
 Z9k x4) (
 Z9k false)
theorem Zbk (x1:Scene) (x2:Scene) (r:Bool) (h:Zak x1 x2=some r):Zq2 Tryz.prog 19 [.agg (Scene.row x1),.agg (Scene.row x2)] (.bv r):=by
 refine Zu2 ok19 rfl rfl fun w0 H0=>?_
 rw [Zak] at h
 refine Zl2 12 ?_;dsimp only [e19,go_sem];refine ⟨by simp,?_⟩;obtain ⟨x3,ex3,h⟩:=Option.bind_eq_some_iff.1 h;refine Zz2 trivial (k_place_Same x1.Diners x2.Diners _ ex3) (h:=?_);refine Zl2 1 ?_;dsimp only [e19,go_sem];refine ⟨by simp,?_⟩;refine Zl4 (fun (x5:Bool)=>(⟨(an 4 (.bv x5::an 12 [])),[],[]⟩:St)) Z9k r ?_ fun J1=>?_
 ·intro x5 h;rw [Z9k] at h;(try dsimp only);exact Zx4 (res:=fun (r:Bool)=>.bv r) ok19 h
 ·refine Zw4 10 h rfl (fun _ h=>?_) fun _ h=>?_
  ·dsimp only [go_sem];refine Zl2 4 ?_;dsimp only [e19,go_sem];refine ⟨by simp,?_⟩;obtain ⟨x4,ex4,h⟩:=Option.bind_eq_some_iff.1 h;refine Zz2 trivial (Z8k x1.Mail x2.Mail _ ex4) (h:=?_);refine Zl2 3 ?_;dsimp only [e19,go_sem];refine ⟨by simp,?_⟩;exact Zz4 J1 (s:=x4) h
  ·dsimp only [go_sem];refine Zl2 8 ?_;dsimp only [e19,go_sem];refine ⟨by simp,?_⟩;exact Zz4 J1 (s:=false) h
set_option maxRecDepth 100000
set_option maxHeartbeats 4000000
def e6:EC:=.seq (.reg [(Qa 0 (.mv (.c .ff)))]) (.seq (.reg [(Qa 16 (.build [.iv 0,.iv 0] [(0,1,(.c (.iv 0))),(1,1,(.c (.iv 1)))])),(Qa 17 (.bsl 29 2 1 [.iv 0,.iv 0] [(0,(.t 16))])),(Qa 18 (.build [.iv 0,.nl] [(0,1,(.c (.iv 2))),(1,1,(.t 17))])),(Qa 19 (.call 20 [(.t 18)])),(Qa 15 (.mv (.t 19))),(Qa 20 (.ext (.t 15) 0)),(Qa 21 (.ext (.t 15) 1)),(Qa 1 (.alloc 25 [.nl,.nl])),(Qb (.store 2 (.t 1) (.t 20))),(Qa 2 (.mv (.t 21)))]) (.seq (.seq (.reg [(Qa 22 (.mv (.t 2))),(Qa 23 (.bin .neq (.t 22) (.c (.iv 0)))),(Qa 24 (.mv (.t 23))),(Qg 25 24 false (.fld 0 (.t 1))),(Qg 26 24 false (.load (.t 25))),(Qg 27 24 false (.len (.t 26))),(Qg 28 24 false (.bin .neq (.t 27) (.c (.iv 2)))),(Qa 29 (.pick (.t 24) (.c .tt) (.t 28)))]) (.ite (.t 29) (.seq (.reg [(Qa 0 (.mv (.c .ff)))]) (.ret)) (.skip))) (.seq (.reg [(Qa 31 (.fld 0 (.t 1))),(Qa 32 (.load (.t 31))),(Qa 33 (.idx 3 (.t 32) (.c (.iv 0)))),(Qa 34 (.loadA 3 (.t 33))),(Qa 35 (.call 31 [(.t 34),(.c (.iv 1))])),(Qa 30 (.mv (.t 35))),(Qa 36 (.ext (.t 30) 0)),(Qa 37 (.ext (.t 30) 1)),(Qa 3 (.alloc 65 [.iv 0,.iv 0,.iv 0,.ff,.ff,.ff,.ff,.ff])),(Qb (.store 8 (.t 3) (.t 36))),(Qa 4 (.mv (.t 37)))]) (.seq (.reg [(Qa 5 (.mv (.c (.iv 0))))]) (.seq (.seq (.reg [(Qa 38 (.fld 3 (.t 3))),(Qa 39 (.load (.t 38)))]) (.ite (.t 39) (.reg [(Qa 5 (.mv (.c (.iv 1))))]) (.skip))) (.seq (.reg [(Qa 41 (.loadA 2 (.t 1))),(Qa 42 (.mv (.t 5))),(Qa 43 (.call 32 [(.t 41),(.t 42)])),(Qa 40 (.mv (.t 43))),(Qa 44 (.ext (.t 40) 0)),(Qa 45 (.ext (.t 40) 1)),(Qb (.store 2 (.t 1) (.t 44))),(Qa 6 (.mv (.t 45)))]) (.seq (.reg [(Qa 47 (.loadA 2 (.t 1))),(Qa 48 (.mv (.t 5))),(Qa 49 (.mv (.t 5))),(Qa 50 (.bin .sub (.c (.iv 1)) (.t 49))),(Qa 51 (.call 33 [(.t 47),(.t 48),(.t 50)])),(Qa 46 (.mv (.t 51))),(Qa 52 (.ext (.t 46) 0)),(Qa 53 (.ext (.t 46) 1)),(Qb (.store 2 (.t 1) (.t 52))),(Qa 7 (.mv (.t 53)))]) (.seq (.reg [(Qa 54 (.loadA 2 (.t 1))),(Qa 55 (.build [.iv 0,.iv 0] [(0,1,(.c (.iv 0))),(1,1,(.c (.iv 1)))])),(Qa 56 (.call 14 [(.t 54),(.t 55),(.c (.iv 1))])),(Qa 8 (.mv (.t 56)))]) (.seq (.reg [(Qa 58 (.loadA 2 (.t 1))),(Qa 59 (.mv (.t 5))),(Qa 60 (.bin .sub (.c (.iv 1)) (.t 59))),(Qa 61 (.mv (.t 5))),(Qa 62 (.call 33 [(.t 58),(.t 60),(.t 61)])),(Qa 57 (.mv (.t 62))),(Qa 63 (.ext (.t 57) 0)),(Qa 64 (.ext (.t 57) 1)),(Qb (.store 2 (.t 1) (.t 63))),(Qa 9 (.mv (.t 64)))]) (.seq (.reg [(Qa 65 (.loadA 2 (.t 1))),(Qa 66 (.call 17 [(.t 65),(.c (.iv 2))])),(Qa 10 (.mv (.t 66)))]) (.seq (.reg [(Qa 68 (.loadA 2 (.t 1))),(Qa 69 (.mv (.t 5))),(Qa 70 (.call 34 [(.t 68),(.t 69)])),(Qa 67 (.mv (.t 70))),(Qa 71 (.ext (.t 67) 0)),(Qa 72 (.ext (.t 67) 1)),(Qa 11 (.alloc 25 [.nl,.nl])),(Qb (.store 2 (.t 11) (.t 71))),(Qa 12 (.mv (.t 72)))]) (.seq (.reg [(Qa 74 (.loadA 2 (.t 1))),(Qa 75 (.call 33 [(.t 74),(.c (.iv 0)),(.c (.iv 1))])),(Qa 73 (.mv (.t 75))),(Qa 76 (.ext (.t 73) 0)),(Qa 77 (.ext (.t 73) 1)),(Qa 13 (.alloc 25 [.nl,.nl])),(Qb (.store 2 (.t 13) (.t 76))),(Qa 14 (.mv (.t 77)))]) (.seq (.reg [(Qa 78 (.mv (.t 6))),(Qa 79 (.bin .eql (.t 78) (.c (.iv 0)))),(Qa 80 (.mv (.t 79))),(Qg 81 80 true (.mv (.t 7))),(Qg 82 80 true (.bin .eql (.t 81) (.c (.iv 0)))),(Qa 83 (.pick (.t 80) (.t 82) (.c .ff))),(Qa 84 (.mv (.t 83))),(Qg 85 84 true (.mv (.t 8))),(Qg 86 84 true (.bin .eql (.t 85) (.c (.iv 1)))),(Qa 87 (.pick (.t 84) (.t 86) (.c .ff))),(Qa 88 (.mv (.t 87))),(Qg 89 88 true (.mv (.t 9))),(Qg 90 88 true (.bin .eql (.t 89) (.c (.iv 0)))),(Qa 91 (.pick (.t 88) (.t 90) (.c .ff))),(Qa 92 (.mv (.t 91))),(Qg 93 92 true (.mv (.t 10))),(Qg 94 92 true (.len (.t 93))),(Qg 95 92 true (.bin .eql (.t 94) (.c (.iv 1)))),(Qa 96 (.pick (.t 92) (.t 95) (.c .ff))),(Qa 97 (.mv (.t 96))),(Qg 98 97 true (.mv (.t 10))),(Qg 99 97 true (.idx 1 (.t 98) (.c (.iv 0)))),(Qg 100 97 true (.load (.t 99))),(Qg 101 97 true (.mv (.t 5))),(Qg 102 97 true (.bin .eql (.t 100) (.t 101))),(Qa 103 (.pick (.t 97) (.t 102) (.c .ff))),(Qa 104 (.mv (.t 103))),(Qg 105 104 true (.mv (.t 12))),(Qg 106 104 true (.bin .eql (.t 105) (.c (.iv 0)))),(Qa 107 (.pick (.t 104) (.t 106) (.c .ff))),(Qa 108 (.mv (.t 107))),(Qg 109 108 true (.mv (.t 14))),(Qg 110 108 true (.bin .eql (.t 109) (.c (.iv 141)))),(Qa 111 (.pick (.t 108) (.t 110) (.c .ff))),(Qa 112 (.mv (.t 111))),(Qg 113 112 true (.loadA 2 (.t 1))),(Qg 114 112 true (.call 12 [(.t 113)])),(Qg 115 112 true (.bin .eql (.t 114) (.c (.iv 0)))),(Qa 116 (.pick (.t 112) (.t 115) (.c .ff))),(Qa 117 (.mv (.t 116))),(Qg 118 117 true (.loadA 2 (.t 1))),(Qg 119 117 true (.loadA 2 (.t 1))),(Qg 120 117 true (.call 19 [(.t 118),(.t 119)])),(Qa 121 (.pick (.t 117) (.t 120) (.c .ff))),(Qa 122 (.mv (.t 121))),(Qg 123 122 true (.loadA 2 (.t 1))),(Qg 124 122 true (.loadA 2 (.t 11))),(Qg 125 122 true (.call 19 [(.t 123),(.t 124)])),(Qg 126 122 true (.not (.t 125))),(Qa 127 (.pick (.t 122) (.t 126) (.c .ff))),(Qa 0 (.mv (.t 127)))]) (.ret))))))))))))))
theorem ok6:FnOK Tryz.prog 6 Tryz.f6 e6 [.t 0] 0 128:=⟨by kernel_rfl,⟨_,rfl,by kernel_rfl⟩,by kernel_rfl,by kernel_rfl⟩
noncomputable def Zck:Bool→Option Bool
| x17=>
 some x17
noncomputable def Zdk (x1:(Scene×Int)):Int→Option Bool
| x5=>
 (Zdg x1.1 x5).bind fun x6=>
 (Zog x6.1 x5 (wr (1-x5))).bind fun x7=>
 (Zgj x7.1 ((Edge.mk 0 1)) 1).bind fun x8=>
 (Zog x7.1 (wr (1-x5)) x5).bind fun x9=>
 (Zlj x9.1 2).bind fun x10=>
 (Zfg x9.1 x5).bind fun x11=>
 (Zog x9.1 0 1).bind fun x12=>
 ifb (decide (x6.2=0)) (
 ifb (decide (x7.2=0)) (
 ifb (decide (x8=1)) (
 ifb (decide (x9.2=0)) (
 ifb (decide ((ln Z45 x10)=1)) (
 (at_ x10 0).bind fun x13=>
 ifb (decide (x13=x5)) (
 ifb (decide (x11.2=0)) (
 ifb (decide (x12.2=141)) (
 (Zgf x9.1).bind fun x14=>
 ifb (decide (x14=0)) (
 (Zak x9.1 x9.1).bind fun x15=>
 ifb x15 (
 (Zak x9.1 x11.1).bind fun x16=>
 Zck (!x16)) (
 Zck false)) (
 Zck false)) (
 Zck false)) (
 Zck false)) (
 Zck false)) (
 Zck false)) (
 Zck false)) (
 Zck false)) (
 Zck false)) (
 Zck false)
noncomputable def Zek (x1:(Scene×Int)):Bool→Option Bool
| x2=>
 ifb x2 (
 some false) (
 (at_ x1.1.Diners 0).bind fun x3=>
 (Zi8 x3 1).bind fun x4=>
 ifb x4.1.Fork (
 (Zdk x1) 1) (
 (Zdk x1) 0))
noncomputable def Zfk:Option Bool:=
 (Zdi ((Graph.mk 2 ([(Edge.mk 0 1)])))).bind fun x1=>
 ifb (!decide (x1.2=0)) (
 (Zek x1) true) (
 (Zek x1) (!decide ((ln Diner.row x1.1.Diners)=2)))
theorem k_narthexlaw14_awake (r:Bool) (h:Zfk=some r):Zq2 Tryz.prog 6 [] (.bv r):=by
 refine Zu2 ok6 rfl rfl fun w0 H0=>?_
 rw [Zfk] at h
 refine Zl2 9 ?_;dsimp only [e6,go_sem];refine ⟨by simp,?_⟩;refine Z83 0 rfl ?_;dsimp only [go_sem];obtain ⟨x1,ex1,h⟩:=Option.bind_eq_some_iff.1 h;refine Zz2 trivial (Zei ((Graph.mk 2 ([(Edge.mk 0 1)]))) _ ex1) (h:=?_);refine Zl2 13 ?_;dsimp only [e6,go_sem];refine ⟨by simp,?_⟩;refine Zl4 (fun (x2:Bool)=>(⟨(.any :: .ptr 0 0::an 27 (.bv x2::an 98 [])),[some ⟨25,[.sl 3 (List.map Diner.row x1.1.Diners),.sl 5 (List.map Mail.row x1.1.Mail)]⟩],[]⟩:St)) (Zek x1) r ?_ fun J1=>?_
 ·intro x2 h;rw [Zek] at h;(try dsimp only);refine Zn4 h rfl (fun _ h=>?_) fun _ h=>?_
  ·refine Zl2 4 ?_;dsimp only [e6,go_sem];refine ⟨by simp,?_⟩;exact Zx4 (res:=fun (r:Bool)=>.bv r) ok6 h
  ·refine Zl2 5 ?_;dsimp only [e6,go_sem];refine ⟨by simp,?_⟩;obtain ⟨x3,ex3,h⟩:=Option.bind_eq_some_iff.1 h;refine Zq4 Diner.row ex3 trivial rfl rfl rfl ?_;refine Zl2 1 ?_;dsimp only [e6,go_sem];refine ⟨by simp,?_⟩;obtain ⟨x4,ex4,h⟩:=Option.bind_eq_some_iff.1 h;refine Zz2 trivial (Zj8 x3 1 _ ex4) (h:=?_);refine Zl2 17 ?_;dsimp only [e6,go_sem];refine ⟨by simp,?_⟩
   refine Zl4 (fun (x5:Int)=>(⟨(.any :: .ptr 0 0::an 3 (.iv x5::an 122 [])),[some ⟨25,[.sl 3 (List.map Diner.row x1.1.Diners),.sl 5 (List.map Mail.row x1.1.Mail)]⟩],[]⟩:St)) (Zdk x1) r ?_ fun J2=>?_
   ·intro x5 h;rw [Zdk] at h;(try dsimp only);refine Zl2 4 ?_;dsimp only [e6,go_sem];refine ⟨by simp,?_⟩;obtain ⟨x6,ex6,h⟩:=Option.bind_eq_some_iff.1 h;refine Zz2 trivial (Zeg x1.1 x5 _ ex6) (h:=?_);refine Zl2 12 ?_;dsimp only [e6,go_sem];refine ⟨by simp,?_⟩;obtain ⟨x7,ex7,h⟩:=Option.bind_eq_some_iff.1 h;refine Zz2 trivial (Zpg x6.1 x5 (wr (1-x5)) _ ex7) (h:=?_);refine Zl2 10 ?_;dsimp only [e6,go_sem];refine ⟨by simp,?_⟩;obtain ⟨x8,ex8,h⟩:=Option.bind_eq_some_iff.1 h
    refine Zz2 trivial (k_table_Count x7.1 ((Edge.mk 0 1)) 1 _ ex8) (h:=?_);refine Zl2 8 ?_;dsimp only [e6,go_sem];refine ⟨by simp,?_⟩;obtain ⟨x9,ex9,h⟩:=Option.bind_eq_some_iff.1 h;refine Zz2 trivial (Zpg x7.1 (wr (1-x5)) x5 _ ex9) (h:=?_);refine Zl2 9 ?_;dsimp only [e6,go_sem];refine ⟨by simp,?_⟩;obtain ⟨x10,ex10,h⟩:=Option.bind_eq_some_iff.1 h;refine Zz2 trivial (Znj x9.1 2 _ ex10) (h:=?_);refine Zl2 6 ?_;dsimp only [e6,go_sem];refine ⟨by simp,?_⟩;obtain ⟨x11,ex11,h⟩:=Option.bind_eq_some_iff.1 h
    refine Zz2 trivial (Zgg x9.1 x5 _ ex11) (h:=?_);refine Zl2 10 ?_;dsimp only [e6,go_sem];refine ⟨by simp,?_⟩;obtain ⟨x12,ex12,h⟩:=Option.bind_eq_some_iff.1 h;refine Zz2 trivial (Zpg x9.1 0 1 _ ex12) (h:=?_);refine Zl2 12 ?_;dsimp only [e6,go_sem];refine ⟨by simp,?_⟩;refine Zl4 (fun (x17:Bool)=>(⟨(.bv x17::an 127 []),[],[]⟩:St)) Zck r ?_ fun J3=>?_
    ·intro x17 h;rw [Zck] at h;(try dsimp only);exact Zx4 (res:=fun (r:Bool)=>.bv r) ok6 h
    ·refine Zw4 80 h rfl (fun _ h=>?_) fun _ h=>?_
     ·dsimp only [go_sem];refine Zl2 4 ?_;dsimp only [e6,go_sem];refine ⟨by simp,?_⟩;refine Zw4 84 h rfl (fun _ h=>?_) fun _ h=>?_
      ·dsimp only [go_sem];refine Zl2 4 ?_;dsimp only [e6,go_sem];refine ⟨by simp,?_⟩;refine Zw4 88 h rfl (fun _ h=>?_) fun _ h=>?_
       ·dsimp only [go_sem];refine Zl2 4 ?_;dsimp only [e6,go_sem];refine ⟨by simp,?_⟩;refine Zw4 92 h rfl (fun _ h=>?_) fun _ h=>?_
        ·dsimp only [go_sem];refine Zl2 5 ?_;dsimp only [e6,go_sem];refine ⟨by simp,?_⟩;refine Zw4 97 h rfl (fun _ h=>?_) fun _ h=>?_
         ·dsimp only [go_sem];refine Zl2 1 ?_;dsimp only [e6,go_sem];refine ⟨by simp,?_⟩;obtain ⟨x13,ex13,h⟩:=Option.bind_eq_some_iff.1 h;refine Zq4 Z45 ex13 trivial rfl rfl rfl ?_;refine Zl2 5 ?_;dsimp only [e6,go_sem];refine ⟨by simp,?_⟩;refine Zw4 104 h rfl (fun _ h=>?_) fun _ h=>?_
          ·dsimp only [go_sem];refine Zl2 4 ?_;dsimp only [e6,go_sem];refine ⟨by simp,?_⟩;refine Zw4 108 h rfl (fun _ h=>?_) fun _ h=>?_
           ·dsimp only [go_sem];refine Zl2 4 ?_;dsimp only [e6,go_sem];refine ⟨by simp,?_⟩;refine Zw4 112 h rfl (fun _ h=>?_) fun _ h=>?_
            ·dsimp only [go_sem];refine Zl2 1 ?_;dsimp only [e6,go_sem];refine ⟨by simp,?_⟩;obtain ⟨x14,ex14,h⟩:=Option.bind_eq_some_iff.1 h;refine Zz2 trivial (Zhf x9.1 _ ex14) (h:=?_);refine Zl2 3 ?_;dsimp only [e6,go_sem];refine ⟨by simp,?_⟩;refine Zw4 117 h rfl (fun _ h=>?_) fun _ h=>?_
             ·dsimp only [go_sem];refine Zl2 2 ?_;dsimp only [e6,go_sem];refine ⟨by simp,?_⟩;obtain ⟨x15,ex15,h⟩:=Option.bind_eq_some_iff.1 h;refine Zz2 trivial (Zbk x9.1 x9.1 _ ex15) (h:=?_);refine Zl2 2 ?_;dsimp only [e6,go_sem];refine ⟨by simp,?_⟩;refine Zw4 122 h rfl (fun _ h=>?_) fun _ h=>?_
              ·dsimp only [go_sem];refine Zl2 2 ?_;dsimp only [e6,go_sem];refine ⟨by simp,?_⟩;obtain ⟨x16,ex16,h⟩:=Option.bind_eq_some_iff.1 h;refine Zz2 trivial (Zbk x9.1 x11.1 _ ex16) (h:=?_);refine Zl2 4 ?_;dsimp only [e6,go_sem];refine ⟨by simp,?_⟩;exact Zz4 J3 (s:=!x16) h
              ·dsimp only [go_sem];refine Zl2 7 ?_;dsimp only [e6,go_sem];refine ⟨by simp,?_⟩;exact Zz4 J3 (s:=false) h
             ·dsimp only [go_sem];refine Zl2 12 ?_;dsimp only [e6,go_sem];refine ⟨by simp,?_⟩;exact Zz4 J3 (s:=false) h
            ·dsimp only [go_sem];refine Zl2 17 ?_;dsimp only [e6,go_sem];refine ⟨by simp,?_⟩;exact Zz4 J3 (s:=false) h
           ·dsimp only [go_sem];refine Zl2 21 ?_;dsimp only [e6,go_sem];refine ⟨by simp,?_⟩;exact Zz4 J3 (s:=false) h
          ·dsimp only [go_sem];refine Zl2 25 ?_;dsimp only [e6,go_sem];refine ⟨by simp,?_⟩;exact Zz4 J3 (s:=false) h
         ·dsimp only [go_sem];refine Zl2 32 ?_;dsimp only [e6,go_sem];refine ⟨by simp,?_⟩;exact Zz4 J3 (s:=false) h
        ·dsimp only [go_sem];refine Zl2 37 ?_;dsimp only [e6,go_sem];refine ⟨by simp,?_⟩;exact Zz4 J3 (s:=false) h
       ·dsimp only [go_sem];refine Zl2 41 ?_;dsimp only [e6,go_sem];refine ⟨by simp,?_⟩;exact Zz4 J3 (s:=false) h
      ·dsimp only [go_sem];refine Zl2 45 ?_;dsimp only [e6,go_sem];refine ⟨by simp,?_⟩;exact Zz4 J3 (s:=false) h
     ·dsimp only [go_sem];refine Zl2 49 ?_;dsimp only [e6,go_sem];refine ⟨by simp,?_⟩;exact Zz4 J3 (s:=false) h
   ·refine Zn4 h rfl (fun _ h=>?_) fun _ h=>?_
    ·refine Zl2 3 ?_;dsimp only [e6,go_sem];refine ⟨by simp,?_⟩;exact Zz4 J2 (s:=1) h
    ·refine Zl2 1 ?_;dsimp only [e6,go_sem];refine ⟨by simp,?_⟩;exact Zz4 J2 (s:=0) h
 ·refine Zw4 24 h rfl (fun _ h=>?_) fun _ h=>?_
  ·dsimp only [go_sem];refine Zl2 6 ?_;dsimp only [e6,go_sem];refine ⟨by simp,?_⟩;exact Zz4 J1 (s:=true) h
  ·dsimp only [go_sem];refine Zl2 6 ?_;dsimp only [e6,go_sem];refine ⟨by simp,?_⟩;exact Zz4 J1 (s:=!decide ((ln Diner.row x1.1.Diners)=2)) h
theorem s_EqualMail (l m:List Mail) (hl:l.length≤1000000):Z7k l m=some (decide (l=m)):=by
 simp only [Z7k,Zc9]
 by_cases h:l.length=m.length
 ·simp only [h,decide_true,Bool.not_true,Zl5]
  rw [Z99 l m _ (fun x y=>decide (x=y)) h (by omega) (fun k x y hx hy=>by
   simp only [Z6k,Zq5 hx,Zk5,Zo5 hx,Zo5 hy,Option.bind_some,Mail_eqB,Zt5 hx (show l.length≤4000000000000000000 by omega),Zm5]
   cases decide (x=y)<;>rfl) (by simp only [Z6k,Zr5,Zl5,Z5k,Option.map_some]),Za9 l m h]
 ·simp [h,Zb9 h]
theorem s_tSame (s t:Scene) (hD:Zd9 s.Diners) (hM:s.Mail.length≤900000):Zak s t=some (decide (s=t)):=by
 obtain ⟨l,m⟩:=s
 obtain ⟨l',m'⟩:=t
 simp only [Zak,Z9k,s_placeSame _ _ hD,s_EqualMail m m' (by simp only at hM;omega),Option.bind_some,Scene.mk.injEq]
 by_cases h1:l=l'<;>by_cases h2:m=m'<;>simp [h1,h2]
def g14:Graph:=⟨2,[⟨0,1⟩]⟩
def w0:Scene:=Zli g14
def w1:Scene×Int:=Z9h w0 1 fun d=>Zce d 0 1
def w2:Scene×Int:=Zch w1.1 1 0
def w3:Scene×Int:=Zch w2.1 0 1
def w4:Scene×Int:=Z9h w3.1 1 fun d=>Zce d 2 0
def w5:Scene×Int:=Zch w3.1 0 1
theorem s_awake14:Zfk=some true:=by
 have f0:fewB w0=true:=by kernel_rfl
 have f1:fewB w1.1=true:=by kernel_rfl
 have f2:fewB w2.1=true:=by kernel_rfl
 have f3:fewB w3.1=true:=by kernel_rfl
 have m:∀ {s:Scene},fewB s=true→s.Mail.length≤900000:=fun h=>by have:=(fewB_iff h).2.1;omega
 have hN:Zdi ⟨2,[⟨0,1⟩]⟩=some (w0,0):=by
  rw [s_New,show okG ⟨2,[⟨0,1⟩]⟩=true from by kernel_rfl];rfl
 have hl:ln Diner.row w0.Diners=2:=by rw [Z65];kernel_rfl
 have h0:∃d,at_ w0.Diners 0=some d∧sideP (Ze9 d 1)=(⟨1,1,0,true,true,false,true,false⟩,true)∧d.Sides.length≤1000000:=by
  refine ⟨Z2c g14 (Zji g14) 0,by kernel_rfl,by kernel_rfl,by rw [show (Z2c g14 (Zji g14) 0).Sides.length=1 from by kernel_rfl];omega⟩
 obtain ⟨d,d1,d2,d3⟩:=h0
 have wr1:wr (1-1)=0:=Zn5 (by omega) (by omega)
 simp only [Zfk,hN,Option.bind_some,hl,decide_true,Bool.not_true,Zl5,Zek,d1,s_Side d 1 d3,d2,Zk5,Zdk,wr1]
 rw [s_Start w0 1 (Zg9 f0) (m f0),Option.bind_some]
 rw [show (Z9h w0 1 fun d=>Zce d 0 1)=w1 from rfl,Zdh w1.1 1 0 (Zg9 f1) (m f1),Option.bind_some]
 rw [show Zch w1.1 1 0=w2 from rfl,s_Count w2.1 _ 1 (Zg9 f2) (m f2),Option.bind_some,Zdh w2.1 0 1 (Zg9 f2) (m f2),Option.bind_some]
 rw [show Zch w2.1 0 1=w3 from rfl,s_Phases w3.1 2 (Zg9 f3),Option.bind_some,s_Stop w3.1 1 (Zg9 f3) (m f3),Option.bind_some,Zdh w3.1 0 1 (Zg9 f3) (m f3),Option.bind_some]
 rw [s_tCheck w3.1 (Zg9 f3) (by have:=m f3;omega),s_tSame w3.1 w3.1 (Zg9 f3) (m f3),s_tSame w3.1 _ (Zg9 f3) (m f3)]
 rw [show (Z9h w3.1 1 fun d=>Zce d 2 0)=w4 from rfl,show Zch w3.1 0 1=w5 from rfl]
 rw [show decide (w1.2=0)=true from by kernel_rfl,Zk5,show decide (w2.2=0)=true from by kernel_rfl,Zk5,show decide ((countS w2.1 ⟨0,1⟩ 1:Int)=1)=true from by kernel_rfl,Zk5,
  show decide (w3.2=0)=true from by kernel_rfl,Zk5,show Z0k w3.1.Diners 2=[1] from by kernel_rfl,show decide (ln Z45 [(1:Int)]=1)=true from rfl,Zk5,show at_ [(1:Int)] 0=some 1 from rfl,Option.bind_some]
 rw [show decide ((1:Int)=1)=true from rfl,Zk5,show decide (w4.2=0)=true from by kernel_rfl,Zk5,show decide (w5.2=141)=true from by kernel_rfl,Zk5,Option.bind_some,show okS w3.1=true from by kernel_rfl]
 rw [show decide ((if true=true then (0:Int) else 142)=0)=true from rfl,Zk5,Option.bind_some,decide_eq_true rfl,Zk5,Option.bind_some,show decide (w3.1=w4.1)=false from by kernel_rfl]
 rfl
end NX
end Go.Proofs.YtadebhbiglmodaaGreat
