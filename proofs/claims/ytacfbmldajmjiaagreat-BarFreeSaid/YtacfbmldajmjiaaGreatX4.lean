/-
  Plain laws: what always holds of a graph's scene goes on to hold. No statement of the seat is proved here.
-/
import Derived.KernelRfl
import Derived.Test.YtacfbmldajmjiaaGreatX3
import Derived.Test.YtacfbmldajmjiaaGreatX1
import Derived.Test.YtacfbmldajmjiaaGreatX2
namespace Go.Proofs.YtacfbmldajmjiaaGreat
namespace NX
open Go
theorem Zwg (id:Int):∀(l:List Side) (q:Int),l.Pairwise (fun x y=>x.Peer<y.Peer)→(∀x∈l,q<x.Peer∧x.Peer≠id∧x.Epoch=1∧x.State=0∧(x.Dirty=true→x.Fork=true))→Z49 id q l=true
 | [],_,_,_=>rfl
 | x::l,q,h,hb=>by
   rw [List.pairwise_cons] at h
   obtain ⟨b1,b2,b3,b4,b5⟩:=hb x (by simp)
   have ih:=Zwg id l x.Peer h.2 fun y hy=>by
    have:=hb y (by simp [hy])
    exact ⟨h.1 y hy,this.2⟩
   simp only [Z49,ih,Bool.and_true,Z39,decide_eq_true b1,decide_eq_false b2,b3,b4]
   cases hd:x.Dirty with
   | false=>rfl
   | true=>rw [b5 hd];rfl
theorem LocD.ok {g:Graph} (hg:okG g=true) (hN:g.N≤60) {a:Nat} {d:Diner} (h:LocD d) (hid:d.ID=a) (hp:d.Sides.map (·.Peer)=Zqc g a):okD d=true:=by
 have hlen:d.Sides.length=(Zqc g a).length:=by rw [←hp];simp
 have hfew:=near_few hg (a:Int)
 have hpw:d.Sides.Pairwise fun x y=>x.Peer<y.Peer:=by
  have:=Zrc hg (a:Int)
  rw [←hp,List.pairwise_map] at this
  exact this
 unfold okD
 rw [decide_eq_true (show 0≤d.ID by omega),decide_eq_true h.lo,decide_eq_true h.hi,decide_eq_true (show d.Sides.length<64 by omega),Zwg d.ID d.Sides (-1) hpw fun x hx=>?_]
 ·rfl
 ·have hm:x.Peer∈Zqc g a:=by rw [←hp];exact List.mem_map_of_mem hx
  obtain ⟨n1,n2,n3,_⟩:=Zwc hg hm
  exact ⟨by omega,by omega,h.side x hx⟩
theorem Inv.okd {g:Graph} {s:Scene} (hg:okG g=true) (hN:g.N≤60) (h:Inv g s) {d:Diner} (hd:d∈s.Diners):okD d=true:=by
 obtain ⟨k,hk⟩:=List.mem_iff_getElem?.1 hd
 obtain ⟨h1,h2⟩:=h.shp k d hk
 exact (h.loc d hd).ok hg hN h1 h2
theorem Inv.few {g:Graph} {s:Scene} (hg:okG g=true) (h:Inv g s):fewD s.Diners:=by
 have:=(Ze7 hg).2.1
 refine ⟨by have:=h.len;omega,fun d hd=>?_⟩
 obtain ⟨k,hk⟩:=List.mem_iff_getElem?.1 hd
 have h2:=(h.shp k d hk).2
 have:d.Sides.length=(Zqc g k).length:=by rw [←h2];simp
 have:=near_few hg (k:Int)
 omega
theorem Inv.graph {g:Graph} {s:Scene} (hg:okG g=true) (h:Inv g s):Zb8 s.Diners=(g,true):=by
 rw [←graphP_T hg []]
 refine graphP_key (List.ext_getElem? fun k=>?_)
 have hl:=Zrd hg []
 have hl2:=h.len
 rw [List.getElem?_map,List.getElem?_map]
 by_cases hk:k<s.Diners.length
 ·have e:=Zqd (g:=g) (c:=[]) (a:=(k:Int)) (by omega) (by omega)
  have hx:s.Diners[k]?=some s.Diners[k]:=List.getElem?_eq_getElem hk
  obtain ⟨h1,h2⟩:=h.shp k _ hx
  rw [Int.toNat_natCast] at e
  rw [hx,e]
  simp only [Option.map_some,key,h1,h2,Zyc,List.map_map]
  congr 2
  exact (List.map_id _).symm
 ·rw [List.getElem?_eq_none (by omega),List.getElem?_eq_none (by omega)]
theorem mailG_ok {g:Graph} (hg:okG g=true) {n:Nat} (hn:(n:Int)=g.N) {m:Mail} (h:mailG g m):Zjg n m=true:=by
 obtain ⟨n1,n2,n3,n4,n5⟩:=Zwc hg h.2.2.2
 unfold Zjg
 rw [decide_eq_false (by omega),decide_eq_false (by omega),decide_eq_false (by omega)];rfl
theorem Inv.ok {g:Graph} {s:Scene} (hg:okG g=true) (hN:g.N≤60) (h:Inv g s):okS s=true:=by
 unfold okS
 rw [h.graph hg,Bool.true_and,Bool.and_eq_true,List.all_eq_true,List.all_eq_true]
 exact ⟨fun d hd=>h.okd hg hN hd,fun m hm=>mailG_ok hg h.len (h.mail m hm)⟩
theorem Inv.init {g:Graph} (hg:okG g=true) {c:List Int} (hr:Zac g c=true):Inv g ⟨Zzc g c,[]⟩:=by
 have get:∀(k:Nat) d,(Zzc g c)[k]?=some d→(k:Int)<g.N∧d=Zyc g c k:=fun k d hd=>by
  have hk:=(List.getElem?_eq_some_iff.1 hd).1
  have hl:=Zrd hg c
  have e:=Zqd (g:=g) (c:=c) (a:=(k:Int)) (by omega) (by omega)
  rw [Int.toNat_natCast,hd] at e
  exact ⟨by omega,by simpa using e⟩
 refine ⟨Zrd hg c,fun k d hd=>?_,fun d hd=>?_,by simp,fun a b da db ha hb hab k hk=>?_⟩
 ·obtain ⟨_,rfl⟩:=get k d hd
  refine ⟨rfl,?_⟩
  simp only [Zyc,List.map_map]
  exact List.map_id _
 ·obtain ⟨k,hk⟩:=List.mem_iff_getElem?.1 hd
  obtain ⟨_,rfl⟩:=get k d hk
  refine ⟨Int.le_refl _,by show (0:Int)≤2;omega,fun x hx=>?_,fun h=>absurd h (by show ¬(0:Int)=2;omega)⟩
  obtain ⟨b,_,rfl⟩:=List.mem_map.1 hx
  exact ⟨rfl,rfl,fun h=>h⟩
 ·obtain ⟨_,rfl⟩:=get a da ha
  obtain ⟨_,rfl⟩:=get b db hb
  have hne:=Z1d hg hr hab
  have hba:=Ztd hg hab
  unfold hasD cnt
  rw [Zsd,if_pos hab,Zsd,if_pos hba]
  have hlt:decide (cg c a<cg c b)=!decide (cg c b<cg c a):=by
   rw [←decide_not,decide_eq_decide];omega
  simp only [Zxc,has,hlt,bn]
  by_cases hh:cg c b<cg c a<;>rcases hk with rfl | rfl<;>simp [hh]
theorem Zxg {l:List Diner} (hid:∀(k:Nat) x,l[k]?=some x→x.ID=k) (a:Nat) (y:Diner):(l.map fun x=>if x.ID=(a:Int) then y else x)=l.set a y:=by
 refine List.ext_getElem? fun k=>?_
 rw [List.getElem?_map,List.getElem?_set]
 by_cases hk:k<l.length
 ·have hx:l[k]?=some l[k]:=List.getElem?_eq_getElem hk
  have:=hid k _ hx
  rw [hx,Option.map_some]
  by_cases he:a=k
  ·subst he;simp [this,hk]
  ·rw [if_neg (by omega),if_neg he]
 ·rw [List.getElem?_eq_none (by omega)]
  split
  ·rename_i he;subst he;simp;omega
  ·rfl
theorem Inv.ids {g:Graph} {s:Scene} (h:Inv g s) (k:Nat) (x:Diner) (hx:s.Diners[k]?=some x):x.ID=k:=(h.shp k x hx).1
theorem Zyg {l:List Diner} {a:Nat} {d d':Diner} (hd:l[a]?=some d):(l.set a d')[a]?=some d':=by
 have hlt:=(List.getElem?_eq_some_iff.1 hd).1
 rw [List.getElem?_set];simp [hlt]
theorem Inv.act {g:Graph} {s s1:Scene} (hg:okG g=true) (hN:g.N≤60) {a:Nat} {d:Diner} (h:Inv g s1) (hd:s1.Diners[a]?=some d) (he:s1.Diners=s.Diners.set a d) (hm:s1.Mail=s.Mail) (hs:∀(k:Nat) x,s.Diners[k]?=some x→x.ID=k):
  okD d=true∧Inv g (actS s a d):=by
 refine ⟨h.okd hg hN (List.mem_iff_getElem?.2 ⟨_,hd⟩),?_⟩
 have:=h.fire hg hd
 unfold actS
 rw [Zxg hs a]
 rw [he,List.set_set,hm] at this
 exact this
theorem Inv.phase {g:Graph} {s:Scene} (hg:okG g=true) (h:Inv g s) {a:Nat} {d:Diner} (hd:s.Diners[a]?=some d) {p:Int} (h0:0≤p) (h1:p<2):Inv g ⟨s.Diners.set a ⟨d.ID,p,d.Sides⟩,s.Mail⟩:=by
 have hl:=h.loc d (List.mem_iff_getElem?.2 ⟨_,hd⟩)
 exact h.set (d':=⟨d.ID,p,d.Sides⟩) hg hd rfl rfl ⟨h0,by show p≤2;omega,hl.side,fun e=>absurd e (by show ¬p=2;omega)⟩ h.mail (fun _ _ _ _ _=>rfl) (fun _ _ _ _=>rfl)
theorem Zzg {s:Scene} {a:Int}:Zkg s a=true↔0≤a∧a<s.Diners.length:=by simp [Zkg]
theorem Z0h {α:Type} {p q:α→Bool}:∀ {l:List α},(∀x∈l,p x=q x)→l.find? p=l.find? q
 | [],_=>rfl
 | x::l,h=>by
   rw [List.find?_cons,List.find?_cons,h x (by simp),Z0h fun y hy=>h y (by simp [hy])]
theorem Z1h {M:List Mail} {i:Nat} {m:Mail} (hm:M[i]?=some m) (x:Mail):(M.take i++M.drop (i+1)).count x+(if m=x then 1 else 0)=M.count x:=by
 have hlt:=(List.getElem?_eq_some_iff.1 hm).1
 have e:M=M.take i++m::M.drop (i+1):=by
  have h1:=List.take_append_drop i M
  rw [List.drop_eq_getElem_cons hlt] at h1
  have h2:M[i]=m:=by rw [List.getElem?_eq_getElem hlt] at hm;simpa using hm
  rw [h2] at h1
  exact h1.symm
 have e2:M.count x=(M.take i++m::M.drop (i+1)).count x:=by rw [←e]
 rw [e2,List.count_append,List.count_append,List.count_cons]
 by_cases h:m=x
 ·simp [h];omega
 ·simp [h]
def Z2h (x:Side) (k:Int):Side:=if k=1 then {x with Fork:=true} else {x with Token:=true}
theorem Inv.recv {g:Graph} {s:Scene} (hg:okG g=true) (hN:g.N≤60) (h:Inv g s) {a b:Int} {m:Mail} (hmm:m∈s.Mail) (q1:m.From=a) (q2:m.To=b) {M':List Mail} (hsub:∀y∈M',y∈s.Mail) (hct:∀x,M'.count x+(if m=x then 1 else 0)=s.Mail.count x)
  {db:Diner} (hdb:s.Diners[b.toNat]?=some db):
  ∃x j,db.Sides.findIdx? (fun y=>decide (y.Peer=a)&&decide (y.Epoch=m.Msg.Epoch))=some j∧db.Sides[j]?=some x∧Zw7 db a=some x∧(m.Msg.Kind=1∨m.Msg.Kind=2)∧
   (∀z:Int,Zw7 ⟨db.ID,db.Phase,db.Sides.set j (Z2h x m.Msg.Kind)⟩ z=if z=a then some (Z2h x m.Msg.Kind) else Zw7 db z)∧
   Inv g ⟨s.Diners.set b.toNat ⟨db.ID,db.Phase,db.Sides.set j (Z2h x m.Msg.Kind)⟩,M'⟩∧getD' db a m.Msg=(⟨db.ID,db.Phase,db.Sides.set j (Z2h x m.Msg.Kind)⟩,0):=by
 obtain ⟨m1,m2,m3,m4⟩:=h.mail m hmm
 rw [q1,q2] at m4
 have nab:=Ztd hg m4
 obtain ⟨b0,b1,_,a0,a1⟩:=Zwc hg m4
 have hlen:=h.len
 have hda:s.Diners[a.toNat]?=some s.Diners[a.toNat]:=List.getElem?_eq_getElem (by omega)
 obtain ⟨hid,hsh⟩:=h.shp _ _ hdb
 have hok:=h.okd hg hN (List.mem_iff_getElem?.2 ⟨_,hdb⟩)
 have hloc:=h.loc db (List.mem_iff_getElem?.2 ⟨_,hdb⟩)
 have hpw:=h.pw hg hdb
 have hsome:(Zw7 db a).isSome=true:=by
  rw [Zud,hsh,Int.toNat_of_nonneg b0];exact decide_eq_true nab
 obtain ⟨x,hx⟩:=Option.isSome_iff_exists.1 hsome
 obtain ⟨xm,xp⟩:=Z9e hx
 have hidx:=Zx7 (fun x:Side=>decide (x.Peer=a)&&decide (x.Epoch=m.Msg.Epoch)) db.Sides
 have efun:∀y∈db.Sides,(decide (y.Peer=a)&&decide (y.Epoch=m.Msg.Epoch))=decide (y.Peer=a):=fun y hy=>by
  rw [m2,(hloc.side y hy).1];simp
 have efind:db.Sides.find? (fun y=>decide (y.Peer=a)&&decide (y.Epoch=m.Msg.Epoch))=some x:=by
  rw [←hx];unfold Zw7
  exact Z0h efun
 cases hj:db.Sides.findIdx? (fun y=>decide (y.Peer=a)&&decide (y.Epoch=m.Msg.Epoch)) with
 | none=>rw [hj] at hidx;rw [efind] at hidx;exact absurd hidx (by simp)
 | some j=>
   rw [hj] at hidx
   obtain ⟨x',hx1,hx2⟩:=hidx
   rw [efind] at hx2
   have:x'=x:=by simpa using hx2.symm
   subst this
   have hk:m.Msg.Kind=1∨m.Msg.Kind=2:=m1
   have hme:m=⟨a,b,⟨m.Msg.Kind,1,0⟩⟩:=by
    obtain ⟨f,t,⟨k,e,n⟩⟩:=m
    dsimp only at q1 q2 m2 m3 ⊢
    rw [q1,q2,m2,m3]
   have hcnt:1≤cnt s.Mail m.Msg.Kind a b:=by
    unfold cnt
    have:=List.count_pos_iff.2 hmm
    rw [←hme];omega
   have hone:=h.one b.toNat a.toNat db _ hdb hda (by rw [Int.toNat_of_nonneg b0,Int.toNat_of_nonneg a0];exact nab) m.Msg.Kind hk
   rw [Int.toNat_of_nonneg b0,Int.toNat_of_nonneg a0] at hone
   have hhas:has x' m.Msg.Kind=false:=by
    cases hh:has x' m.Msg.Kind with
    | false=>rfl
    | true=>
      have:hasD db m.Msg.Kind a=1:=by unfold hasD;rw [hx];simp only [hh,bn];rfl
      omega
   have hgp:(Z2h x' m.Msg.Kind).Peer=x'.Peer:=by unfold Z2h;split<;>rfl
   have hjlt:=(List.getElem?_eq_some_iff.1 hx1).1
   have es:∀z:Int,Zw7 ⟨db.ID,db.Phase,db.Sides.set j (Z2h x' m.Msg.Kind)⟩ z=if z=a then some (Z2h x' m.Msg.Kind) else Zw7 db z:=fun z=>by
    have hsplit:db.Sides=db.Sides.take j++x'::db.Sides.drop (j+1):=by
     have h1:=List.take_append_drop j db.Sides
     rw [List.drop_eq_getElem_cons hjlt] at h1
     have h2:db.Sides[j]=x':=by rw [List.getElem?_eq_getElem hjlt] at hx1;simpa using hx1
     rw [h2] at h1;exact h1.symm
    have hjl:(db.Sides.take j).length=j:=by simp;omega
    have hset2:db.Sides.set j (Z2h x' m.Msg.Kind)=db.Sides.take j++Z2h x' m.Msg.Kind::db.Sides.drop (j+1):=by
     have:=Zs7 (db.Sides.take j) (db.Sides.drop (j+1)) x' (Z2h x' m.Msg.Kind)
     rw [←hsplit,hjl,Int.toNat_natCast] at this
     exact this
    unfold Zw7
    dsimp only
    rw [hset2]
    have hpw2:=hpw
    rw [hsplit,List.pairwise_append,List.pairwise_cons] at hpw2
    have before:∀y∈db.Sides.take j,y.Peer≠a:=fun y hy=>by
     have:=hpw2.2.2 y hy x' (by simp);omega
    rw [List.find?_append,List.find?_cons,hgp]
    by_cases hz:z=a
    ·subst hz
     rw [decide_eq_true xp,if_pos rfl]
     have:(db.Sides.take j).find? (fun y=>decide (y.Peer=z))=none:=by
      rw [List.find?_eq_none];intro y hy;simpa using before y hy
     rw [this];rfl
    ·rw [if_neg hz]
     have e3:db.Sides.find? (fun y=>decide (y.Peer=z))=(db.Sides.take j++x'::db.Sides.drop (j+1)).find? (fun y=>decide (y.Peer=z)):=by rw [←hsplit]
     rw [e3,List.find?_append,List.find?_cons,decide_eq_false (show ¬x'.Peer=z by omega)]
   have hset:Inv g ⟨s.Diners.set b.toNat ⟨db.ID,db.Phase,db.Sides.set j (Z2h x' m.Msg.Kind)⟩,M'⟩:=by
    have smem:∀y∈db.Sides.set j (Z2h x' m.Msg.Kind),y=Z2h x' m.Msg.Kind∨y∈db.Sides:=fun y hy=>by
     rcases List.mem_or_eq_of_mem_set hy with h1 | h1
     ·exact .inr h1
     ·exact .inl h1
    have gloc:=hloc.side x' xm
    have gside:(Z2h x' m.Msg.Kind).Epoch=1∧(Z2h x' m.Msg.Kind).State=0∧((Z2h x' m.Msg.Kind).Dirty=true→(Z2h x' m.Msg.Kind).Fork=true):=by
     unfold Z2h;split
     ·exact ⟨gloc.1,gloc.2.1,fun _=>rfl⟩
     ·exact gloc
    refine h.set (d':=⟨db.ID,db.Phase,db.Sides.set j (Z2h x' m.Msg.Kind)⟩) hg hdb rfl ?_ ⟨hloc.lo,hloc.hi,fun y hy=>?_,fun h2 y hy=>?_⟩ (fun y hy=>?_) (fun k p q hp hq=>?_) (fun c hc k hk'=>?_)
    ·dsimp only
     rw [List.map_set,hgp]
     refine List.ext_getElem? fun n=>?_
     rw [List.getElem?_set]
     split
     ·rename_i hn;subst hn
      rw [List.getElem?_map,hx1];simp [hjlt]
     ·rfl
    ·rcases smem y hy with rfl | hy
     ·exact gside
     ·exact hloc.side y hy
    ·rcases smem y hy with rfl | hy
     ·have:=hloc.eat h2 x' xm
      unfold Z2h;split
      ·exact ⟨rfl,this.2⟩
      ·exact this
     ·exact hloc.eat h2 y hy
    ·exact h.mail y (hsub y hy)
    ·have:=hct ⟨p,q,⟨k,1,0⟩⟩
     rw [if_neg (by rw [hme];simp only [Mail.mk.injEq];omega)] at this
     exact this
    ·rw [Int.toNat_of_nonneg b0] at hc ⊢
     have e1:=hct ⟨b,c,⟨k,1,0⟩⟩
     have e2:=hct ⟨c,b,⟨k,1,0⟩⟩
     have hnab:a≠b:=fun e=>(Zwc hg m4).2.2.1 e.symm
     rw [if_neg (by rw [hme];simp only [Mail.mk.injEq];omega)] at e1
     unfold hasD
     rw [es]
     by_cases hca:c=a
     ·subst hca
      rw [if_pos rfl,hx]
      dsimp only
      by_cases hkk:k=m.Msg.Kind
      ·subst hkk
       have h1:has (Z2h x' m.Msg.Kind) m.Msg.Kind=true:=by
        unfold has Z2h
        rcases hk with h1 | h1<;>rw [h1]<;>rfl
       rw [if_pos hme] at e2
       rw [h1,hhas]
       unfold cnt
       simp only [bn,if_true,Bool.false_eq_true,if_false]
       omega
      ·have h1:has (Z2h x' m.Msg.Kind) k=has x' k:=by
        unfold has Z2h
        rcases hk with h2 | h2<;>rcases hk' with h3 | h3<;>rw [h2,h3]
        ·exact absurd (h3.trans h2.symm) hkk
        ·rfl
        ·rfl
        ·exact absurd (h3.trans h2.symm) hkk
       rw [if_neg (by rw [hme];simp only [Mail.mk.injEq,Msg.mk.injEq];omega)] at e2
       rw [h1]
       unfold cnt
       omega
     ·rw [if_neg hca]
      rw [if_neg (by rw [hme];simp only [Mail.mk.injEq];omega)] at e2
      unfold cnt
      omega
   refine ⟨x',j,rfl,hx1,hx,hk,es,hset,?_⟩
   have hres:(if (decide (m.Msg.Kind=1)&&decide (m.Msg.Num=0))=true then (if x'.Fork=true then (Za9,132) else (⟨db.ID,db.Phase,db.Sides.set j {x' with Fork:=true}⟩,0))
    else if (decide (m.Msg.Kind=2)&&decide (m.Msg.Num=0))=true then (if x'.Token=true then (Za9,132) else (⟨db.ID,db.Phase,db.Sides.set j {x' with Token:=true}⟩,0))
    else ((Za9,133):Diner×Int))=(⟨db.ID,db.Phase,db.Sides.set j (Z2h x' m.Msg.Kind)⟩,0):=by
    unfold has at hhas
    unfold Z2h
    rcases hk with h1 | h1
    ·rw [h1] at hhas ⊢
     rw [m3]
     simp at hhas
     simp [hhas]
    ·rw [h1] at hhas ⊢
     rw [m3]
     simp at hhas
     simp [hhas]
   unfold getD'
   rw [hok,if_pos rfl,hj]
   dsimp only
   rw [hx1]
   dsimp only
   rw [hres]
theorem delivS_eq {g:Graph} {s:Scene} (hg:okG g=true) (hN:g.N≤60) (h:Inv g s) {a b:Int} (ht:Zkg s a=true) (ht':Zkg s b=true) {i:Nat} (hf:Zmg s a b=some i):
  ∃m db x d1,s.Mail[i]?=some m∧m.From=a∧m.To=b∧s.Diners[b.toNat]?=some db∧Zw7 db a=some x∧(m.Msg.Kind=1∨m.Msg.Kind=2)∧d1.ID=db.ID∧d1.Phase=db.Phase∧(∀z:Int,Zw7 d1 z=if z=a then some (Z2h x m.Msg.Kind) else Zw7 db z)∧
   Inv g ⟨s.Diners.set b.toNat d1,s.Mail.take i++s.Mail.drop (i+1)⟩∧Zng s a b=(actS ⟨s.Diners,s.Mail.take i++s.Mail.drop (i+1)⟩ b d1,0)∧Inv g (actS ⟨s.Diners,s.Mail.take i++s.Mail.drop (i+1)⟩ b d1):=by
 obtain ⟨a0,a1⟩:=Zzg.1 ht
 obtain ⟨b0,b1⟩:=Zzg.1 ht'
 obtain ⟨db,hdb1,hdb⟩:=Zlg ht'
 obtain ⟨da,_,hda⟩:=Zlg ht
 have hf0:=hf
 unfold Zmg at hf
 have hfi:=Zx7 (fun m:Mail=>decide (m.From=a)&&decide (m.To=b)) s.Mail
 rw [hf] at hfi
 obtain ⟨m,hm,hq⟩:=hfi
 have hq':=List.find?_some hq
 simp only [Bool.and_eq_true,decide_eq_true_eq] at hq'
 obtain ⟨q1,q2⟩:=hq'
 have hmm:m∈s.Mail:=List.mem_iff_getElem?.2 ⟨_,hm⟩
 obtain ⟨x,j,_,_,hx,hk,es,hset,hgd⟩:=h.recv hg hN hmm q1 q2 (M':=s.Mail.take i++s.Mail.drop (i+1)) (fun y hy=>by
  rcases List.mem_append.1 hy with hy | hy
  ·exact List.mem_of_mem_take hy
  ·exact List.mem_of_mem_drop hy) (Z1h hm) hdb
 obtain ⟨k1,k2⟩:=Inv.act (s:=⟨s.Diners,s.Mail.take i++s.Mail.drop (i+1)⟩) hg hN hset (Zyg hdb) rfl rfl h.ids
 rw [Int.toNat_of_nonneg b0] at k2
 refine ⟨m,db,x,⟨db.ID,db.Phase,db.Sides.set j (Z2h x m.Msg.Kind)⟩,hm,q1,q2,hdb,hx,hk,rfl,rfl,es,hset,?_,k2⟩
 unfold Zng
 rw [h.ok hg hN,if_pos rfl,ht,ht',Bool.true_and,if_pos rfl,hf0]
 dsimp only
 rw [hm,hdb1]
 dsimp only
 rw [hgd]
 unfold actP
 dsimp only
 rw [if_pos rfl,if_pos k1]
set_option maxRecDepth 100000
set_option maxHeartbeats 4000000
@[go_sem] def e114:EC:=.seq (.reg [(Qx 1 66 8 0),(Qa 2 (.mv (.c .ff)))]) (.seq (.reg [(Qf 3 3 1),(Ql 4 3),(Qm 2 4)]) (.ret))
theorem ok114:FnOK Tryz.prog 114 Tryz.f114 e114 [.t 2] 1 4:=⟨by kernel_rfl,⟨_,rfl,by kernel_rfl⟩,by kernel_rfl,by kernel_rfl⟩
noncomputable def Z3h (x1:Side):Option Bool:=
 some x1.Fork
theorem Z4h (x1:Side) (r:Bool) (h:Z3h x1=some r):Zs2 Tryz.prog 114 [.agg (Side.row x1)] (.bv r):=by
 refine Zw2 ok114 rfl rfl fun w0 H0=>?_
 rw [Z3h] at h
 refine Zn2 11 ?_;dsimp only [go_sem];refine An ?_;exact Zq4 (res:=fun (r:Bool)=>.bv r) ok114 h
set_option maxRecDepth 100000
set_option maxHeartbeats 4000000
@[go_sem] def e115:EC:=.seq (.reg [(Qx 1 66 8 0),(Qa 2 (.mv (.c .ff)))]) (.seq (.reg [(Qf 3 5 1),(Ql 4 3),(Qm 2 4)]) (.ret))
theorem ok115:FnOK Tryz.prog 115 Tryz.f115 e115 [.t 2] 1 4:=⟨by kernel_rfl,⟨_,rfl,by kernel_rfl⟩,by kernel_rfl,by kernel_rfl⟩
noncomputable def Z5h (x1:Side):Option Bool:=
 some x1.Token
theorem Z6h (x1:Side) (r:Bool) (h:Z5h x1=some r):Zs2 Tryz.prog 115 [.agg (Side.row x1)] (.bv r):=by
 refine Zw2 ok115 rfl rfl fun w0 H0=>?_
 rw [Z5h] at h
 refine Zn2 11 ?_;dsimp only [go_sem];refine An ?_;exact Zq4 (res:=fun (r:Bool)=>.bv r) ok115 h
set_option maxRecDepth 100000
set_option maxHeartbeats 4000000
@[go_sem] def e63_L1:EC:=.seq (.reg [(Qa 89 (.bin .lss (.t 88) (.t 87)))]) (.seq (.ite (.t 89) (.skip) (.exit 3)) (.seq (.blk 4 (.seq (.reg [(Qk 90 5 86 88),(Qe 91 5 90),(Qa 16 (.alloc 95 [.iv 0,.iv 0,.iv 0,.iv 0,.iv 0])),(Qs 5 16 91)]) (.seq (.reg [(Qf 92 2 16),(Qf 93 0 92),(Ql 94 93),(Qm 95 2),(Qa 96 (.bin .eql (.t 94) (.t 95))),(Qm 97 96),(Qh 98 97 true 2 16),(Qh 99 97 true 1 98),(Qn 100 97 true 99),(Qh 101 97 true 1 7),(Qn 102 97 true 101),(Qg 103 97 true (.bin .eql (.t 100) (.t 102))),(Qp 104 97 103),(Qm 105 104),(Qh 106 105 true 0 16),(Qn 107 105 true 106),(Qh 108 105 true 1 16),(Qn 109 105 true 108),(Qg 110 105 true (.mm false [(.t 107),(.t 109)])),(Qh 111 105 true 0 4),(Qn 112 105 true 111),(Qh 113 105 true 1 4),(Qn 114 105 true 113),(Qg 115 105 true (.mm false [(.t 112),(.t 114)])),(Qg 116 105 true (.bin .eql (.t 110) (.t 115))),(Qp 117 105 116),(Qm 118 117),(Qh 119 118 true 0 16),(Qn 120 118 true 119),(Qh 121 118 true 1 16),(Qn 122 118 true 121),(Qg 123 118 true (.mm true [(.t 120),(.t 122)])),(Qh 124 118 true 0 4),(Qn 125 118 true 124),(Qh 126 118 true 1 4),(Qn 127 118 true 126),(Qg 128 118 true (.mm true [(.t 125),(.t 127)])),(Qg 129 118 true (.bin .eql (.t 123) (.t 128))),(Qp 130 118 129)]) (.ite (.t 130) (.reg [(Qm 131 12),(Qv 132 131 1),(Qm 12 132)]) (.skip))))) (.reg [(Qv 133 88 1),(Qm 88 133)])))
@[go_sem] def e63_L0:EC:=.seq (.reg [(Qa 76 (.bin .lss (.t 75) (.t 74)))]) (.seq (.ite (.t 76) (.skip) (.exit 1)) (.seq (.blk 2 (.seq (.reg [(Qk 77 8 73 75),(Qe 78 8 77),(Qa 14 (.alloc 66 [.iv 0,.iv 0,.iv 0,.ff,.ff,.ff,.ff,.ff])),(Qs 8 14 78)]) (.seq (.reg [(Qm 79 11),(Qe 80 8 14),(Qa 81 (.callv (.t 79) [(.t 80)]))]) (.ite (.t 81) (.reg [(Qm 82 12),(Qv 83 82 1),(Qm 12 83)]) (.skip))))) (.reg [(Qv 84 75 1),(Qm 75 84)])))
@[go_sem] def e63:EC:=.seq (.reg [(Qx 3 48 2 0),(Qx 4 30 2 1),(Qi 6 0)]) (.seq (.seq (.reg [(Qe 17 2 3),(Qf 18 0 4),(Ql 19 18),(Qa 20 (.call 113 [(.t 17),(.t 19)])),(Qa 21 (.not (.t 20))),(Qm 22 21),(Qg 23 22 false (.loadA 2 (.t 3))),(Qh 24 22 false 1 4),(Qn 25 22 false 24),(Qg 26 22 false (.call 113 [(.t 23),(.t 25)])),(Qg 27 22 false (.not (.t 26))),(Qq 28 22 27)]) (.ite (.t 28) (.seq (.reg [(Qi 6 0)]) (.ret)) (.skip))) (.seq (.drw [(Qf 30 0 3),(Ql 31 30),(Qf 32 0 4),(Ql 33 32),(Qk 34 3 31 33),(Qe 35 3 34),(Qf 36 1 4),(Ql 37 36),(Qa 38 (.call 65 [(.t 35),(.t 37)])),(Qm 29 38),(Qa 39 (.ext (.t 29) 0)),(Qa 40 (.ext (.t 29) 1)),(Qa 7 (.alloc 66 [.iv 0,.iv 0,.iv 0,.ff,.ff,.ff,.ff,.ff])),(Qs 8 7 39),(Qm 8 40)] [[],[0],[],[2],[1,3],[4],[],[6],[5,7],[8],[9],[9],[],[12,10,8,0,1,2,3,4,5,6,7,8,9,10,12],[11,13,0,1,2,3,4,5,6,7,8,9,10,11,12,13]] [[1],[0,4],[3],[2,4],[1,3,5],[4,8],[7],[6,8],[5,7,9],[8,10,11],[9,13],[9,14],[13],[10,12],[11]]) (.seq (.drw [(Qf 42 0 3),(Ql 43 42),(Qf 44 1 4),(Ql 45 44),(Qk 46 3 43 45),(Qe 47 3 46),(Qf 48 0 4),(Ql 49 48),(Qa 50 (.call 65 [(.t 47),(.t 49)])),(Qm 41 50),(Qa 51 (.ext (.t 41) 0)),(Qa 52 (.ext (.t 41) 1)),(Qa 9 (.alloc 66 [.iv 0,.iv 0,.iv 0,.ff,.ff,.ff,.ff,.ff])),(Qs 8 9 51),(Qm 10 52)] [[],[0],[],[2],[1,3],[4],[],[6],[5,7],[8],[9],[9],[],[12,10,8,0,1,2,3,4,5,6,7,8,9,10,12],[11,13,0,1,2,3,4,5,6,7,8,9,10,11,12,13]] [[1],[0,4],[3],[2,4],[1,3,5],[4,8],[7],[6,8],[5,7,9],[8,10,11],[9,13],[9,14],[13],[10,12],[11]]) (.seq (.seq (.reg [(Qm 53 8),(Qa 54 (.not (.t 53))),(Qm 55 54),(Qg 56 55 false (.mv (.t 10))),(Qg 57 55 false (.not (.t 56))),(Qq 58 55 57),(Qm 59 58),(Qh 60 59 false 1 7),(Qn 61 59 false 60),(Qh 62 59 false 1 9),(Qn 63 59 false 62),(Qg 64 59 false (.bin .neq (.t 61) (.t 63))),(Qq 65 59 64)]) (.ite (.t 65) (.seq (.reg [(Qi 6 0)]) (.ret)) (.skip))) (.seq (.reg [(Qa 11 (.mv (.c .any)))]) (.seq (.seq (.reg [(Qm 66 2)]) (.blk 0 (.seq (.reg [(Qa 68 (.bin .eql (.t 66) (.c (.iv 1)))),(Qm 67 68)]) (.ite (.t 67) (.reg [(Qa 11 (.mv (.c (.clo 114 []))))]) (.seq (.reg [(Qa 70 (.bin .eql (.t 66) (.c (.iv 2)))),(Qm 69 70)]) (.ite (.t 69) (.reg [(Qa 11 (.mv (.c (.clo 115 []))))]) (.seq (.reg [(Qi 6 0)]) (.ret)))))))) (.seq (.reg [(Qi 12 0)]) (.seq (.seq (.reg [(Qe 71 8 7),(Qe 72 8 9),(Qa 73 (.bsl 66 8 2 [.iv 0,.iv 0,.iv 0,.ff,.ff,.ff,.ff,.ff] [(0,(.t 71)),(1,(.t 72))])),(Qa 74 (.len (.t 73))),(Qi 75 0)]) (.blk 1 (.loop e63_L0))) (.seq (.seq (.reg [(Qf 85 1 3),(Ql 86 85),(Qa 87 (.len (.t 86))),(Qi 88 0)]) (.blk 3 (.loop e63_L1))) (.seq (.reg [(Qm 134 12),(Qm 6 134)]) (.ret)))))))))))
theorem ok63:FnOK Tryz.prog 63 Tryz.f63 e63 [.t 6] 3 132:=⟨by kernel_rfl,⟨_,rfl,by kernel_rfl⟩,by kernel_rfl,by kernel_rfl⟩
noncomputable def Z7h:Int→Option Int
| x58=>
 some x58
noncomputable def Z8h (x45:Int):Int→Option ((Int×Int) ⊕ Int)
| x48=>
 some (.inl (x48,wr (x45+1)))
noncomputable def Z9h (x44:Int) (x45:Int):Bool→Option ((Int×Int) ⊕ Int)
| x47=>
 ifb x47 (
 (Z8h x45) (wr (x44+1))) (
 (Z8h x45) x44)
noncomputable def Zah (x1:Scene) (x2:Edge) (x3:Int) (x11:Side):(Int×Int)→Option ((Int×Int) ⊕ Int)
| (x44,x45)=>
 ifb (decide (x45<(ln Mail.row x1.Mail))) (
 (at_ x1.Mail x45).bind fun x46=>
 ifb (decide (x46.Msg.Kind=x3)) (
 ifb (decide (x46.Msg.Epoch=x11.Epoch)) (
 ifb (decide (((min x46.From x46.To))=((min x2.A x2.B)))) (
 (Z9h x44 x45) (decide (((max x46.From x46.To))=((max x2.A x2.B))))) (
 (Z9h x44 x45) false)) (
 (Z9h x44 x45) false)) (
 (Z9h x44 x45) false)) (
 Option.map Sum.inr (Z7h x44))
noncomputable def Zbh (x1:Scene) (x2:Edge) (x3:Int) (x11:Side):Int→Option Int
| x38=>
 loop (Zah x1 x2 x3 x11) (x38,0)
noncomputable def Zch (x24:Int):Int→Option ((Int×Int) ⊕ Int)
| x27=>
 some (.inl (x27,wr (x24+1)))
noncomputable def Zdh (x1:Scene) (x2:Edge) (x3:Int) (x11:Side) (x16:Side):(Int×Int)→Option ((Int×Int) ⊕ Int)
| (x23,x24)=>
 ifb (decide (x24<(ln Side.row ([x11,x16])))) (
 (at_ ([x11,x16]) x24).bind fun x25=>
 (Z3h x25).bind fun x26=>
 ifb x26 (
 (Zch x24) (wr (x23+1))) (
 (Zch x24) x23)) (
 Option.map Sum.inr ((Zbh x1 x2 x3 x11) x23))
noncomputable def Zeh:Int→Option Int
| x99=>
 some x99
noncomputable def Zfh (x86:Int):Int→Option ((Int×Int) ⊕ Int)
| x89=>
 some (.inl (x89,wr (x86+1)))
noncomputable def Zgh (x85:Int) (x86:Int):Bool→Option ((Int×Int) ⊕ Int)
| x88=>
 ifb x88 (
 (Zfh x86) (wr (x85+1))) (
 (Zfh x86) x85)
noncomputable def Zhh (x1:Scene) (x2:Edge) (x3:Int) (x11:Side):(Int×Int)→Option ((Int×Int) ⊕ Int)
| (x85,x86)=>
 ifb (decide (x86<(ln Mail.row x1.Mail))) (
 (at_ x1.Mail x86).bind fun x87=>
 ifb (decide (x87.Msg.Kind=x3)) (
 ifb (decide (x87.Msg.Epoch=x11.Epoch)) (
 ifb (decide (((min x87.From x87.To))=((min x2.A x2.B)))) (
 (Zgh x85 x86) (decide (((max x87.From x87.To))=((max x2.A x2.B))))) (
 (Zgh x85 x86) false)) (
 (Zgh x85 x86) false)) (
 (Zgh x85 x86) false)) (
 Option.map Sum.inr (Zeh x85))
noncomputable def Zih (x1:Scene) (x2:Edge) (x3:Int) (x11:Side):Int→Option Int
| x79=>
 loop (Zhh x1 x2 x3 x11) (x79,0)
noncomputable def Zjh (x65:Int):Int→Option ((Int×Int) ⊕ Int)
| x68=>
 some (.inl (x68,wr (x65+1)))
noncomputable def Zkh (x1:Scene) (x2:Edge) (x3:Int) (x11:Side) (x16:Side):(Int×Int)→Option ((Int×Int) ⊕ Int)
| (x64,x65)=>
 ifb (decide (x65<(ln Side.row ([x11,x16])))) (
 (at_ ([x11,x16]) x65).bind fun x66=>
 (Z5h x66).bind fun x67=>
 ifb x67 (
 (Zjh x65) (wr (x64+1))) (
 (Zjh x65) x64)) (
 Option.map Sum.inr ((Zih x1 x2 x3 x11) x64))
noncomputable def Zlh (x1:Scene) (x2:Edge) (x3:Int) (x11:Side) (x16:Side):Bool→Option Int
| x17=>
 ifb x17 (
 some 0) (
 ifb (decide (x3=1)) (
 loop (Zdh x1 x2 x3 x11 x16) (0,0)) (
 ifb (decide (x3=2)) (
 loop (Zkh x1 x2 x3 x11 x16) (0,0)) (
 some 0)))
noncomputable def Zmh (x1:Scene) (x2:Edge) (x3:Int) (x10:Bool) (x11:Side):(Bool×Side)→Option Int
| (x15,x16)=>
 ifb (!x10) (
 (Zlh x1 x2 x3 x11 x16) true) (
 ifb (!x15) (
 (Zlh x1 x2 x3 x11 x16) true) (
 (Zlh x1 x2 x3 x11 x16) (!decide (x11.Epoch=x16.Epoch))))
noncomputable def Znh (x1:Scene) (x2:Edge) (x3:Int):(Bool×Side)→Option Int
| (x10,x11)=>
 (at_ x1.Diners x2.B).bind fun x12=>
 (Zi7 x12 x2.A).bind fun x13=>
 (Zmh x1 x2 x3 x10 x11) (x13.2,x13.1)
noncomputable def Zoh (x1:Scene) (x2:Edge) (x3:Int):Bool→Option Int
| x6=>
 ifb x6 (
 some 0) (
 (at_ x1.Diners x2.A).bind fun x7=>
 (Zi7 x7 x2.B).bind fun x8=>
 (Znh x1 x2 x3) (x8.2,x8.1))
noncomputable def Zph (x1:Scene) (x2:Edge) (x3:Int):Option Int:=
 (Zif x1 x2.A).bind fun x4=>
 ifb (!x4) (
 (Zoh x1 x2 x3) true) (
 (Zif x1 x2.B).bind fun x5=>
 (Zoh x1 x2 x3) (!x5))
theorem k_table_Count (x1:Scene) (x2:Edge) (x3:Int) (r:Int) (h:Zph x1 x2 x3=some r):Zs2 Tryz.prog 63 [.agg (Scene.row x1),.agg (Edge.row x2),.iv x3] (.iv r):=by
 refine Zw2 ok63 rfl rfl fun w0 H0=>?_
 rw [Zph] at h
 refine Zn2 12 ?_;dsimp only [go_sem];refine An ?_;obtain ⟨x4,ex4,h⟩:=Bs h;refine Z13 trivial (Zjf x1 x2.A _ ex4) (h:=?_);refine Zn2 2 ?_;dsimp only [go_sem];refine An ?_;refine Zg4 (fun (x6:Bool)=>(⟨(.any :: .any :: .iv x3 :: .ptr 0 0 :: .ptr 1 0::an 23 (.bv x6::an 106 [])),[some ⟨48,[.sl 3 (List.map Diner.row x1.Diners),.sl 5 (List.map Mail.row x1.Mail)]⟩,some ⟨30,[.iv x2.A,.iv x2.B]⟩],[]⟩:St)) (Zoh x1 x2 x3) r ?_ fun J1=>?_
 ·intro x6 h;rw [Zoh] at h;(try dsimp only);refine Zi4 h rfl (fun _ h=>?_) fun _ h=>?_
  ·refine Zn2 4 ?_;dsimp only [go_sem];refine An ?_;exact Zq4 (res:=fun (r:Int)=>.iv r) ok63 h
  ·refine Zn2 2 ?_;dsimp only [go_sem];refine An ?_;refine Zg4 (fun ((x10,x11):(Bool×Side))=>(⟨(.any :: .any :: .iv x3 :: .ptr 0 0 :: .ptr 1 0 :: .any :: .any :: .ptr 2 0 :: .bv x10::an 126 []),[some ⟨48,[.sl 3 (List.map Diner.row x1.Diners),.sl 5 (List.map Mail.row x1.Mail)]⟩,some ⟨30,[.iv x2.A,.iv x2.B]⟩,some ⟨66,[.iv x11.Peer,.iv x11.Epoch,.iv x11.State,.bv x11.Fork,.bv x11.Dirty,.bv x11.Token,.bv x11.Bottle,.bv x11.Ask]⟩],[]⟩:St)) (Znh x1 x2 x3) r ?_ fun J2=>?_
   ·rintro ⟨x10,x11⟩ h;rw [Znh] at h;(try dsimp only);refine Zn2 1 ?_;dsimp only [go_sem];refine An ?_
    refine Zg4 (fun ((x15,x16):(Bool×Side))=>(⟨(.any :: .any :: .iv x3 :: .ptr 0 0 :: .ptr 1 0 :: .any :: .any :: .ptr 2 0 :: .bv x10 :: .ptr 3 0 :: .bv x15::an 124 []),[some ⟨48,[.sl 3 (List.map Diner.row x1.Diners),.sl 5 (List.map Mail.row x1.Mail)]⟩,some ⟨30,[.iv x2.A,.iv x2.B]⟩,some ⟨66,[.iv x11.Peer,.iv x11.Epoch,.iv x11.State,.bv x11.Fork,.bv x11.Dirty,.bv x11.Token,.bv x11.Bottle,.bv x11.Ask]⟩,some ⟨66,[.iv x16.Peer,.iv x16.Epoch,.iv x16.State,.bv x16.Fork,.bv x16.Dirty,.bv x16.Token,.bv x16.Bottle,.bv x16.Ask]⟩],[]⟩:St)) (Zmh x1 x2 x3 x10 x11) r ?_ fun J3=>?_
    ·rintro ⟨x15,x16⟩ h;rw [Zmh] at h;(try dsimp only);refine Zn2 6 ?_;dsimp only [go_sem];refine An ?_
     refine Zg4 (fun (x17:Bool)=>(⟨(.any :: .any :: .iv x3 :: .ptr 0 0 :: .ptr 1 0 :: .any :: .any :: .ptr 2 0 :: .any :: .ptr 3 0::an 55 (.bv x17::an 69 [])),[some ⟨48,[.sl 3 (List.map Diner.row x1.Diners),.sl 5 (List.map Mail.row x1.Mail)]⟩,some ⟨30,[.iv x2.A,.iv x2.B]⟩,some ⟨66,[.iv x11.Peer,.iv x11.Epoch,.iv x11.State,.bv x11.Fork,.bv x11.Dirty,.bv x11.Token,.bv x11.Bottle,.bv x11.Ask]⟩,some ⟨66,[.iv x16.Peer,.iv x16.Epoch,.iv x16.State,.bv x16.Fork,.bv x16.Dirty,.bv x16.Token,.bv x16.Bottle,.bv x16.Ask]⟩],[]⟩:St)) (Zlh x1 x2 x3 x11 x16) r ?_ fun J4=>?_
     ·intro x17 h;rw [Zlh] at h;(try dsimp only);refine Zi4 h rfl (fun _ h=>?_) fun _ h=>?_
      ·refine Zn2 4 ?_;dsimp only [go_sem];refine An ?_;exact Zq4 (res:=fun (r:Int)=>.iv r) ok63 h
      ·refine Zn2 16 ?_;dsimp only [go_sem];refine An ?_;refine Zi4 h rfl (fun _ h=>?_) fun _ h=>?_
       ·refine Zn2 17 ?_;dsimp only [go_sem];refine An ?_;refine Zg4 (fun (x38:Int)=>(⟨(.any :: .any :: .iv x3 :: .ptr 0 0 :: .ptr 1 0 :: .any :: .any :: .ptr 2 0::an 4 (.iv x38::an 122 [])),[some ⟨48,[.sl 3 (List.map Diner.row x1.Diners),.sl 5 (List.map Mail.row x1.Mail)]⟩,some ⟨30,[.iv x2.A,.iv x2.B]⟩,some ⟨66,[.iv x11.Peer,.iv x11.Epoch,.iv x11.State,.bv x11.Fork,.bv x11.Dirty,.bv x11.Token,.bv x11.Bottle,.bv x11.Ask]⟩],[]⟩:St)) (Zbh x1 x2 x3 x11) r ?_ fun J5=>?_
        ·intro x38 h;rw [Zbh] at h;(try dsimp only);refine Zn2 8 ?_;dsimp only [go_sem];refine An ?_;refine Zg4 (fun (x58:Int)=>(⟨(an 12 (.iv x58::an 122 [])),[],[]⟩:St)) Z7h r ?_ fun J7=>?_
         ·intro x58 h;rw [Z7h] at h;(try dsimp only);refine Zn2 5 ?_;dsimp only [go_sem];refine An ?_;exact Zq4 (res:=fun (r:Int)=>.iv r) ok63 h
         ·refine Zn2 1 ?_;dsimp only [go_sem];refine An ?_;refine Zh4 h (fun ((x44,x45):(Int×Int))=>(⟨(.any :: .any :: .iv x3 :: .any :: .ptr 1 0 :: .any :: .any :: .ptr 2 0::an 4 (.iv x44::an 73 (.sl 5 (List.map Mail.row x1.Mail) :: .iv (ln Mail.row x1.Mail) :: .iv x45::an 46 []))),[none,some ⟨30,[.iv x2.A,.iv x2.B]⟩,some ⟨66,[.iv x11.Peer,.iv x11.Epoch,.iv x11.State,.bv x11.Fork,.bv x11.Dirty,.bv x11.Token,.bv x11.Bottle,.bv x11.Ask]⟩],[]⟩:St)) (by simp [go_sem]) (by rintro ⟨x44,x45⟩;first | rfl | simp [go_sem]) ?_
          rintro n1 ⟨x44,x45⟩ y1 h hin1 hout1;rw [Zah] at h;(try dsimp only);refine Zn2 5 ?_;dsimp only [go_sem];refine An ?_;refine Zi4 h rfl (fun _ h=>?_) fun _ h=>?_
          ·refine Zn2 5 ?_;dsimp only [go_sem];refine An ?_;obtain ⟨x46,ex46,h⟩:=Bs h;refine Zl4 Mail.row ex46 trivial rfl rfl rfl ?_;refine Zn2 12 ?_;dsimp only [go_sem];refine An ?_
           refine Zg4 (fun (x47:Bool)=>(⟨(.any :: .any :: .iv x3 :: .any :: .ptr 1 0 :: .any :: .any :: .ptr 2 0::an 4 (.iv x44::an 73 (.sl 5 (List.map Mail.row x1.Mail) :: .iv (ln Mail.row x1.Mail) :: .iv x45::an 41 (.bv x47::an 4 [])))),[none,some ⟨30,[.iv x2.A,.iv x2.B]⟩,some ⟨66,[.iv x11.Peer,.iv x11.Epoch,.iv x11.State,.bv x11.Fork,.bv x11.Dirty,.bv x11.Token,.bv x11.Bottle,.bv x11.Ask]⟩],[]⟩:St)) (Z9h x44 x45) y1 ?_ fun J8=>?_
           ·intro x47 h;rw [Z9h] at h;(try dsimp only);refine Zg4 (fun (x48:Int)=>(⟨(.any :: .any :: .iv x3 :: .any :: .ptr 1 0 :: .any :: .any :: .ptr 2 0::an 4 (.iv x48::an 73 (.sl 5 (List.map Mail.row x1.Mail) :: .iv (ln Mail.row x1.Mail) :: .iv x45::an 46 []))),[none,some ⟨30,[.iv x2.A,.iv x2.B]⟩,some ⟨66,[.iv x11.Peer,.iv x11.Epoch,.iv x11.State,.bv x11.Fork,.bv x11.Dirty,.bv x11.Token,.bv x11.Bottle,.bv x11.Ask]⟩],[]⟩:St)) (Z8h x45) y1 ?_ fun J9=>?_
            ·intro x48 h;rw [Z8h] at h;(try dsimp only);refine Zn2 5 ?_;dsimp only [go_sem];refine An ?_;exact Zr4 h hin1
            ·refine Zi4 h rfl (fun _ h=>?_) fun _ h=>?_
             ·refine Zn2 5 ?_;dsimp only [go_sem];refine An ?_;exact Zs4 J9 (s:=wr (x44+1)) h
             ·refine Zn2 1 ?_;dsimp only [go_sem];refine An ?_;exact Zs4 J9 (s:=x44) h
           ·refine Zp4 97 h rfl (fun _ h=>?_) fun _ h=>?_
            ·dsimp only [go_sem];refine Zn2 8 ?_;dsimp only [go_sem];refine An ?_;refine Zp4 105 h rfl (fun _ h=>?_) fun _ h=>?_
             ·dsimp only [go_sem];refine Zn2 13 ?_;dsimp only [go_sem];refine An ?_;refine Zp4 118 h rfl (fun _ h=>?_) fun _ h=>?_
              ·dsimp only [go_sem];refine Zn2 13 ?_;dsimp only [go_sem];refine An ?_;exact Zs4 J8 (s:=decide (((max x46.From x46.To))=((max x2.A x2.B)))) h
              ·dsimp only [go_sem];refine Zn2 13 ?_;dsimp only [go_sem];refine An ?_;exact Zs4 J8 (s:=false) h
             ·dsimp only [go_sem];refine Zn2 26 ?_;dsimp only [go_sem];refine An ?_;exact Zs4 J8 (s:=false) h
            ·dsimp only [go_sem];refine Zn2 34 ?_;dsimp only [go_sem];refine An ?_;exact Zs4 J8 (s:=false) h
          ·refine Zn2 1 ?_;dsimp only [go_sem];refine An ?_;exact Zs4 J7 (s:=x44) (Zf4 h hout1)
        ·refine Zn2 1 ?_;dsimp only [go_sem];refine An ?_
         refine Zh4 h (fun ((x23,x24):(Int×Int))=>(⟨(.any :: .any :: .iv x3 :: .ptr 0 0 :: .ptr 1 0 :: .any :: .any :: .ptr 2 0::an 3 (.clo 114 [] :: .iv x23::an 60 (.osl 0 :: .iv (ln Side.row ([x11,x16])) :: .iv x24::an 59 []))),[some ⟨48,[.sl 3 (List.map Diner.row x1.Diners),.sl 5 (List.map Mail.row x1.Mail)]⟩,some ⟨30,[.iv x2.A,.iv x2.B]⟩,some ⟨66,[.iv x11.Peer,.iv x11.Epoch,.iv x11.State,.bv x11.Fork,.bv x11.Dirty,.bv x11.Token,.bv x11.Bottle,.bv x11.Ask]⟩],[some ⟨66,8,List.map Side.row ([x11,x16])⟩]⟩:St)) (by simp [go_sem]) (by rintro ⟨x23,x24⟩;first | rfl | simp [go_sem]) ?_
         rintro n1 ⟨x23,x24⟩ y1 h hin1 hout1;rw [Zdh] at h;(try dsimp only);refine Zn2 5 ?_;dsimp only [go_sem];refine An ?_;refine Zi4 h rfl (fun _ h=>?_) fun _ h=>?_
         ·refine Zn2 5 ?_;dsimp only [go_sem];refine An ?_;obtain ⟨x25,ex25,h⟩:=Bs h;refine Z95 Side.row ex25 trivial rfl rfl rfl ?_;refine Zb5 Side.row ex25 trivial rfl rfl rfl ?_;refine Zn2 7 ?_;dsimp only [go_sem];refine An ?_;obtain ⟨x26,ex26,h⟩:=Bs h;refine V_callv trivial rfl (Z4h x25 _ ex26) (by kernel_rfl) (h:=?_);refine Zn2 1 ?_;dsimp only [go_sem];refine An ?_
          refine Zg4 (fun (x27:Int)=>(⟨(.any :: .any :: .iv x3 :: .ptr 0 0 :: .ptr 1 0 :: .any :: .any :: .ptr 2 0::an 3 (.clo 114 [] :: .iv x27::an 60 (.osl 0 :: .iv (ln Side.row ([x11,x16])) :: .iv x24::an 59 []))),[some ⟨48,[.sl 3 (List.map Diner.row x1.Diners),.sl 5 (List.map Mail.row x1.Mail)]⟩,some ⟨30,[.iv x2.A,.iv x2.B]⟩,some ⟨66,[.iv x11.Peer,.iv x11.Epoch,.iv x11.State,.bv x11.Fork,.bv x11.Dirty,.bv x11.Token,.bv x11.Bottle,.bv x11.Ask]⟩],[some ⟨66,8,List.map Side.row ([x11,x16])⟩]⟩:St)) (Zch x24) y1 ?_ fun J6=>?_
          ·intro x27 h;rw [Zch] at h;(try dsimp only);refine Zn2 5 ?_;dsimp only [go_sem];refine An ?_;exact Zr4 h hin1
          ·refine Zi4 h rfl (fun _ h=>?_) fun _ h=>?_
           ·refine Zn2 5 ?_;dsimp only [go_sem];refine An ?_;exact Zs4 J6 (s:=wr (x23+1)) h
           ·refine Zn2 1 ?_;dsimp only [go_sem];refine An ?_;exact Zs4 J6 (s:=x23) h
         ·refine Zn2 1 ?_;dsimp only [go_sem];refine An ?_;exact Zs4 J5 (s:=x23) (Zf4 h hout1)
       ·refine Zn2 5 ?_;dsimp only [go_sem];refine An ?_;refine Zi4 h rfl (fun _ h=>?_) fun _ h=>?_
        ·refine Zn2 17 ?_;dsimp only [go_sem];refine An ?_;refine Zg4 (fun (x79:Int)=>(⟨(.any :: .any :: .iv x3 :: .ptr 0 0 :: .ptr 1 0 :: .any :: .any :: .ptr 2 0::an 4 (.iv x79::an 122 [])),[some ⟨48,[.sl 3 (List.map Diner.row x1.Diners),.sl 5 (List.map Mail.row x1.Mail)]⟩,some ⟨30,[.iv x2.A,.iv x2.B]⟩,some ⟨66,[.iv x11.Peer,.iv x11.Epoch,.iv x11.State,.bv x11.Fork,.bv x11.Dirty,.bv x11.Token,.bv x11.Bottle,.bv x11.Ask]⟩],[]⟩:St)) (Zih x1 x2 x3 x11) r ?_ fun J10=>?_
         ·intro x79 h;rw [Zih] at h;(try dsimp only);refine Zn2 8 ?_;dsimp only [go_sem];refine An ?_;refine Zg4 (fun (x99:Int)=>(⟨(an 12 (.iv x99::an 122 [])),[],[]⟩:St)) Zeh r ?_ fun J12=>?_
          ·intro x99 h;rw [Zeh] at h;(try dsimp only);refine Zn2 5 ?_;dsimp only [go_sem];refine An ?_;exact Zq4 (res:=fun (r:Int)=>.iv r) ok63 h
          ·refine Zn2 1 ?_;dsimp only [go_sem];refine An ?_;refine Zh4 h (fun ((x85,x86):(Int×Int))=>(⟨(.any :: .any :: .iv x3 :: .any :: .ptr 1 0 :: .any :: .any :: .ptr 2 0::an 4 (.iv x85::an 73 (.sl 5 (List.map Mail.row x1.Mail) :: .iv (ln Mail.row x1.Mail) :: .iv x86::an 46 []))),[none,some ⟨30,[.iv x2.A,.iv x2.B]⟩,some ⟨66,[.iv x11.Peer,.iv x11.Epoch,.iv x11.State,.bv x11.Fork,.bv x11.Dirty,.bv x11.Token,.bv x11.Bottle,.bv x11.Ask]⟩],[]⟩:St)) (by simp [go_sem]) (by rintro ⟨x85,x86⟩;first | rfl | simp [go_sem]) ?_
           rintro n1 ⟨x85,x86⟩ y1 h hin1 hout1;rw [Zhh] at h;(try dsimp only);refine Zn2 5 ?_;dsimp only [go_sem];refine An ?_;refine Zi4 h rfl (fun _ h=>?_) fun _ h=>?_
           ·refine Zn2 5 ?_;dsimp only [go_sem];refine An ?_;obtain ⟨x87,ex87,h⟩:=Bs h;refine Zl4 Mail.row ex87 trivial rfl rfl rfl ?_;refine Zn2 12 ?_;dsimp only [go_sem];refine An ?_
            refine Zg4 (fun (x88:Bool)=>(⟨(.any :: .any :: .iv x3 :: .any :: .ptr 1 0 :: .any :: .any :: .ptr 2 0::an 4 (.iv x85::an 73 (.sl 5 (List.map Mail.row x1.Mail) :: .iv (ln Mail.row x1.Mail) :: .iv x86::an 41 (.bv x88::an 4 [])))),[none,some ⟨30,[.iv x2.A,.iv x2.B]⟩,some ⟨66,[.iv x11.Peer,.iv x11.Epoch,.iv x11.State,.bv x11.Fork,.bv x11.Dirty,.bv x11.Token,.bv x11.Bottle,.bv x11.Ask]⟩],[]⟩:St)) (Zgh x85 x86) y1 ?_ fun J13=>?_
            ·intro x88 h;rw [Zgh] at h;(try dsimp only);refine Zg4 (fun (x89:Int)=>(⟨(.any :: .any :: .iv x3 :: .any :: .ptr 1 0 :: .any :: .any :: .ptr 2 0::an 4 (.iv x89::an 73 (.sl 5 (List.map Mail.row x1.Mail) :: .iv (ln Mail.row x1.Mail) :: .iv x86::an 46 []))),[none,some ⟨30,[.iv x2.A,.iv x2.B]⟩,some ⟨66,[.iv x11.Peer,.iv x11.Epoch,.iv x11.State,.bv x11.Fork,.bv x11.Dirty,.bv x11.Token,.bv x11.Bottle,.bv x11.Ask]⟩],[]⟩:St)) (Zfh x86) y1 ?_ fun J14=>?_
             ·intro x89 h;rw [Zfh] at h;(try dsimp only);refine Zn2 5 ?_;dsimp only [go_sem];refine An ?_;exact Zr4 h hin1
             ·refine Zi4 h rfl (fun _ h=>?_) fun _ h=>?_
              ·refine Zn2 5 ?_;dsimp only [go_sem];refine An ?_;exact Zs4 J14 (s:=wr (x85+1)) h
              ·refine Zn2 1 ?_;dsimp only [go_sem];refine An ?_;exact Zs4 J14 (s:=x85) h
            ·refine Zp4 97 h rfl (fun _ h=>?_) fun _ h=>?_
             ·dsimp only [go_sem];refine Zn2 8 ?_;dsimp only [go_sem];refine An ?_;refine Zp4 105 h rfl (fun _ h=>?_) fun _ h=>?_
              ·dsimp only [go_sem];refine Zn2 13 ?_;dsimp only [go_sem];refine An ?_;refine Zp4 118 h rfl (fun _ h=>?_) fun _ h=>?_
               ·dsimp only [go_sem];refine Zn2 13 ?_;dsimp only [go_sem];refine An ?_;exact Zs4 J13 (s:=decide (((max x87.From x87.To))=((max x2.A x2.B)))) h
               ·dsimp only [go_sem];refine Zn2 13 ?_;dsimp only [go_sem];refine An ?_;exact Zs4 J13 (s:=false) h
              ·dsimp only [go_sem];refine Zn2 26 ?_;dsimp only [go_sem];refine An ?_;exact Zs4 J13 (s:=false) h
             ·dsimp only [go_sem];refine Zn2 34 ?_;dsimp only [go_sem];refine An ?_;exact Zs4 J13 (s:=false) h
           ·refine Zn2 1 ?_;dsimp only [go_sem];refine An ?_;exact Zs4 J12 (s:=x85) (Zf4 h hout1)
         ·refine Zn2 1 ?_;dsimp only [go_sem];refine An ?_
          refine Zh4 h (fun ((x64,x65):(Int×Int))=>(⟨(.any :: .any :: .iv x3 :: .ptr 0 0 :: .ptr 1 0 :: .any :: .any :: .ptr 2 0::an 3 (.clo 115 [] :: .iv x64::an 60 (.osl 0 :: .iv (ln Side.row ([x11,x16])) :: .iv x65::an 59 []))),[some ⟨48,[.sl 3 (List.map Diner.row x1.Diners),.sl 5 (List.map Mail.row x1.Mail)]⟩,some ⟨30,[.iv x2.A,.iv x2.B]⟩,some ⟨66,[.iv x11.Peer,.iv x11.Epoch,.iv x11.State,.bv x11.Fork,.bv x11.Dirty,.bv x11.Token,.bv x11.Bottle,.bv x11.Ask]⟩],[some ⟨66,8,List.map Side.row ([x11,x16])⟩]⟩:St)) (by simp [go_sem]) (by rintro ⟨x64,x65⟩;first | rfl | simp [go_sem]) ?_
          rintro n1 ⟨x64,x65⟩ y1 h hin1 hout1;rw [Zkh] at h;(try dsimp only);refine Zn2 5 ?_;dsimp only [go_sem];refine An ?_;refine Zi4 h rfl (fun _ h=>?_) fun _ h=>?_
          ·refine Zn2 5 ?_;dsimp only [go_sem];refine An ?_;obtain ⟨x66,ex66,h⟩:=Bs h;refine Z95 Side.row ex66 trivial rfl rfl rfl ?_;refine Zb5 Side.row ex66 trivial rfl rfl rfl ?_;refine Zn2 7 ?_;dsimp only [go_sem];refine An ?_;obtain ⟨x67,ex67,h⟩:=Bs h;refine V_callv trivial rfl (Z6h x66 _ ex67) (by kernel_rfl) (h:=?_);refine Zn2 1 ?_;dsimp only [go_sem];refine An ?_
           refine Zg4 (fun (x68:Int)=>(⟨(.any :: .any :: .iv x3 :: .ptr 0 0 :: .ptr 1 0 :: .any :: .any :: .ptr 2 0::an 3 (.clo 115 [] :: .iv x68::an 60 (.osl 0 :: .iv (ln Side.row ([x11,x16])) :: .iv x65::an 59 []))),[some ⟨48,[.sl 3 (List.map Diner.row x1.Diners),.sl 5 (List.map Mail.row x1.Mail)]⟩,some ⟨30,[.iv x2.A,.iv x2.B]⟩,some ⟨66,[.iv x11.Peer,.iv x11.Epoch,.iv x11.State,.bv x11.Fork,.bv x11.Dirty,.bv x11.Token,.bv x11.Bottle,.bv x11.Ask]⟩],[some ⟨66,8,List.map Side.row ([x11,x16])⟩]⟩:St)) (Zjh x65) y1 ?_ fun J11=>?_
           ·intro x68 h;rw [Zjh] at h;(try dsimp only);refine Zn2 5 ?_;dsimp only [go_sem];refine An ?_;exact Zr4 h hin1
           ·refine Zi4 h rfl (fun _ h=>?_) fun _ h=>?_
            ·refine Zn2 5 ?_;dsimp only [go_sem];refine An ?_;exact Zs4 J11 (s:=wr (x64+1)) h
            ·refine Zn2 1 ?_;dsimp only [go_sem];refine An ?_;exact Zs4 J11 (s:=x64) h
          ·refine Zn2 1 ?_;dsimp only [go_sem];refine An ?_;exact Zs4 J10 (s:=x64) (Zf4 h hout1)
        ·refine Zn2 4 ?_;dsimp only [go_sem];refine An ?_;exact Zq4 (res:=fun (r:Int)=>.iv r) ok63 h
     ·refine Zp4 55 h rfl (fun _ h=>?_) fun _ h=>?_
      ·dsimp only [go_sem];refine Zn2 11 ?_;dsimp only [go_sem];refine An ?_;exact Zs4 J4 (s:=true) h
      ·dsimp only [go_sem];refine Zn2 4 ?_;dsimp only [go_sem];refine An ?_;refine Zp4 59 h rfl (fun _ h=>?_) fun _ h=>?_
       ·dsimp only [go_sem];refine Zn2 7 ?_;dsimp only [go_sem];refine An ?_;exact Zs4 J4 (s:=true) h
       ·dsimp only [go_sem];refine Zn2 7 ?_;dsimp only [go_sem];refine An ?_;exact Zs4 J4 (s:=!decide (x11.Epoch=x16.Epoch)) h
    ·refine Zi3 (by kernel_rfl) fun all hall hs hnap haf=>?_;dsimp only [go_sem];refine Z75 hall hs haf hnap 6 9 [4,2,2,7] [(42,[.ptr 0 0,.sl 3 (List.map Diner.row x1.Diners),.ptr 1 1,.iv x2.B]),(2,[.ptr 1 0,.iv x2.A])] (by kernel_rfl) ?_;dsimp only [go_sem];obtain ⟨x12,ex12,h⟩:=Bs h;refine Zm4 hall hs haf hnap 4 Diner.row ex12 rfl rfl trivial rfl rfl rfl rfl ?_;refine Z65 hall hs haf hnap 1 7 ?_;dsimp only [go_sem];refine An ?_;obtain ⟨x13,ex13,h⟩:=Bs h;refine Zu3 8 12 rfl ?_ ?_
     ·refine Zz3 hall rfl trivial (Zj7 x12 x2.A _ ex13) (h:=?_);dsimp only [go_sem];refine Z65 hall hs haf hnap 3 3 ?_;dsimp only [go_sem];refine An ?_;refine Zt3 12 rfl ?_;refine Zy3 hall rfl trivial ?_;dsimp only [go_sem];refine Zt3 13 rfl ?_;refine Zy3 hall rfl trivial ?_;dsimp only [go_sem];refine Z65 hall hs haf hnap 1 0 ?_;dsimp only [go_sem];refine An ?_;refine Zs3 rfl ?_ _;exact Zs4 J3 (s:=(x13.2,x13.1)) h
     ·refine Zy3 hall rfl trivial ?_;dsimp only [go_sem];refine Zt3 8 rfl ?_;refine Zz3 hall rfl trivial (Zj7 x12 x2.A _ ex13) (h:=?_);dsimp only [go_sem];refine Z65 hall hs haf hnap 3 2 ?_;dsimp only [go_sem];refine An ?_;refine Zt3 13 rfl ?_;refine Zy3 hall rfl trivial ?_;dsimp only [go_sem];refine Z65 hall hs haf hnap 1 0 ?_;dsimp only [go_sem];refine An ?_;refine Zs3 rfl ?_ _;exact Zs4 J3 (s:=(x13.2,x13.1)) h
   ·refine Zi3 (by kernel_rfl) fun all hall hs hnap haf=>?_;dsimp only [go_sem];refine Z75 hall hs haf hnap 6 9 [4,2,2,7] [(30,[.ptr 0 0,.sl 3 (List.map Diner.row x1.Diners),.ptr 1 0,.iv x2.A]),(2,[.ptr 1 1,.iv x2.B])] (by kernel_rfl) ?_;dsimp only [go_sem];obtain ⟨x7,ex7,h⟩:=Bs h;refine Zm4 hall hs haf hnap 4 Diner.row ex7 rfl rfl trivial rfl rfl rfl rfl ?_;refine Z65 hall hs haf hnap 1 7 ?_;dsimp only [go_sem];refine An ?_;obtain ⟨x8,ex8,h⟩:=Bs h;refine Zu3 8 12 rfl ?_ ?_
    ·refine Zz3 hall rfl trivial (Zj7 x7 x2.B _ ex8) (h:=?_);dsimp only [go_sem];refine Z65 hall hs haf hnap 3 3 ?_;dsimp only [go_sem];refine An ?_;refine Zt3 12 rfl ?_;refine Zy3 hall rfl trivial ?_;dsimp only [go_sem];refine Zt3 13 rfl ?_;refine Zy3 hall rfl trivial ?_;dsimp only [go_sem];refine Z65 hall hs haf hnap 1 0 ?_;dsimp only [go_sem];refine An ?_;refine Zs3 rfl ?_ _;exact Zs4 J2 (s:=(x8.2,x8.1)) h
    ·refine Zy3 hall rfl trivial ?_;dsimp only [go_sem];refine Zt3 8 rfl ?_;refine Zz3 hall rfl trivial (Zj7 x7 x2.B _ ex8) (h:=?_);dsimp only [go_sem];refine Z65 hall hs haf hnap 3 2 ?_;dsimp only [go_sem];refine An ?_;refine Zt3 13 rfl ?_;refine Zy3 hall rfl trivial ?_;dsimp only [go_sem];refine Z65 hall hs haf hnap 1 0 ?_;dsimp only [go_sem];refine An ?_;refine Zs3 rfl ?_ _;exact Zs4 J2 (s:=(x8.2,x8.1)) h
 ·refine Zp4 22 h rfl (fun _ h=>?_) fun _ h=>?_
  ·dsimp only [go_sem];refine Zn2 7 ?_;dsimp only [go_sem];refine An ?_;exact Zs4 J1 (s:=true) h
  ·dsimp only [go_sem];refine Zn2 3 ?_;dsimp only [go_sem];refine An ?_;obtain ⟨x5,ex5,h⟩:=Bs h;refine Z13 trivial (Zjf x1 x2.B _ ex5) (h:=?_);refine Zn2 3 ?_;dsimp only [go_sem];refine An ?_;exact Zs4 J1 (s:=!x5) h
set_option maxRecDepth 100000
set_option maxHeartbeats 4000000
@[go_sem] def e73:EC:=.seq (.reg [(Qx 1 53 2 0),(Qa 2 (.mv (.c .ff)))]) (.seq (.reg [(Qf 3 0 1),(Ql 4 3),(Qa 5 (.bin .leq (.t 4) (.c (.iv 10)))),(Qm 6 5),(Qg 7 6 true (.loadA 2 (.t 1))),(Qg 8 6 true (.call 42 [(.t 7)])),(Qp 9 6 8),(Qm 2 9)]) (.ret))
theorem ok73:FnOK Tryz.prog 73 Tryz.f73 e73 [.t 2] 1 9:=⟨by kernel_rfl,⟨_,rfl,by kernel_rfl⟩,by kernel_rfl,by kernel_rfl⟩
noncomputable def Zqh:Bool→Option Bool
| x3=>
 some x3
noncomputable def Zrh (x1:Graph):Option Bool:=
 ifb (decide (x1.N≤10)) (
 (Zzb x1).bind fun x2=>
 Zqh x2) (
 Zqh false)
theorem Zsh (x1:Graph) (r:Bool) (h:Zrh x1=some r):Zs2 Tryz.prog 73 [.agg (Graph.row x1)] (.bv r):=by
 refine Zw2 ok73 rfl rfl fun w0 H0=>?_
 rw [Zrh] at h
 refine Zn2 11 ?_;dsimp only [go_sem];refine An ?_;refine Zg4 (fun (x3:Bool)=>(⟨(.any :: .any :: .bv x3::an 7 []),[],[]⟩:St)) Zqh r ?_ fun J1=>?_
 ·intro x3 h;rw [Zqh] at h;(try dsimp only);exact Zq4 (res:=fun (r:Bool)=>.bv r) ok73 h
 ·refine Zp4 6 h rfl (fun _ h=>?_) fun _ h=>?_
  ·dsimp only [go_sem];refine Zn2 1 ?_;dsimp only [go_sem];refine An ?_;obtain ⟨x2,ex2,h⟩:=Bs h;refine Z13 trivial (Z0c x1 _ ex2) (h:=?_);refine Zn2 3 ?_;dsimp only [go_sem];refine An ?_;exact Zs4 J1 (s:=x2) h
  ·dsimp only [go_sem];refine Zn2 5 ?_;dsimp only [go_sem];refine An ?_;exact Zs4 J1 (s:=false) h
def mailB (e:Edge) (k ep:Int) (m:Mail):Bool:=decide (m.Msg.Kind=k)&&(decide (m.Msg.Epoch=ep)&&(decide (min m.From m.To=min e.A e.B)&&decide (max m.From m.To=max e.A e.B)))
def Zth (M:List Mail) (e:Edge) (k ep:Int):Nat:=M.countP (mailB e k ep)
theorem Zuh (M:List Mail) (m:Mail) (e:Edge) (k ep:Int):Zth (M++[m]) e k ep=Zth M e k ep+bn (mailB e k ep m):=by
 unfold Zth
 rw [List.countP_append,List.countP_cons]
 cases mailB e k ep m<;>simp [bn]
theorem Zvh (M:List Mail) (e:Edge) (k ep:Int):Zth M e k ep≤M.length:=List.countP_le_length
theorem s_countL2 (s:Scene) (e:Edge) (k:Int) (x:Side) (n:Nat) (hn:n≤2) (hM:s.Mail.length≤900000):loop (Zah s e k x) ((n:Int),0)=some ((n+Zth s.Mail e k x.Epoch:Nat):Int):=by
 have key:=Zn7 s.Mail (Zah s e k x) (fun pre=>(((n+Zth pre e k x.Epoch:Nat):Int),(pre.length:Int))) ((n+Zth s.Mail e k x.Epoch:Nat):Int) (fun pre m post h=>?_) ?_
 ·exact key
 ·have hx:=Zo7 h
  have hm:=Zp7 h
  have hc:=Zvh pre e k x.Epoch
  dsimp only [Zah]
  rw [Z16 hx,Zv5,Zz5 hx,Option.bind_some,Zuh,Zt7]
  have step:∀z,Z9h ((n+Zth pre e k x.Epoch:Nat):Int) (pre.length:Int) z=some (.inl (((n+(Zth pre e k x.Epoch+bn z):Nat):Int),((pre.length+1:Nat):Int))):=fun z=>by
   cases z with
   | true=>dsimp only [Z9h,Z8h];rw [Zv5,Z36 (by omega),Z36 (by omega)];rfl
   | false=>dsimp only [Z9h,Z8h];rw [Zw5,Z36 (by omega)];rfl
  unfold mailB
  cases h1:decide (m.Msg.Kind=k) with
  | false=>rw [Zw5,step,Bool.false_and]
  | true=>
    cases h2:decide (m.Msg.Epoch=x.Epoch) with
    | false=>rw [Zv5,Zw5,step,Bool.true_and,Bool.false_and]
    | true=>
      cases h3:decide (min m.From m.To=min e.A e.B) with
      | false=>rw [Zv5,Zv5,Zw5,step,Bool.true_and,Bool.true_and,Bool.false_and]
      | true=>rw [Zv5,Zv5,Zv5,step,Bool.true_and,Bool.true_and,Bool.true_and]
 ·dsimp only [Zah]
  rw [Z26,Zw5];rfl
theorem s_countL4 (s:Scene) (e:Edge) (k:Int) (x:Side) (n:Nat) (hn:n≤2) (hM:s.Mail.length≤900000):loop (Zhh s e k x) ((n:Int),0)=some ((n+Zth s.Mail e k x.Epoch:Nat):Int):=by
 have key:=Zn7 s.Mail (Zhh s e k x) (fun pre=>(((n+Zth pre e k x.Epoch:Nat):Int),(pre.length:Int))) ((n+Zth s.Mail e k x.Epoch:Nat):Int) (fun pre m post h=>?_) ?_
 ·exact key
 ·have hx:=Zo7 h
  have hm:=Zp7 h
  have hc:=Zvh pre e k x.Epoch
  dsimp only [Zhh]
  rw [Z16 hx,Zv5,Zz5 hx,Option.bind_some,Zuh,Zt7]
  have step:∀z,Zgh ((n+Zth pre e k x.Epoch:Nat):Int) (pre.length:Int) z=some (.inl (((n+(Zth pre e k x.Epoch+bn z):Nat):Int),((pre.length+1:Nat):Int))):=fun z=>by
   cases z with
   | true=>dsimp only [Zgh,Zfh];rw [Zv5,Z36 (by omega),Z36 (by omega)];rfl
   | false=>dsimp only [Zgh,Zfh];rw [Zw5,Z36 (by omega)];rfl
  unfold mailB
  cases h1:decide (m.Msg.Kind=k) with
  | false=>rw [Zw5,step,Bool.false_and]
  | true=>
    cases h2:decide (m.Msg.Epoch=x.Epoch) with
    | false=>rw [Zv5,Zw5,step,Bool.true_and,Bool.false_and]
    | true=>
      cases h3:decide (min m.From m.To=min e.A e.B) with
      | false=>rw [Zv5,Zv5,Zw5,step,Bool.true_and,Bool.true_and,Bool.false_and]
      | true=>rw [Zv5,Zv5,Zv5,step,Bool.true_and,Bool.true_and,Bool.true_and]
 ·dsimp only [Zhh]
  rw [Z26,Zw5];rfl
theorem s_countS1 (s:Scene) (e:Edge) (k:Int) (x y:Side):loop (Zdh s e k x y) (0,0)=Zbh s e k x ((bn x.Fork+bn y.Fork:Nat):Int):=by
 have ef:(([x,y].countP (·.Fork):Nat):Int)=((bn x.Fork+bn y.Fork:Nat):Int):=by
  rw [List.countP_cons,List.countP_cons,List.countP_nil]
  cases x.Fork<;>cases y.Fork<;>rfl
 rw [←ef]
 refine Zm7 [x,y] (Zdh s e k x y) (fun pre=>(((pre.countP (·.Fork):Nat):Int),(pre.length:Int))) (fun _ _=>Zbh s e k x (([x,y].countP (·.Fork):Nat):Int)) (fun pre z post h=>.inl ⟨?_,rfl⟩) ?_
 ·have hx:=Zo7 h
  have hm:=Zp7 h
  have h2:pre.length<2:=hm
  have hc:pre.countP (·.Fork)≤pre.length:=List.countP_le_length
  dsimp only [Zdh,Z3h,Zch]
  rw [Z16 hx,Zv5,Zz5 hx,Option.bind_some,Option.bind_some,Zt7,List.countP_append,List.countP_cons,List.countP_nil,Z36 (by omega),Z36 (by omega)]
  cases z.Fork<;>rfl
 ·dsimp only [Zdh]
  rw [Z26,Zw5]
theorem s_countS3 (s:Scene) (e:Edge) (k:Int) (x y:Side):loop (Zkh s e k x y) (0,0)=Zih s e k x ((bn x.Token+bn y.Token:Nat):Int):=by
 have ef:(([x,y].countP (·.Token):Nat):Int)=((bn x.Token+bn y.Token:Nat):Int):=by
  rw [List.countP_cons,List.countP_cons,List.countP_nil]
  cases x.Token<;>cases y.Token<;>rfl
 rw [←ef]
 refine Zm7 [x,y] (Zkh s e k x y) (fun pre=>(((pre.countP (·.Token):Nat):Int),(pre.length:Int))) (fun _ _=>Zih s e k x (([x,y].countP (·.Token):Nat):Int)) (fun pre z post h=>.inl ⟨?_,rfl⟩) ?_
 ·have hx:=Zo7 h
  have hm:=Zp7 h
  have h2:pre.length<2:=hm
  have hc:pre.countP (·.Token)≤pre.length:=List.countP_le_length
  dsimp only [Zkh,Z5h,Zjh]
  rw [Z16 hx,Zv5,Zz5 hx,Option.bind_some,Option.bind_some,Zt7,List.countP_append,List.countP_cons,List.countP_nil,Z36 (by omega),Z36 (by omega)]
  cases z.Token<;>rfl
 ·dsimp only [Zkh]
  rw [Z26,Zw5]
def countS (s:Scene) (e:Edge) (k:Int):Nat:=
 if Zkg s e.A&&Zkg s e.B then
  match s.Diners[e.A.toNat]?,s.Diners[e.B.toNat]? with
  | some da,some db=>match Zw7 da e.B,Zw7 db e.A with
    | some x,some y=>if decide (x.Epoch=y.Epoch)&&(decide (k=1)||decide (k=2)) then bn (has x k)+bn (has y k)+Zth s.Mail e k x.Epoch else 0
    | _,_=>0
  | _,_=>0
 else 0
theorem s_Count (s:Scene) (e:Edge) (k:Int) (hD:fewD s.Diners) (hM:s.Mail.length≤900000):Zph s e k=some (countS s e k:Int):=by
 simp only [Zph,s_there,Option.bind_some]
 unfold countS
 cases ha:Zkg s e.A with
 | false=>rfl
 | true=>
   cases hb:Zkg s e.B with
   | false=>rfl
   | true=>
     obtain ⟨da,a1,a2⟩:=Zlg ha
     obtain ⟨db,b1,b2⟩:=Zlg hb
     have la:=hD.2 da (List.mem_iff_getElem?.2 ⟨_,a2⟩)
     have lb:=hD.2 db (List.mem_iff_getElem?.2 ⟨_,b2⟩)
     simp only [Bool.not_true,Zw5,Zoh,a1,a2,b1,b2,Option.bind_some,Znh,s_Side da e.B (by omega),s_Side db e.A (by omega),Bool.and_self,if_true,Zmh]
     cases hx:Zw7 da e.B with
     | none=>rfl
     | some x=>
       cases hy:Zw7 db e.A with
       | none=>rfl
       | some y=>
         simp only [sideP,Bool.not_true,Zw5,Zlh]
         by_cases he:x.Epoch=y.Epoch
         ·by_cases h1:k=1
          ·subst h1
           have n2:bn x.Fork+bn y.Fork≤2:=by cases x.Fork<;>cases y.Fork<;>decide
           simp only [decide_true,Zv5,s_countS1,Zbh,s_countL2 s e 1 x _ n2 hM]
           simp [he,has]
          ·by_cases h2:k=2
           ·subst h2
            have n2:bn x.Token+bn y.Token≤2:=by cases x.Token<;>cases y.Token<;>decide
            simp only [Zw5,show decide ((2:Int)=1)=false from rfl,decide_true,Zv5,s_countS3,Zih,s_countL4 s e 2 x _ n2 hM]
            simp [he,has]
           ·simp [he,h1,h2]
         ·simp [he]
theorem Inv.first {g:Graph} (hg:okG g=true):Inv g (Zvg g):=Inv.init hg (Zug hg).1
theorem s_Small (g:Graph):Zrh g=some (decide (g.N≤10)&&okG g):=by
 simp only [Zrh,s_r03Check,Option.bind_some,Zqh]
 cases decide (g.N≤10)<;>rfl
theorem Inv.get {g:Graph} {s:Scene} (h:Inv g s) {a:Int} (h0:0≤a) (h1:a<g.N):∃d,s.Diners[a.toNat]?=some d:=by
 have:=h.len
 exact ⟨_,List.getElem?_eq_getElem (by omega)⟩
theorem Inv.sided {g:Graph} {s:Scene} (h:Inv g s) {a:Int} (h0:0≤a) {d:Diner} (hd:s.Diners[a.toNat]?=some d) {b:Int} (hb:b∈Zqc g a):∃x,Zw7 d b=some x∧x∈d.Sides:=by
 have h1:=(h.shp _ _ hd).2
 rw [Int.toNat_of_nonneg h0] at h1
 have:(Zw7 d b).isSome=true:=by rw [Zud,h1];exact decide_eq_true hb
 obtain ⟨x,hx⟩:=Option.isSome_iff_exists.1 this
 exact ⟨x,hx,(Z9e hx).1⟩
set_option maxRecDepth 100000
set_option maxHeartbeats 4000000
@[go_sem] def e76:EC:=.seq (.reg [(Qx 2 63 5 0),(Qa 3 (.alloc 63 [.iv 0,.iv 0,.nl,.iv 0,.nl])),(Qi 4 0)]) (.seq (.reg [(Qe 5 5 2),(Ql 6 1),(Qa 7 (.call 77 [(.t 5),(.t 6)])),(Qa 8 (.ext (.t 7) 0)),(Qa 9 (.ext (.t 7) 1)),(Qs 5 3 8),(Qm 4 9)]) (.ret))
theorem ok76:FnOK Tryz.prog 76 Tryz.f76 e76 [.c 3 (some 5),.t 4] 2 8:=⟨by kernel_rfl,⟨_,rfl,by kernel_rfl⟩,by kernel_rfl,by kernel_rfl⟩
noncomputable def Zwh (x1:Drinker) (x2:(List Int)):Option (Drinker×Int):=
 (Zye x1 x2).bind fun x3=>
 some (x3.1,x3.2)
theorem k_bar_Open_1 (x1:Drinker) (x2:(List Int)) (r:(Drinker×Int)) (h:Zwh x1 x2=some r):Zs2 Tryz.prog 76 [.agg (Drinker.row x1),.elt ((Zx4 1 Zw4) x2) 0] (.tup [.agg (Drinker.row r.1),.iv r.2]):=by
 refine Zw2 ok76 rfl rfl fun w0 H0=>?_
 rw [Zwh] at h
 refine Zn2 10 ?_;dsimp only [go_sem];refine An ?_;obtain ⟨x3,ex3,h⟩:=Bs h;refine Z13 trivial (k_drink_Open x1 x2 _ ex3) (h:=?_);refine Zn2 5 ?_;dsimp only [go_sem];refine An ?_;exact Zq4 (res:=fun (r:(Drinker×Int))=>.tup [.agg (Drinker.row r.1),.iv r.2]) ok76 h
set_option maxRecDepth 100000
set_option maxHeartbeats 4000000
@[go_sem] def e57:EC:=.seq (.reg [(Qx 1 63 5 0),(Qa 2 (.mv (.c .ff)))]) (.seq (.reg [(Qe 3 5 1),(Qa 4 (.call 58 [(.t 3)])),(Qa 5 (.bin .neq (.t 4) (.c (.iv 0)))),(Qm 2 5)]) (.ret))
theorem ok57:FnOK Tryz.prog 57 Tryz.f57 e57 [.t 2] 1 5:=⟨by kernel_rfl,⟨_,rfl,by kernel_rfl⟩,by kernel_rfl,by kernel_rfl⟩
noncomputable def Zxh (x1:Drinker):Option Bool:=
 (Zt9 x1).bind fun x2=>
 some (!decide (x2=0))
theorem k_bar_Check_1 (x1:Drinker) (r:Bool) (h:Zxh x1=some r):Zs2 Tryz.prog 57 [.agg (Drinker.row x1)] (.bv r):=by
 refine Zw2 ok57 rfl rfl fun w0 H0=>?_
 rw [Zxh] at h
 refine Zn2 8 ?_;dsimp only [go_sem];refine An ?_;obtain ⟨x2,ex2,h⟩:=Bs h;refine Z13 trivial (Zu9 x1 _ ex2) (h:=?_);refine Zn2 3 ?_;dsimp only [go_sem];refine An ?_;exact Zq4 (res:=fun (r:Bool)=>.bv r) ok57 h
set_option maxRecDepth 100000
set_option maxHeartbeats 4000000
@[go_sem] def e71:EC:=.seq (.reg [(Qa 2 (.mv (.c .nl)))]) (.seq (.seq (.reg [(Qm 3 0),(Qa 4 (.isnil false (.t 3)))]) (.ite (.t 4) (.seq (.reg [(Qa 2 (.mv (.c .nl)))]) (.ret)) (.skip))) (.seq (.reg [(Qa 5 (.bsl 95 5 0 [.iv 0,.iv 0,.iv 0,.iv 0,.iv 0] [])),(Qm 6 0),(Qa 7 (.app 95 5 40 (.t 5) (.t 6))),(Qm 2 7)]) (.ret)))
theorem ok71:FnOK Tryz.prog 71 Tryz.f71 e71 [.t 2] 1 7:=⟨by kernel_rfl,⟨_,rfl,by kernel_rfl⟩,by kernel_rfl,by kernel_rfl⟩
noncomputable def Zyh (x1:(List Mail)):Option (List Mail):=Zb4 40 [] x1
theorem Zzh (x1:(List Mail)) (r:(List Mail)) (h:Zyh x1=some r):FunO Tryz.prog 71 [.sl 5 (List.map Mail.row x1)] 95 5 (List.map Mail.row r):=by
 refine Z35 ok71 rfl fun w0 H0=>?_
 rw [Zyh] at h
 refine Zn2 100 ?_
 dsimp only [e71,go_sem]
 refine ⟨by simp,?_⟩
 refine V_isnil trivial rfl (fun hn=>?_) ?_
 ·refine Zn2 100 ?_
  dsimp only [go_sem]
  refine ⟨by simp,?_⟩
  refine V_own 2 95 5 rfl rfl ?_
  dsimp only [go_sem]
  have hn:x1=[]:=by simpa using hn
  subst hn
  exact Z85 Mail.row (e:=[]) ok71 (by simpa [Zb4] using h) rfl rfl
 ·refine Zn2 100 ?_
  dsimp only [go_sem]
  refine ⟨by simp,?_⟩
  refine Zn4 Mail.row h trivial rfl rfl rfl ?_
  refine Zn2 100 ?_
  dsimp only [go_sem]
  refine ⟨by simp,?_⟩
  exact Z85 Mail.row ok71 (rfl:some r=some r) rfl rfl
set_option maxRecDepth 100000
set_option maxHeartbeats 4000000
@[go_sem] def e26_L0:EC:=.seq (.reg [(Qa 15 (.bin .lss (.t 14) (.t 13)))]) (.seq (.ite (.t 15) (.skip) (.exit 0)) (.seq (.blk 1 (.seq (.reg [(Qk 16 5 12 14),(Qe 17 5 16),(Qa 5 (.alloc 63 [.iv 0,.iv 0,.nl,.iv 0,.nl])),(Qs 5 5 17)]) (.seq (.reg [(Qf 18 0 5),(Qe 19 3 18),(Qa 6 (.alloc 61 [.iv 0,.iv 0,.nl])),(Qs 3 6 19)]) (.seq (.reg [(Qf 20 2 6),(Ql 21 20),(Qa 22 (.call 72 [(.t 21)])),(Qf 23 2 6),(Qs 1 23 22)]) (.reg [(Qf 24 0 3),(Ql 25 24),(Qe 26 3 6),(Qa 27 (.bsl 61 3 1 [.iv 0,.iv 0,.nl] [(0,(.t 26))])),(Qa 28 (.app 61 3 40 (.t 25) (.t 27))),(Qf 29 0 3),(Qs 1 29 28)]))))) (.reg [(Qv 30 14 1),(Qm 14 30)])))
@[go_sem] def e26:EC:=.seq (.reg [(Qx 1 25 2 0),(Qa 2 (.alloc 48 [.nl,.nl]))]) (.seq (.reg [(Qf 7 1 1),(Ql 8 7),(Qa 9 (.call 71 [(.t 8)])),(Qa 10 (.build [.nl,.nl] [(1,1,(.t 9))])),(Qa 3 (.alloc 48 [.nl,.nl])),(Qs 2 3 10)]) (.seq (.seq (.reg [(Qf 11 0 1),(Ql 12 11),(Qa 13 (.len (.t 12))),(Qi 14 0)]) (.blk 0 (.loop e26_L0))) (.seq (.reg [(Qe 31 2 3),(Qs 2 2 31)]) (.ret))))
theorem ok26:FnOK Tryz.prog 26 Tryz.f26 e26 [.c 2 (some 2)] 1 31:=⟨by kernel_rfl,⟨_,rfl,by kernel_rfl⟩,by kernel_rfl,by kernel_rfl⟩
noncomputable def Z0i (x2:(List Mail)):(List Diner)→Option Scene
| x20=>
 some (Scene.mk x20 x2)
noncomputable def Z1i (x1:Bar) (x2:(List Mail)):(Int×(List Diner))→Option ((Int×(List Diner)) ⊕ Scene)
| (x8,x9)=>
 ifb (decide (x8<(ln Drinker.row x1.Drinkers))) (
 (at_ x1.Drinkers x8).bind fun x10=>
 (Zx8 x10.Diner.Sides).bind fun x11=>
 (Zb4 40 x9 ([(Diner.mk x10.Diner.ID x10.Diner.Phase x11)])).bind fun x12=>
 some (.inl (wr (x8+1),x12))) (
 Option.map Sum.inr ((Z0i x2) x9))
noncomputable def Z2i (x1:Bar):Option Scene:=
 (Zyh x1.Mail).bind fun x2=>
 loop (Z1i x1 x2) (0,([]:List Diner))
theorem Z3i (x1:Bar) (r:Scene) (h:Z2i x1=some r):Zs2 Tryz.prog 26 [.agg (Bar.row x1)] (.agg (Scene.row r)):=by
 refine Zw2 ok26 rfl rfl fun w0 H0=>?_
 rw [Z2i] at h
 refine Zn2 9 ?_;dsimp only [go_sem];refine An ?_;obtain ⟨x2,ex2,h⟩:=Bs h;refine Z45 trivial (Zzh x1.Mail _ ex2) (h:=?_);refine Zn2 12 ?_;dsimp only [go_sem];refine An ?_;refine Zg4 (fun (x20:(List Diner))=>(⟨(.any :: .any :: .ptr 1 0 :: .ptr 2 0::an 28 []),[none,some ⟨48,[.nl,.nl]⟩,some ⟨48,[.osl 1,.osl 0]⟩],[some ⟨95,5,List.map Mail.row x2⟩,some ⟨61,3,List.map Diner.row x20⟩]⟩:St)) (Z0i x2) r ?_ fun J1=>?_
 ·intro x20 h;rw [Z0i] at h;(try dsimp only);refine Zn2 5 ?_;dsimp only [go_sem];refine An ?_;refine Za3 1 rfl ?_;dsimp only [go_sem];refine Za3 0 rfl ?_;dsimp only [go_sem];exact Zq4 (res:=fun (r:Scene)=>.agg (Scene.row r)) ok26 h
 ·refine Zn2 1 ?_;dsimp only [go_sem];refine An ?_;refine Z54 2 0 61 3 rfl rfl rfl ?_;dsimp only [go_sem];refine Zh4 h (fun ((x8,x9):(Int×(List Diner)))=>(⟨(.any :: .any :: .ptr 1 0 :: .ptr 2 0::an 8 (.sl 5 (List.map Drinker.row x1.Drinkers) :: .iv (ln Drinker.row x1.Drinkers) :: .iv x8::an 17 [])),[none,some ⟨48,[.nl,.nl]⟩,some ⟨48,[.osl 1,.osl 0]⟩],[some ⟨95,5,List.map Mail.row x2⟩,some ⟨61,3,List.map Diner.row x9⟩]⟩:St)) (by simp [go_sem]) (by rintro ⟨x8,x9⟩;first | rfl | simp [go_sem]) ?_;rintro n1 ⟨x8,x9⟩ y1 h hin1 hout1;rw [Z1i] at h
  (try dsimp only);refine Zn2 5 ?_;dsimp only [go_sem];refine An ?_;refine Zi4 h rfl (fun _ h=>?_) fun _ h=>?_
  ·refine Zn2 5 ?_;dsimp only [go_sem];refine An ?_;obtain ⟨x10,ex10,h⟩:=Bs h;refine Zl4 Drinker.row ex10 trivial rfl rfl rfl ?_;refine Zn2 15 ?_;dsimp only [go_sem];refine An ?_;obtain ⟨x11,ex11,h⟩:=Bs h;refine Z45 trivial (Zy8 x10.Diner.Sides _ ex11) (h:=?_);refine Zn2 7 ?_;dsimp only [go_sem];refine An ?_;refine Za3 2 rfl ?_;dsimp only [go_sem];refine Zn2 1 ?_;dsimp only [go_sem];refine An ?_;obtain ⟨x12,ex12,h⟩:=Bs h;refine Zn4 Diner.row ex12 trivial rfl rfl rfl ?_;refine Zn2 8 ?_;dsimp only [go_sem];refine An ?_
   refine Z44 4 1 rfl rfl rfl ?_;dsimp only [go_sem];exact Zr4 h hin1
  ·refine Zn2 1 ?_;dsimp only [go_sem];refine An ?_;exact Zs4 J1 (s:=x9) (Zf4 h hout1)
set_option maxRecDepth 100000
set_option maxHeartbeats 4000000
@[go_sem] def e109_L0:EC:=.seq (.reg [(Qa 9 (.bin .lss (.t 8) (.t 7)))]) (.seq (.ite (.t 9) (.skip) (.exit 0)) (.seq (.blk 1 (.seq (.reg [(Qm 10 8),(Qm 5 10)]) (.seq (.reg [(Qm 11 1),(Qm 12 0),(Qm 13 5),(Qk 14 5 12 13),(Qe 15 5 14),(Qa 16 (.callv (.t 11) [(.t 15)]))]) (.ite (.t 16) (.seq (.reg [(Qm 17 5),(Qm 4 17)]) (.ret)) (.skip))))) (.reg [(Qv 18 8 1),(Qm 8 18)])))
@[go_sem] def e109:EC:=.seq (.reg [(Qi 4 0)]) (.seq (.seq (.reg [(Qm 6 0),(Qa 7 (.len (.t 6))),(Qi 8 0)]) (.blk 0 (.loop e109_L0))) (.seq (.reg [(Qa 4 (.mv (.c (.iv (-1)))))]) (.ret)))
theorem ok109:FnOK Tryz.prog 109 Tryz.f109 e109 [.t 4] 2 17:=⟨by kernel_rfl,⟨_,rfl,by kernel_rfl⟩,by kernel_rfl,by kernel_rfl⟩
noncomputable def Z4i:Unit→Option Int
| ()=>
 some (-1)
noncomputable def Z5i (x1:(List Drinker)) (p1:(Drinker→Option Bool)):Int→Option (Int ⊕ Int)
| x5=>
 ifb (decide (x5<(ln Drinker.row x1))) (
 (at_ x1 x5).bind fun x6=>
 (p1 x6).bind fun x7=>
 ifb x7 (
 Option.map Sum.inr (some x5)) (
 some (.inl (wr (x5+1))))) (
 Option.map Sum.inr (Z4i ()))
noncomputable def Z6i (x1:(List Drinker)) (p1:(Drinker→Option Bool)):Option Int:=
 loop (Z5i x1 p1) 0
theorem Z7i (x1:(List Drinker)) (g1:Nat) (caps1:List AV) (p1:(Drinker→Option Bool)) (hc1:CloOK Tryz.prog g1 caps1 (fun z=>[.agg (Drinker.row z)]) p1 (fun z=>.bv z)) (r:Int) (h:Z6i x1 p1=some r):Zs2 Tryz.prog 109 [.sl 5 (List.map Drinker.row x1),.clo g1 caps1] (.iv r):=by
 refine Zw2 ok109 rfl rfl fun w0 H0=>?_
 rw [Z6i] at h
 refine Zn2 11 ?_;dsimp only [go_sem];refine An ?_;refine Zg4 (fun (_:Unit)=>(⟨(an 19 []),[],[]⟩:St)) Z4i r ?_ fun J1=>?_
 ·rintro ⟨⟩ h;rw [Z4i] at h;(try dsimp only);refine Zn2 4 ?_;dsimp only [go_sem];refine An ?_;exact Zq4 (res:=fun (r:Int)=>.iv r) ok109 h
 ·refine Zn2 1 ?_;dsimp only [go_sem];refine An ?_;refine Zh4 h (fun (x5:Int)=>(⟨(.sl 5 (List.map Drinker.row x1) :: .clo g1 caps1::an 5 (.iv (ln Drinker.row x1) :: .iv x5::an 10 [])),[],[]⟩:St)) (by simp [go_sem]) (by intro x5;first | rfl | simp [go_sem,Z94 _ hc1.pu]) ?_;rintro n1 x5 y1 h hin1 hout1;rw [Z5i] at h;(try dsimp only);refine Zn2 5 ?_;dsimp only [go_sem];refine An ?_;refine Zi4 h rfl (fun _ h=>?_) fun _ h=>?_
  ·refine Zn2 13 ?_;dsimp only [go_sem];refine An ?_;obtain ⟨x6,ex6,h⟩:=Bs h;refine Zl4 Drinker.row ex6 trivial rfl rfl rfl ?_;refine Zn2 1 ?_;dsimp only [go_sem];refine An ?_;obtain ⟨x7,ex7,h⟩:=Bs h;refine Zv4 trivial rfl hc1 (x:=x6) ex7 (by first | exact Za4 _ | simp [go_sem]) (by first | rfl | simp [go_sem,hc1.pu]) ?_;refine Zn2 1 ?_;dsimp only [go_sem];refine An ?_;refine Zi4 h rfl (fun _ h=>?_) fun _ h=>?_
   ·refine Zn2 5 ?_;dsimp only [go_sem];refine An ?_;exact Zq4 (res:=fun (r:Int)=>.iv r) ok109 (Zf4 h hout1)
   ·refine Zn2 6 ?_;dsimp only [go_sem];refine An ?_;exact Zr4 h hin1 (hok:=by first | rfl | simp [go_sem,Z94 _ hc1.pu])
  ·refine Zn2 1 ?_;dsimp only [go_sem];refine An ?_;exact Zs4 J1 (s:=()) (Zf4 h hout1) (hok:=by first | rfl | simp [go_sem,Z94 _ hc1.pu])
set_option maxRecDepth 100000
set_option maxHeartbeats 4000000
@[go_sem] def e60:EC:=.seq (.reg [(Qa 4 (.mv (.c .ff)))]) (.seq (.reg [(Qm 5 0),(Qm 6 1),(Qa 7 (.call 109 [(.t 5),(.t 6)])),(Qa 8 (.bin .geq (.t 7) (.c (.iv 0)))),(Qm 4 8)]) (.ret))
theorem ok60:FnOK Tryz.prog 60 Tryz.f60 e60 [.t 4] 2 7:=⟨by kernel_rfl,⟨_,rfl,by kernel_rfl⟩,by kernel_rfl,by kernel_rfl⟩
noncomputable def Z8i (x1:(List Drinker)) (p1:(Drinker→Option Bool)):Option Bool:=
 (Z6i x1 p1).bind fun x2=>
 some (decide (0≤x2))
theorem Z9i (x1:(List Drinker)) (g1:Nat) (caps1:List AV) (p1:(Drinker→Option Bool)) (hc1:CloOK Tryz.prog g1 caps1 (fun z=>[.agg (Drinker.row z)]) p1 (fun z=>.bv z)) (r:Bool) (h:Z8i x1 p1=some r):Zs2 Tryz.prog 60 [.sl 5 (List.map Drinker.row x1),.clo g1 caps1] (.bv r):=by
 refine Zw2 ok60 rfl rfl fun w0 H0=>?_
 rw [Z8i] at h
 refine Zn2 8 ?_;dsimp only [go_sem];refine An ?_;obtain ⟨x2,ex2,h⟩:=Bs h;refine Z13 trivial (Z7i x1 _ _ p1 hc1 _ ex2) (hp:=(by first | rfl | simp [go_sem,hc1.pu])) (h:=?_);refine Zn2 3 ?_;dsimp only [go_sem];refine An ?_;exact Zq4 (res:=fun (r:Bool)=>.bv r) ok60 h
set_option maxRecDepth 100000
set_option maxHeartbeats 4000000
@[go_sem] def e17:EC:=.seq (.reg [(Qx 1 25 2 0),(Qi 2 0)]) (.seq (.reg [(Qa 3 (.mv (.c (.clo 57 []))))]) (.seq (.seq (.reg [(Qe 4 2 1),(Qa 5 (.call 26 [(.t 4)])),(Qa 6 (.call 59 [(.t 5)])),(Qa 7 (.bin .neq (.t 6) (.c (.iv 0)))),(Qm 8 7),(Qh 9 8 false 0 1),(Qn 10 8 false 9),(Qg 11 8 false (.mv (.t 3))),(Qg 12 8 false (.call 60 [(.t 10),(.t 11)])),(Qq 13 8 12)]) (.ite (.t 13) (.seq (.reg [(Qi 2 160)]) (.ret)) (.skip))) (.seq (.reg [(Qi 2 0)]) (.ret))))
theorem ok17:FnOK Tryz.prog 17 Tryz.f17 e17 [.t 2] 1 13:=⟨by kernel_rfl,⟨_,rfl,by kernel_rfl⟩,by kernel_rfl,by kernel_rfl⟩
noncomputable def Zai:Bool→Option Int
| x5=>
 ifb x5 (
 some 160) (
 some 0)
noncomputable def Zbi (x1:Bar):Option Int:=
 (Z2i x1).bind fun x2=>
 (Z2g x2).bind fun x3=>
 ifb (!decide (x3=0)) (
 Zai true) (
 (Z8i x1.Drinkers ((fun z=>Zxh z))).bind fun x4=>
 Zai x4)
theorem Zci (x1:Bar) (r:Int) (h:Zbi x1=some r):Zs2 Tryz.prog 17 [.agg (Bar.row x1)] (.iv r):=by
 refine Zw2 ok17 rfl rfl fun w0 H0=>?_
 rw [Zbi] at h
 refine Zn2 13 ?_;dsimp only [go_sem];refine An ?_;obtain ⟨x2,ex2,h⟩:=Bs h;refine Z13 trivial (Z3i x1 _ ex2) (h:=?_);obtain ⟨x3,ex3,h⟩:=Bs h;refine Z13 trivial (k_table_Check x2 _ ex3) (h:=?_);refine Zn2 2 ?_;dsimp only [go_sem];refine An ?_;refine Zg4 (fun (x5:Bool)=>(⟨(an 13 [.bv x5]),[],[]⟩:St)) Zai r ?_ fun J1=>?_
 ·intro x5 h;rw [Zai] at h;(try dsimp only);refine Zi4 h rfl (fun _ h=>?_) fun _ h=>?_
  ·refine Zn2 4 ?_;dsimp only [go_sem];refine An ?_;exact Zq4 (res:=fun (r:Int)=>.iv r) ok17 h
  ·refine Zn2 5 ?_;dsimp only [go_sem];refine An ?_;exact Zq4 (res:=fun (r:Int)=>.iv r) ok17 h
 ·refine Zp4 8 h rfl (fun _ h=>?_) fun _ h=>?_
  ·dsimp only [go_sem];refine Zn2 6 ?_;dsimp only [go_sem];refine An ?_;exact Zs4 J1 (s:=true) h
  ·dsimp only [go_sem];refine Zn2 3 ?_;dsimp only [go_sem];refine An ?_;obtain ⟨x4,ex4,h⟩:=Bs h;refine Z13 trivial (Z9i x1.Drinkers _ _ ((fun z=>Zxh z)) ⟨by kernel_rfl,rfl,fun z r hz=>k_bar_Check_1 z r hz⟩ _ ex4) (h:=?_);refine Zn2 2 ?_;dsimp only [go_sem];refine An ?_;exact Zs4 J1 (s:=x4) h
set_option maxRecDepth 100000
set_option maxHeartbeats 4000000
@[go_sem] def e64:EC:=.seq (.reg [(Qx 2 25 2 0),(Qa 4 (.mv (.c .ff)))]) (.seq (.reg [(Qm 5 1),(Qa 6 (.bin .geq (.t 5) (.c (.iv 0)))),(Qm 7 6),(Qg 8 7 true (.mv (.t 1))),(Qh 9 7 true 0 2),(Qn 10 7 true 9),(Qg 11 7 true (.len (.t 10))),(Qg 12 7 true (.bin .lss (.t 8) (.t 11))),(Qp 13 7 12),(Qm 4 13)]) (.ret))
theorem ok64:FnOK Tryz.prog 64 Tryz.f64 e64 [.t 4] 2 12:=⟨by kernel_rfl,⟨_,rfl,by kernel_rfl⟩,by kernel_rfl,by kernel_rfl⟩
noncomputable def Zdi:Bool→Option Bool
| x3=>
 some x3
noncomputable def Zei (x1:Bar) (x2:Int):Option Bool:=
 ifb (decide (0≤x2)) (
 Zdi (decide (x2<(ln Drinker.row x1.Drinkers)))) (
 Zdi false)
theorem Zfi (x1:Bar) (x2:Int) (r:Bool) (h:Zei x1 x2=some r):Zs2 Tryz.prog 64 [.agg (Bar.row x1),.iv x2] (.bv r):=by
 refine Zw2 ok64 rfl rfl fun w0 H0=>?_
 rw [Zei] at h
 refine Zn2 10 ?_;dsimp only [go_sem];refine An ?_;refine Zg4 (fun (x3:Bool)=>(⟨(an 4 (.bv x3::an 9 [])),[],[]⟩:St)) Zdi r ?_ fun J1=>?_
 ·intro x3 h;rw [Zdi] at h;(try dsimp only);exact Zq4 (res:=fun (r:Bool)=>.bv r) ok64 h
 ·refine Zp4 7 h rfl (fun _ h=>?_) fun _ h=>?_
  ·dsimp only [go_sem];refine Zn2 8 ?_;dsimp only [go_sem];refine An ?_;exact Zs4 J1 (s:=decide (x2<(ln Drinker.row x1.Drinkers))) h
  ·dsimp only [go_sem];refine Zn2 8 ?_;dsimp only [go_sem];refine An ?_;exact Zs4 J1 (s:=false) h
set_option maxRecDepth 100000
set_option maxHeartbeats 4000000
@[go_sem] def e89_L0:EC:=.seq (.reg [(Qa 48 (.bin .lss (.t 47) (.t 46)))]) (.seq (.ite (.t 48) (.skip) (.exit 0)) (.seq (.blk 1 (.seq (.reg [(Qm 49 47),(Qk 50 5 45 47),(Qe 51 5 50),(Qa 13 (.alloc 63 [.iv 0,.iv 0,.nl,.iv 0,.nl])),(Qm 12 49),(Qs 5 13 51)]) (.seq (.seq (.reg [(Qm 52 12),(Qm 53 1),(Qa 54 (.bin .eql (.t 52) (.t 53)))]) (.ite (.t 54) (.reg [(Qe 55 5 8),(Qs 5 13 55)]) (.skip))) (.seq (.drw [(Qf 56 0 13),(Qf 57 2 56),(Ql 58 57),(Qa 59 (.call 72 [(.t 58)])),(Qf 60 4 13),(Ql 61 60),(Qa 62 (.call 136 [(.t 61)])),(Qf 63 0 13),(Qf 64 2 63),(Qs 1 64 59),(Qf 65 4 13),(Qs 1 65 62)] [[],[0],[1],[2],[],[4],[5,3],[0,1,2,3,4,5],[7,0,1,2,3,4,5],[8,3,6,0,1,2,3,4,5],[0,1,2,3,4,5,6,7,8,9],[10,6,9,0,1,2,3,4,5,6,7,8,9]] [[1],[0,2],[1,3],[2,9],[5],[4,6],[5,11],[8],[7,9],[3,8],[11],[6,10]]) (.reg [(Qf 66 0 11),(Ql 67 66),(Qe 68 5 13),(Qa 69 (.bsl 63 5 1 [.iv 0,.iv 0,.nl,.iv 0,.nl] [(0,(.t 68))])),(Qa 70 (.app 63 5 72 (.t 67) (.t 69))),(Qf 71 0 11),(Qs 1 71 70)]))))) (.reg [(Qv 72 47 1),(Qm 47 72)])))
@[go_sem] def e89:EC:=.seq (.reg [(Qx 3 25 2 0),(Qa 6 (.alloc 25 [.nl,.nl])),(Qi 7 0)]) (.seq (.reg [(Qm 15 2),(Qf 16 0 3),(Ql 17 16),(Qm 18 1),(Qk 19 5 17 18),(Qe 20 5 19),(Qa 21 (.callv (.t 15) [(.t 20)])),(Qm 14 21),(Qa 22 (.ext (.t 14) 0)),(Qa 23 (.ext (.t 14) 1)),(Qa 8 (.alloc 63 [.iv 0,.iv 0,.nl,.iv 0,.nl])),(Qs 5 8 22),(Qm 9 23)]) (.seq (.seq (.reg [(Qm 24 9),(Qa 25 (.bin .neq (.t 24) (.c (.iv 0))))]) (.ite (.t 25) (.seq (.reg [(Qa 26 (.build [.nl,.nl] [])),(Qm 27 9),(Qs 2 6 26),(Qm 7 27)]) (.ret)) (.skip))) (.seq (.reg [(Qe 29 5 8),(Qa 30 (.call 135 [(.t 29)])),(Qm 28 30),(Qa 31 (.ext (.t 28) 0)),(Qa 32 (.ext (.t 28) 1)),(Qa 33 (.ext (.t 28) 2)),(Qs 5 8 31),(Qm 10 32),(Qm 9 33)]) (.seq (.seq (.reg [(Qm 34 9),(Qa 35 (.bin .neq (.t 34) (.c (.iv 0))))]) (.ite (.t 35) (.seq (.reg [(Qa 36 (.build [.nl,.nl] [])),(Qm 37 9),(Qs 2 6 36),(Qm 7 37)]) (.ret)) (.skip))) (.seq (.reg [(Qf 38 1 3),(Ql 39 38),(Qm 40 10),(Qa 41 (.bsl 23 1 2 [.nl] [(0,(.t 39)),(1,(.t 40))])),(Qa 42 (.call 88 [(.t 41)])),(Qa 43 (.build [.nl,.nl] [(1,1,(.t 42))])),(Qa 11 (.alloc 25 [.nl,.nl])),(Qs 2 11 43)]) (.seq (.seq (.reg [(Qf 44 0 3),(Ql 45 44),(Qa 46 (.len (.t 45))),(Qi 47 0)]) (.blk 0 (.loop e89_L0))) (.seq (.reg [(Qe 73 2 11),(Qs 2 6 73),(Qi 7 0)]) (.ret))))))))
theorem ok89:FnOK Tryz.prog 89 Tryz.f89 e89 [.c 6 (some 2),.t 7] 3 71:=⟨by kernel_rfl,⟨_,rfl,by kernel_rfl⟩,by kernel_rfl,by kernel_rfl⟩
noncomputable def Zgi (x6:(List Mail)):(List Drinker)→Option (Bar×Int)
| x30=>
 some ((Bar.mk x30 x6),0)
noncomputable def Zhi (x14:Int) (x15:(List Drinker)):Drinker→Option ((Int×(List Drinker)) ⊕ (Bar×Int))
| x17=>
 (Zx8 x17.Diner.Sides).bind fun x18=>
 (Zv9 x17.Need).bind fun x19=>
 (Zb4 72 x15 ([(Drinker.mk ((Diner.mk x17.Diner.ID x17.Diner.Phase x18)) x17.Thirst x19)])).bind fun x20=>
 some (.inl (wr (x14+1),x20))
noncomputable def Zii (x1:Bar) (x2:Int) (x5:(Drinker×(List Mail)×Int)) (x6:(List Mail)):(Int×(List Drinker))→Option ((Int×(List Drinker)) ⊕ (Bar×Int))
| (x14,x15)=>
 ifb (decide (x14<(ln Drinker.row x1.Drinkers))) (
 (at_ x1.Drinkers x14).bind fun x16=>
 ifb (decide (x14=x2)) (
 (Zhi x14 x15) x5.1) (
 (Zhi x14 x15) x16)) (
 Option.map Sum.inr ((Zgi x6) x15))
noncomputable def Zji (x1:Bar) (x2:Int) (p2:(Drinker→Option (Drinker×Int))):Option (Bar×Int):=
 (at_ x1.Drinkers x2).bind fun x3=>
 (p2 x3).bind fun x4=>
 ifb (!decide (x4.2=0)) (
 some ((Bar.mk (([]:(List Drinker))) (([]:(List Mail)))),x4.2)) (
 (Zgb x4.1).bind fun x5=>
 ifb (!decide (x5.2.2=0)) (
 some ((Bar.mk (([]:(List Drinker))) (([]:(List Mail)))),x5.2.2)) (
 (Zcg ([x1.Mail,x5.2.1])).bind fun x6=>
 loop (Zii x1 x2 x5 x6) (0,([]:List Drinker))))
theorem k_bar_act (x1:Bar) (x2:Int) (g2:Nat) (caps2:List AV) (p2:(Drinker→Option (Drinker×Int))) (hc2:CloOK Tryz.prog g2 caps2 (fun z=>[.agg (Drinker.row z)]) p2 (fun z=>.tup [.agg (Drinker.row z.1),.iv z.2])) (r:(Bar×Int)) (h:Zji x1 x2 p2=some r):Zs2 Tryz.prog 89 [.agg (Bar.row x1),.iv x2,.clo g2 caps2] (.tup [.agg (Bar.row r.1),.iv r.2]):=by
 refine Zw2 ok89 rfl rfl fun w0 H0=>?_
 rw [Zji] at h
 refine Zn2 12 ?_;dsimp only [go_sem];refine An ?_;obtain ⟨x3,ex3,h⟩:=Bs h;refine Zl4 Drinker.row ex3 trivial rfl rfl rfl ?_;refine Zn2 1 ?_;dsimp only [go_sem];refine An ?_;obtain ⟨x4,ex4,h⟩:=Bs h;refine Zv4 trivial rfl hc2 (x:=x3) ex4 (by first | exact Za4 _ | simp [go_sem]) (by first | rfl | simp [go_sem,hc2.pu]) ?_;refine Zn2 13 ?_;dsimp only [go_sem];refine An ?_;refine Zi4 h rfl (fun _ h=>?_) fun _ h=>?_
 ·refine Zn2 7 ?_;dsimp only [go_sem];refine An ?_;exact Zq4 (res:=fun (r:(Bar×Int))=>.tup [.agg (Bar.row r.1),.iv r.2]) ok89 h
 ·refine Zn2 4 ?_;dsimp only [go_sem];refine An ?_;obtain ⟨x5,ex5,h⟩:=Bs h;refine Z13 trivial (k_drink_Fire x4.1 _ ex5) (hp:=(by first | rfl | simp [go_sem,hc2.pu])) (h:=?_);refine Zn2 14 ?_;dsimp only [go_sem];refine An ?_;refine Zi4 h rfl (fun _ h=>?_) fun _ h=>?_
  ·refine Zn2 7 ?_;dsimp only [go_sem];refine An ?_;exact Zq4 (res:=fun (r:(Bar×Int))=>.tup [.agg (Bar.row r.1),.iv r.2]) ok89 h
  ·refine Zn2 7 ?_;dsimp only [go_sem];refine An ?_;refine Za3 0 rfl ?_;dsimp only [go_sem];obtain ⟨x6,ex6,h⟩:=Bs h;refine Z45 trivial (Zdg ([x1.Mail,x5.2.1]) _ ex6) (hp:=(by first | rfl | simp [go_sem,hc2.pu])) (h:=?_);refine Zn2 12 ?_;dsimp only [go_sem];refine An ?_
   refine Zg4 (fun (x30:(List Drinker))=>(⟨(an 6 (.ptr 1 0::an 4 (.ptr 3 0::an 62 []))),[none,some ⟨25,[.nl,.nl]⟩,none,some ⟨25,[.osl 2,.osl 1]⟩],[none,some ⟨95,5,List.map Mail.row x6⟩,some ⟨63,5,List.map Drinker.row x30⟩]⟩:St)) (Zgi x6) r ?_ fun J1=>?_
   ·intro x30 h;rw [Zgi] at h;(try dsimp only);refine Zn2 6 ?_;dsimp only [go_sem];refine An ?_;refine Za3 2 rfl ?_;dsimp only [go_sem];refine Za3 1 rfl ?_;dsimp only [go_sem];exact Zq4 (res:=fun (r:(Bar×Int))=>.tup [.agg (Bar.row r.1),.iv r.2]) ok89 h
   ·refine Zn2 1 ?_;dsimp only [go_sem];refine An ?_;refine Z54 3 0 63 5 rfl rfl rfl ?_;dsimp only [go_sem]
    refine Zh4 h (fun ((x14,x15):(Int×(List Drinker)))=>(⟨(.any :: .iv x2::an 4 (.ptr 1 0 :: .any :: .ptr 2 0 :: .any :: .any :: .ptr 3 0::an 33 (.sl 5 (List.map Drinker.row x1.Drinkers) :: .iv (ln Drinker.row x1.Drinkers) :: .iv x14::an 26 []))),[none,some ⟨25,[.nl,.nl]⟩,some ⟨63,[.iv x5.1.Diner.ID,.iv x5.1.Diner.Phase,.sl 8 (List.map Side.row x5.1.Diner.Sides),.iv x5.1.Thirst,.sl 1 (List.map Zw4 x5.1.Need)]⟩,some ⟨25,[.osl 2,.osl 1]⟩],[none,some ⟨95,5,List.map Mail.row x6⟩,some ⟨63,5,List.map Drinker.row x15⟩]⟩:St)) (by simp [go_sem]) (by rintro ⟨x14,x15⟩;first | rfl | simp [go_sem,Z94 _ hc2.pu]) ?_
    rintro n1 ⟨x14,x15⟩ y1 h hin1 hout1;rw [Zii] at h;(try dsimp only);refine Zn2 5 ?_;dsimp only [go_sem];refine An ?_;refine Zi4 h rfl (fun _ h=>?_) fun _ h=>?_
    ·refine Zn2 6 ?_;dsimp only [go_sem];refine An ?_;obtain ⟨x16,ex16,h⟩:=Bs h;refine Zl4 Drinker.row ex16 trivial rfl rfl rfl ?_;refine Zn2 12 ?_;dsimp only [go_sem];refine An ?_
     refine Zg4 (fun (x17:Drinker)=>(⟨(.any :: .iv x2::an 4 (.ptr 1 0 :: .any :: .ptr 2 0 :: .any :: .any :: .ptr 3 0 :: .any :: .ptr 4 0::an 31 (.sl 5 (List.map Drinker.row x1.Drinkers) :: .iv (ln Drinker.row x1.Drinkers) :: .iv x14::an 26 []))),[none,some ⟨25,[.nl,.nl]⟩,some ⟨63,[.iv x5.1.Diner.ID,.iv x5.1.Diner.Phase,.sl 8 (List.map Side.row x5.1.Diner.Sides),.iv x5.1.Thirst,.sl 1 (List.map Zw4 x5.1.Need)]⟩,some ⟨25,[.osl 2,.osl 1]⟩,some ⟨63,[.iv x17.Diner.ID,.iv x17.Diner.Phase,.sl 8 (List.map Side.row x17.Diner.Sides),.iv x17.Thirst,.sl 1 (List.map Zw4 x17.Need)]⟩],[none,some ⟨95,5,List.map Mail.row x6⟩,some ⟨63,5,List.map Drinker.row x15⟩]⟩:St)) (Zhi x14 x15) y1 ?_ fun J2=>?_
     ·intro x17 h;rw [Zhi] at h;(try dsimp only);refine Zn2 1 ?_;dsimp only [go_sem];refine An ?_;refine Zi3 (by kernel_rfl) fun all hall hs hnap haf=>?_;dsimp only [go_sem];refine Z65 hall hs haf hnap 5 7 ?_;dsimp only [go_sem];refine An ?_;refine Zt3 3 rfl ?_;obtain ⟨x18,ex18,h⟩:=Bs h;refine Z55 hall rfl trivial (Zy8 x17.Diner.Sides _ ex18) (hp:=(by first | rfl | simp [go_sem,hc2.pu])) (h:=?_);dsimp only [go_sem];refine Z65 hall hs haf hnap 2 4 ?_;dsimp only [go_sem];refine An ?_;refine Zt3 6 rfl ?_
      obtain ⟨x19,ex19,h⟩:=Bs h;refine Z55 hall rfl trivial (Zw9 x17.Need _ ex19) (hp:=(by first | rfl | simp [go_sem,hc2.pu])) (h:=?_);dsimp only [go_sem];refine Zt3 9 rfl ?_;refine Zy3 hall rfl trivial ?_;dsimp only [go_sem];refine Z65 hall hs haf hnap 1 1 ?_;dsimp only [go_sem];refine An ?_;refine Zt3 11 rfl ?_;refine Zy3 hall rfl trivial ?_;dsimp only [go_sem];refine Zs3 rfl ?_ _;refine Zn2 4 ?_;dsimp only [go_sem];refine An ?_;refine Za3 3 rfl ?_;dsimp only [go_sem];refine Za3 4 rfl ?_;dsimp only [go_sem]
      refine Zn2 1 ?_;dsimp only [go_sem];refine An ?_;obtain ⟨x20,ex20,h⟩:=Bs h;refine Zn4 Drinker.row ex20 trivial rfl rfl rfl ?_;refine Zn2 8 ?_;dsimp only [go_sem];refine An ?_;refine Z44 6 2 rfl rfl rfl ?_;dsimp only [go_sem];exact Zr4 h hin1 (hok:=by first | rfl | simp [go_sem,Z94 _ hc2.pu])
     ·refine Zi4 h rfl (fun _ h=>?_) fun _ h=>?_
      ·refine Zn2 4 ?_;dsimp only [go_sem];refine An ?_;exact Zs4 J2 (s:=x5.1) h (hok:=by first | rfl | simp [go_sem,Z94 _ hc2.pu])
      ·refine Zn2 1 ?_;dsimp only [go_sem];refine An ?_;exact Zs4 J2 (s:=x16) h (hok:=by first | rfl | simp [go_sem,Z94 _ hc2.pu])
    ·refine Zn2 1 ?_;dsimp only [go_sem];refine An ?_;exact Zs4 J1 (s:=x15) (Zf4 h hout1) (hok:=by first | rfl | simp [go_sem,Z94 _ hc2.pu])
set_option maxRecDepth 100000
set_option maxHeartbeats 4000000
@[go_sem] def e74:EC:=.seq (.reg [(Qx 3 25 2 0),(Qa 6 (.alloc 25 [.nl,.nl])),(Qi 7 0)]) (.seq (.seq (.reg [(Qe 9 2 3),(Qa 10 (.call 17 [(.t 9)])),(Qm 8 10)]) (.seq (.reg [(Qm 11 8),(Qa 12 (.bin .neq (.t 11) (.c (.iv 0))))]) (.ite (.t 12) (.seq (.reg [(Qa 13 (.build [.nl,.nl] [])),(Qm 14 8),(Qs 2 6 13),(Qm 7 14)]) (.ret)) (.skip)))) (.seq (.seq (.reg [(Qe 15 2 3),(Qm 16 1),(Qa 17 (.call 64 [(.t 15),(.t 16)])),(Qa 18 (.not (.t 17)))]) (.ite (.t 18) (.seq (.reg [(Qa 19 (.build [.nl,.nl] [])),(Qs 2 6 19),(Qi 7 161)]) (.ret)) (.skip))) (.seq (.reg [(Qe 20 2 3),(Qm 21 1),(Qm 22 2),(Qa 23 (.call 89 [(.t 20),(.t 21),(.t 22)])),(Qa 24 (.ext (.t 23) 0)),(Qa 25 (.ext (.t 23) 1)),(Qs 2 6 24),(Qm 7 25)]) (.ret))))
theorem ok74:FnOK Tryz.prog 74 Tryz.f74 e74 [.c 6 (some 2),.t 7] 3 23:=⟨by kernel_rfl,⟨_,rfl,by kernel_rfl⟩,by kernel_rfl,by kernel_rfl⟩
noncomputable def Zki (x1:Bar) (x2:Int) (p2:(Drinker→Option (Drinker×Int))):Option (Bar×Int):=
 (Zbi x1).bind fun x3=>
 ifb (!decide (x3=0)) (
 some ((Bar.mk (([]:(List Drinker))) (([]:(List Mail)))),x3)) (
 (Zei x1 x2).bind fun x4=>
 ifb (!x4) (
 some ((Bar.mk (([]:(List Drinker))) (([]:(List Mail)))),161)) (
 (Zji x1 x2 p2).bind fun x5=>
 some (x5.1,x5.2)))
theorem Zli (x1:Bar) (x2:Int) (g2:Nat) (caps2:List AV) (p2:(Drinker→Option (Drinker×Int))) (hc2:CloOK Tryz.prog g2 caps2 (fun z=>[.agg (Drinker.row z)]) p2 (fun z=>.tup [.agg (Drinker.row z.1),.iv z.2])) (r:(Bar×Int)) (h:Zki x1 x2 p2=some r):Zs2 Tryz.prog 74 [.agg (Bar.row x1),.iv x2,.clo g2 caps2] (.tup [.agg (Bar.row r.1),.iv r.2]):=by
 refine Zw2 ok74 rfl rfl fun w0 H0=>?_
 rw [Zki] at h
 refine Zn2 10 ?_;dsimp only [go_sem];refine An ?_;obtain ⟨x3,ex3,h⟩:=Bs h;refine Z13 trivial (Zci x1 _ ex3) (hp:=(by first | rfl | simp [go_sem,hc2.pu])) (h:=?_);refine Zn2 7 ?_;dsimp only [go_sem];refine An ?_;refine Zi4 h rfl (fun _ h=>?_) fun _ h=>?_
 ·refine Zn2 7 ?_;dsimp only [go_sem];refine An ?_;exact Zq4 (res:=fun (r:(Bar×Int))=>.tup [.agg (Bar.row r.1),.iv r.2]) ok74 h
 ·refine Zn2 6 ?_;dsimp only [go_sem];refine An ?_;obtain ⟨x4,ex4,h⟩:=Bs h;refine Z13 trivial (Zfi x1 x2 _ ex4) (hp:=(by first | rfl | simp [go_sem,hc2.pu])) (h:=?_);refine Zn2 2 ?_;dsimp only [go_sem];refine An ?_;refine Zi4 h rfl (fun _ h=>?_) fun _ h=>?_
  ·refine Zn2 6 ?_;dsimp only [go_sem];refine An ?_;exact Zq4 (res:=fun (r:(Bar×Int))=>.tup [.agg (Bar.row r.1),.iv r.2]) ok74 h
  ·refine Zn2 6 ?_;dsimp only [go_sem];refine An ?_;obtain ⟨x5,ex5,h⟩:=Bs h;refine Z13 trivial (k_bar_act x1 x2 _ _ p2 hc2 _ ex5) (hp:=(by first | rfl | simp [go_sem,hc2.pu])) (h:=?_);refine Zn2 5 ?_;dsimp only [go_sem];refine An ?_;exact Zq4 (res:=fun (r:(Bar×Int))=>.tup [.agg (Bar.row r.1),.iv r.2]) ok74 h
set_option maxRecDepth 100000
set_option maxHeartbeats 4000000
@[go_sem] def e38:EC:=.seq (.reg [(Qx 3 25 2 0),(Qx 5 26 1 2),(Qa 6 (.alloc 25 [.nl,.nl])),(Qi 7 0)]) (.seq (.reg [(Qe 8 2 3),(Qm 9 1),(Qa 10 (.mkf 76 [(.t 5)])),(Qa 11 (.call 74 [(.t 8),(.t 9),(.t 10)])),(Qa 12 (.ext (.t 11) 0)),(Qa 13 (.ext (.t 11) 1)),(Qs 2 6 12),(Qm 7 13)]) (.ret))
theorem ok38:FnOK Tryz.prog 38 Tryz.f38 e38 [.c 6 (some 2),.t 7] 3 11:=⟨by kernel_rfl,⟨_,rfl,by kernel_rfl⟩,by kernel_rfl,by kernel_rfl⟩
noncomputable def Zmi (x1:Bar) (x2:Int) (x3:(List Int)):Option (Bar×Int):=
 (Zki x1 x2 ((fun z=>Zwh z x3))).bind fun x4=>
 some (x4.1,x4.2)
theorem Zni (x1:Bar) (x2:Int) (x3:(List Int)) (r:(Bar×Int)) (h:Zmi x1 x2 x3=some r):Zs2 Tryz.prog 38 [.agg (Bar.row x1),.iv x2,.sl 1 (List.map Zw4 x3)] (.tup [.agg (Bar.row r.1),.iv r.2]):=by
 refine Zw2 ok38 rfl rfl fun w0 H0=>?_
 rw [Zmi] at h
 refine Zn2 12 ?_;dsimp only [go_sem];refine An ?_;refine V_sealB 1 rfl rfl ?_;dsimp only [go_sem];obtain ⟨x4,ex4,h⟩:=Bs h;refine Z13 trivial (Zli x1 x2 _ _ ((fun z=>Zwh z x3)) ⟨by kernel_rfl,rfl,fun z r hz=>k_bar_Open_1 z x3 r hz⟩ _ ex4) (h:=?_);refine Zn2 5 ?_;dsimp only [go_sem];refine An ?_;exact Zq4 (res:=fun (r:(Bar×Int))=>.tup [.agg (Bar.row r.1),.iv r.2]) ok38 h
set_option maxRecDepth 100000
set_option maxHeartbeats 4000000
@[go_sem] def e36:EC:=.seq (.reg [(Qx 2 25 2 0),(Qa 4 (.alloc 25 [.nl,.nl])),(Qi 5 0)]) (.seq (.reg [(Qe 6 2 2),(Qm 7 1),(Qa 8 (.call 74 [(.t 6),(.t 7),(.c (.clo 75 []))])),(Qa 9 (.ext (.t 8) 0)),(Qa 10 (.ext (.t 8) 1)),(Qs 2 4 9),(Qm 5 10)]) (.ret))
theorem ok36:FnOK Tryz.prog 36 Tryz.f36 e36 [.c 4 (some 2),.t 5] 2 9:=⟨by kernel_rfl,⟨_,rfl,by kernel_rfl⟩,by kernel_rfl,by kernel_rfl⟩
noncomputable def Zoi (x1:Bar) (x2:Int):Option (Bar×Int):=
 (Zki x1 x2 ((fun z=>Zze z))).bind fun x3=>
 some (x3.1,x3.2)
theorem Zpi (x1:Bar) (x2:Int) (r:(Bar×Int)) (h:Zoi x1 x2=some r):Zs2 Tryz.prog 36 [.agg (Bar.row x1),.iv x2] (.tup [.agg (Bar.row r.1),.iv r.2]):=by
 refine Zw2 ok36 rfl rfl fun w0 H0=>?_
 rw [Zoi] at h
 refine Zn2 10 ?_;dsimp only [go_sem];refine An ?_;obtain ⟨x3,ex3,h⟩:=Bs h;refine Z13 trivial (Zli x1 x2 _ _ ((fun z=>Zze z)) ⟨by kernel_rfl,rfl,fun z r hz=>k_drink_Close z r hz⟩ _ ex3) (h:=?_);refine Zn2 5 ?_;dsimp only [go_sem];refine An ?_;exact Zq4 (res:=fun (r:(Bar×Int))=>.tup [.agg (Bar.row r.1),.iv r.2]) ok36 h
set_option maxRecDepth 100000
set_option maxHeartbeats 4000000
@[go_sem] def e87:EC:=.seq (.reg [(Qx 3 95 5 0),(Qa 4 (.mv (.c .ff)))]) (.seq (.reg [(Qf 5 0 3),(Ql 6 5),(Ql 7 1),(Qa 8 (.bin .eql (.t 6) (.t 7))),(Qm 9 8),(Qh 10 9 true 1 3),(Qn 11 9 true 10),(Qn 12 9 true 2),(Qg 13 9 true (.bin .eql (.t 11) (.t 12))),(Qp 14 9 13),(Qm 4 14)]) (.ret))
theorem ok87:FnOK Tryz.prog 87 Tryz.f87 e87 [.t 4] 3 12:=⟨by kernel_rfl,⟨_,rfl,by kernel_rfl⟩,by kernel_rfl,by kernel_rfl⟩
noncomputable def Zqi:Bool→Option Bool
| x4=>
 some x4
noncomputable def Zri (x1:Mail) (x2:Int) (x3:Int):Option Bool:=
 ifb (decide (x1.From=x2)) (
 Zqi (decide (x1.To=x3))) (
 Zqi false)
theorem Zsi (x1:Mail) (x2:Int) (x3:Int) (r:Bool) (h:Zri x1 x2 x3=some r):Zs2 Tryz.prog 87 [.agg (Mail.row x1),.elt (Zw4 x2) 0,.elt (Zw4 x3) 0] (.bv r):=by
 refine Zw2 ok87 rfl rfl fun w0 H0=>?_
 rw [Zri] at h
 refine Zn2 12 ?_;dsimp only [go_sem];refine An ?_;refine Zg4 (fun (x4:Bool)=>(⟨(an 4 (.bv x4::an 10 [])),[],[]⟩:St)) Zqi r ?_ fun J1=>?_
 ·intro x4 h;rw [Zqi] at h;(try dsimp only);exact Zq4 (res:=fun (r:Bool)=>.bv r) ok87 h
 ·refine Zp4 9 h rfl (fun _ h=>?_) fun _ h=>?_
  ·dsimp only [go_sem];refine Zn2 7 ?_;dsimp only [go_sem];refine An ?_;exact Zs4 J1 (s:=decide (x1.To=x3)) h
  ·dsimp only [go_sem];refine Zn2 7 ?_;dsimp only [go_sem];refine An ?_;exact Zs4 J1 (s:=false) h
set_option maxRecDepth 100000
set_option maxHeartbeats 4000000
@[go_sem] def e90:EC:=.seq (.reg [(Qx 3 63 5 0),(Qa 4 (.alloc 63 [.iv 0,.iv 0,.nl,.iv 0,.nl])),(Qi 5 0)]) (.seq (.reg [(Qe 6 5 3),(Ql 7 1),(Qe 8 3 2),(Qa 9 (.call 91 [(.t 6),(.t 7),(.t 8)])),(Qa 10 (.ext (.t 9) 0)),(Qa 11 (.ext (.t 9) 1)),(Qs 5 4 10),(Qm 5 11)]) (.ret))
theorem ok90:FnOK Tryz.prog 90 Tryz.f90 e90 [.c 4 (some 5),.t 5] 3 9:=⟨by kernel_rfl,⟨_,rfl,by kernel_rfl⟩,by kernel_rfl,by kernel_rfl⟩
noncomputable def Zti (x1:Drinker) (x2:Int) (x3:Msg):Option (Drinker×Int):=
 (Z5f x1 x2 x3).bind fun x4=>
 some (x4.1,x4.2)
theorem Zui (x1:Drinker) (x2:Int) (x3:Msg) (r:(Drinker×Int)) (h:Zti x1 x2 x3=some r):Zs2 Tryz.prog 90 [.agg (Drinker.row x1),.elt (Zw4 x2) 0,.elt (Msg.row x3) 0] (.tup [.agg (Drinker.row r.1),.iv r.2]):=by
 refine Zw2 ok90 rfl rfl fun w0 H0=>?_
 rw [Zti] at h
 refine Zn2 11 ?_;dsimp only [go_sem];refine An ?_;obtain ⟨x4,ex4,h⟩:=Bs h;refine Z13 trivial (k_drink_Get x1 x2 x3 _ ex4) (h:=?_);refine Zn2 5 ?_;dsimp only [go_sem];refine An ?_;exact Zq4 (res:=fun (r:(Drinker×Int))=>.tup [.agg (Drinker.row r.1),.iv r.2]) ok90 h
set_option maxRecDepth 100000
set_option maxHeartbeats 4000000
@[go_sem] def e48:EC:=.seq (.reg [(Qx 3 25 2 0),(Qx 4 3 1 1),(Qx 5 3 1 2),(Qa 6 (.alloc 25 [.nl,.nl])),(Qi 7 0)]) (.seq (.seq (.reg [(Qe 11 2 3),(Qa 12 (.call 17 [(.t 11)])),(Qm 8 12)]) (.seq (.reg [(Qm 13 8),(Qa 14 (.bin .neq (.t 13) (.c (.iv 0))))]) (.ite (.t 14) (.seq (.reg [(Qa 15 (.build [.nl,.nl] [])),(Qm 16 8),(Qs 2 6 15),(Qm 7 16)]) (.ret)) (.skip)))) (.seq (.seq (.reg [(Qe 17 2 3),(Ql 18 4),(Qa 19 (.call 64 [(.t 17),(.t 18)])),(Qa 20 (.not (.t 19))),(Qm 21 20),(Qg 22 21 false (.loadA 2 (.t 3))),(Qn 23 21 false 5),(Qg 24 21 false (.call 64 [(.t 22),(.t 23)])),(Qg 25 21 false (.not (.t 24))),(Qq 26 21 25)]) (.ite (.t 26) (.seq (.reg [(Qa 27 (.build [.nl,.nl] [])),(Qs 2 6 27),(Qi 7 161)]) (.ret)) (.skip))) (.seq (.reg [(Qf 28 1 3),(Ql 29 28),(Qa 30 (.mkf 87 [(.t 4),(.t 5)])),(Qa 31 (.call 86 [(.t 29),(.t 30)])),(Qm 9 31)]) (.seq (.seq (.reg [(Qm 32 9),(Qa 33 (.bin .lss (.t 32) (.c (.iv 0))))]) (.ite (.t 33) (.seq (.reg [(Qa 34 (.build [.nl,.nl] [])),(Qs 2 6 34),(Qi 7 162)]) (.ret)) (.skip))) (.seq (.reg [(Qf 35 1 3),(Ql 36 35),(Qm 37 9),(Qk 38 5 36 37),(Qf 39 2 38),(Qe 40 3 39),(Qa 10 (.alloc 93 [.iv 0,.iv 0,.iv 0])),(Qs 3 10 40)]) (.seq (.drw [(Qf 41 1 3),(Ql 42 41),(Qm 43 9),(Qa 44 (.slice 5 (.t 42) none (some (.t 43)))),(Qf 45 1 3),(Ql 46 45),(Qm 47 9),(Qv 48 47 1),(Qa 49 (.slice 5 (.t 46) (some (.t 48)) none)),(Qa 50 (.bsl 23 1 2 [.nl] [(0,(.t 44)),(1,(.t 49))])),(Qa 51 (.call 88 [(.t 50)])),(Qf 52 1 3),(Qs 1 52 51)] [[],[0],[],[1,2],[],[4],[],[6],[5,7],[3,8],[9],[0,1,2,3,4,5,6,7,8,9,10],[11,10,10,0,1,2,3,4,5,6,7,8,9,10]] [[1],[0,3],[3],[1,2,9],[5],[4,8],[7],[6,8],[5,7,9],[3,8,10],[9,12],[12],[10,11]]) (.seq (.reg [(Qe 53 2 3),(Ql 54 5),(Qa 55 (.mkf 90 [(.t 4),(.t 10)])),(Qa 56 (.call 89 [(.t 53),(.t 54),(.t 55)])),(Qa 57 (.ext (.t 56) 0)),(Qa 58 (.ext (.t 56) 1)),(Qs 2 6 57),(Qm 7 58)]) (.ret))))))))
theorem ok48:FnOK Tryz.prog 48 Tryz.f48 e48 [.c 6 (some 2),.t 7] 3 56:=⟨by kernel_rfl,⟨_,rfl,by kernel_rfl⟩,by kernel_rfl,by kernel_rfl⟩
noncomputable def Zvi (x1:Bar) (x2:Int) (x3:Int) (x9:Mail):(List Mail)→Option (Bar×Int)
| x13=>
 (Zji ((Bar.mk x1.Drinkers x13)) x3 ((fun z=>Zti z x2 x9.Msg))).bind fun x14=>
 some (x14.1,x14.2)
noncomputable def Zwi (x1:Bar) (x2:Int) (x3:Int):Bool→Option (Bar×Int)
| x7=>
 ifb x7 (
 some ((Bar.mk (([]:(List Drinker))) (([]:(List Mail)))),161)) (
 (Zxf x1.Mail ((fun z=>Zri z x2 x3))).bind fun x8=>
 ifb (decide (x8<0)) (
 some ((Bar.mk (([]:(List Drinker))) (([]:(List Mail)))),162)) (
 (at_ x1.Mail x8).bind fun x9=>
 (sub_ x1.Mail 0 x8).bind fun x10=>
 (sub_ x1.Mail (wr (x8+1)) (ln Mail.row x1.Mail)).bind fun x11=>
 (Zcg ([x10,x11])).bind fun x12=>
 (Zvi x1 x2 x3 x9) x12))
noncomputable def Zxi (x1:Bar) (x2:Int) (x3:Int):Option (Bar×Int):=
 (Zbi x1).bind fun x4=>
 ifb (!decide (x4=0)) (
 some ((Bar.mk (([]:(List Drinker))) (([]:(List Mail)))),x4)) (
 (Zei x1 x2).bind fun x5=>
 ifb (!x5) (
 (Zwi x1 x2 x3) true) (
 (Zei x1 x3).bind fun x6=>
 (Zwi x1 x2 x3) (!x6)))
theorem Zyi (x1:Bar) (x2:Int) (x3:Int) (r:(Bar×Int)) (h:Zxi x1 x2 x3=some r):Zs2 Tryz.prog 48 [.agg (Bar.row x1),.iv x2,.iv x3] (.tup [.agg (Bar.row r.1),.iv r.2]):=by
 refine Zw2 ok48 rfl rfl fun w0 H0=>?_
 rw [Zxi] at h
 refine Zn2 12 ?_;dsimp only [go_sem];refine An ?_;obtain ⟨x4,ex4,h⟩:=Bs h;refine Z13 trivial (Zci x1 _ ex4) (h:=?_);refine Zn2 7 ?_;dsimp only [go_sem];refine An ?_;refine Zi4 h rfl (fun _ h=>?_) fun _ h=>?_
 ·refine Zn2 7 ?_;dsimp only [go_sem];refine An ?_;exact Zq4 (res:=fun (r:(Bar×Int))=>.tup [.agg (Bar.row r.1),.iv r.2]) ok48 h
 ·refine Zn2 6 ?_;dsimp only [go_sem];refine An ?_;obtain ⟨x5,ex5,h⟩:=Bs h;refine Z13 trivial (Zfi x1 x2 _ ex5) (h:=?_);refine Zn2 2 ?_;dsimp only [go_sem];refine An ?_;refine Zg4 (fun (x7:Bool)=>(⟨(an 3 (.ptr 0 0 :: .ptr 1 0 :: .ptr 2 0 :: .ptr 3 0::an 19 (.bv x7::an 32 []))),[some ⟨25,[.sl 5 (List.map Drinker.row x1.Drinkers),.sl 5 (List.map Mail.row x1.Mail)]⟩,some ⟨3,[.iv x2]⟩,some ⟨3,[.iv x3]⟩,some ⟨25,[.nl,.nl]⟩],[]⟩:St)) (Zwi x1 x2 x3) r ?_ fun J1=>?_
  ·intro x7 h;rw [Zwi] at h;(try dsimp only);refine Zi4 h rfl (fun _ h=>?_) fun _ h=>?_
   ·refine Zn2 6 ?_;dsimp only [go_sem];refine An ?_;exact Zq4 (res:=fun (r:(Bar×Int))=>.tup [.agg (Bar.row r.1),.iv r.2]) ok48 h
   ·refine Zn2 6 ?_;dsimp only [go_sem];refine An ?_;obtain ⟨x8,ex8,h⟩:=Bs h;refine Zu4 trivial (((Zt4.refl _).block 1 rfl rfl).block 2 rfl rfl) (Zyf x1.Mail _ _ ((fun z=>Zri z x2 x3)) ⟨by kernel_rfl,rfl,fun z r hz=>Zsi z x2 x3 r hz⟩ _ ex8) (h:=?_);refine Zn2 8 ?_;dsimp only [go_sem];refine An ?_;refine Zi4 h rfl (fun _ h=>?_) fun _ h=>?_
    ·refine Zn2 6 ?_;dsimp only [go_sem];refine An ?_;exact Zq4 (res:=fun (r:(Bar×Int))=>.tup [.agg (Bar.row r.1),.iv r.2]) ok48 h
    ·refine Zn2 6 ?_;dsimp only [go_sem];refine An ?_;obtain ⟨x9,ex9,h⟩:=Bs h;refine Zl4 Mail.row ex9 trivial rfl rfl rfl ?_;refine Zn2 6 ?_;dsimp only [go_sem];refine An ?_
     refine Zg4 (fun (x13:(List Mail))=>(⟨(an 3 (.ptr 0 0 :: .ptr 1 0 :: .ptr 2 0 :: .ptr 3 0::an 3 (.ptr 4 0::an 48 []))),[some ⟨25,[.sl 5 (List.map Drinker.row x1.Drinkers),.osl 1]⟩,some ⟨3,[.iv x2]⟩,some ⟨3,[.iv x3]⟩,some ⟨25,[.nl,.nl]⟩,some ⟨93,[.iv x9.Msg.Kind,.iv x9.Msg.Epoch,.iv x9.Msg.Num]⟩],[none,some ⟨95,5,List.map Mail.row x13⟩]⟩:St)) (Zvi x1 x2 x3 x9) r ?_ fun J2=>?_
     ·intro x13 h;rw [Zvi] at h;(try dsimp only);refine Zn2 5 ?_;dsimp only [go_sem];refine An ?_;refine Za3 1 rfl ?_;dsimp only [go_sem];refine V_sealB 1 rfl rfl ?_;dsimp only [go_sem];refine V_sealB 4 rfl rfl ?_;dsimp only [go_sem];obtain ⟨x14,ex14,h⟩:=Bs h;refine Z13 trivial (k_bar_act ((Bar.mk x1.Drinkers x13)) x3 _ _ ((fun z=>Zti z x2 x9.Msg)) ⟨by kernel_rfl,rfl,fun z r hz=>Zui z x2 x9.Msg r hz⟩ _ ex14) (h:=?_);refine Zn2 5 ?_;dsimp only [go_sem];refine An ?_
      exact Zq4 (res:=fun (r:(Bar×Int))=>.tup [.agg (Bar.row r.1),.iv r.2]) ok48 h
     ·refine Zi3 (by kernel_rfl) fun all hall hs hnap haf=>?_;dsimp only [go_sem];refine Z75 hall hs haf hnap 7 6 [3,1,4,5] [(41,[.ptr 0 1,.sl 5 (List.map Mail.row x1.Mail),.iv x8]),(1,[.ptr 0 1,.sl 5 (List.map Mail.row x1.Mail),.iv x8,.iv (wr (x8+1))])] (by kernel_rfl) ?_;dsimp only [go_sem];obtain ⟨x10,ex10,h⟩:=Bs h;refine G_sliceM hall hs haf hnap 3 Mail.row ex10 rfl rfl trivial rfl rfl rfl rfl rfl ?_;dsimp only [go_sem];obtain ⟨x11,ex11,h⟩:=Bs h;refine G_sliceM hall hs haf hnap 8 Mail.row ex11 rfl rfl trivial rfl rfl rfl rfl rfl ?_;dsimp only [go_sem]
      refine Zt3 9 rfl ?_;refine GO_bslS hall rfl trivial rfl trivial ?_;dsimp only [go_sem];refine Zt3 10 rfl ?_;obtain ⟨x12,ex12,h⟩:=Bs h;refine Z55 hall rfl trivial (Zdg ([x10,x11]) _ ex12) (h:=?_);dsimp only [go_sem];refine Z65 hall hs haf hnap 1 1 ?_;dsimp only [go_sem];refine An ?_;refine Zt3 12 rfl ?_;refine Zy3 hall rfl trivial ?_;dsimp only [go_sem];refine Zs3 rfl ?_ _;exact Zs4 J2 (s:=x12) h
  ·refine Zp4 21 h rfl (fun _ h=>?_) fun _ h=>?_
   ·dsimp only [go_sem];refine Zn2 6 ?_;dsimp only [go_sem];refine An ?_;exact Zs4 J1 (s:=true) h
   ·dsimp only [go_sem];refine Zn2 2 ?_;dsimp only [go_sem];refine An ?_;obtain ⟨x6,ex6,h⟩:=Bs h;refine Z13 trivial (Zfi x1 x3 _ ex6) (h:=?_);refine Zn2 3 ?_;dsimp only [go_sem];refine An ?_;exact Zs4 J1 (s:=!x6) h
set_option maxRecDepth 100000
set_option maxHeartbeats 4000000
@[go_sem] def e13:EC:=.seq (.reg [(Qx 2 25 2 0),(Qx 3 28 4 1),(Qa 4 (.alloc 25 [.nl,.nl])),(Qi 5 0)]) (.seq (.seq (.reg [(Qf 6 0 3),(Ql 7 6)]) (.blk 0 (.seq (.reg [(Qa 9 (.bin .eql (.t 7) (.c (.iv 0)))),(Qm 8 9)]) (.ite (.t 8) (.seq (.drw [(Qe 10 2 2),(Qf 11 1 3),(Ql 12 11),(Qa 13 (.bsl 3 1 0 [.iv 0] [])),(Qf 14 3 3),(Ql 15 14),(Qa 16 (.app 3 1 8 (.t 13) (.t 15))),(Qa 17 (.call 38 [(.t 10),(.t 12),(.t 16)])),(Qa 18 (.ext (.t 17) 0)),(Qa 19 (.ext (.t 17) 1)),(Qs 2 4 18),(Qm 5 19)] [[],[],[1],[],[],[4],[3,5],[0,2,6,6],[7],[7],[8,7,0,1,2,3,4,5,6,7,8,9],[9,10,0,1,2,3,4,5,6,7,8,9,10]] [[7],[2],[1,7],[6],[5],[4,6],[3,5,7],[0,2,6,8,9],[7,10],[7,11],[8],[9]]) (.ret)) (.seq (.reg [(Qa 21 (.bin .eql (.t 7) (.c (.iv 1)))),(Qm 20 21)]) (.ite (.t 20) (.seq (.reg [(Qe 22 2 2),(Qf 23 1 3),(Ql 24 23),(Qa 25 (.call 36 [(.t 22),(.t 24)])),(Qa 26 (.ext (.t 25) 0)),(Qa 27 (.ext (.t 25) 1)),(Qs 2 4 26),(Qm 5 27)]) (.ret)) (.skip))))))) (.seq (.reg [(Qe 28 2 2),(Qf 29 1 3),(Ql 30 29),(Qf 31 2 3),(Ql 32 31),(Qa 33 (.call 48 [(.t 28),(.t 30),(.t 32)])),(Qa 34 (.ext (.t 33) 0)),(Qa 35 (.ext (.t 33) 1)),(Qs 2 4 34),(Qm 5 35)]) (.ret)))
theorem ok13:FnOK Tryz.prog 13 Tryz.f13 e13 [.c 4 (some 2),.t 5] 2 34:=⟨by kernel_rfl,⟨_,rfl,by kernel_rfl⟩,by kernel_rfl,by kernel_rfl⟩
noncomputable def Zzi (x1:Bar) (x2:narthexlaw16_Act):Option (Bar×Int):=
 ifb (decide (x2.K=0)) (
 (Zb4 8 (([]:List Int)) x2.Need).bind fun x3=>
 (Zmi x1 x2.A x3).bind fun x4=>
 some (x4.1,x4.2)) (
 ifb (decide (x2.K=1)) (
 (Zoi x1 x2.A).bind fun x5=>
 some (x5.1,x5.2)) (
 (Zxi x1 x2.A x2.B).bind fun x6=>
 some (x6.1,x6.2)))
theorem Z0j (x1:Bar) (x2:narthexlaw16_Act) (r:(Bar×Int)) (h:Zzi x1 x2=some r):Zs2 Tryz.prog 13 [.agg (Bar.row x1),.agg (narthexlaw16_Act.row x2)] (.tup [.agg (Bar.row r.1),.iv r.2]):=by
 refine Zw2 ok13 rfl rfl fun w0 H0=>?_
 rw [Zzi] at h
 refine Zn2 19 ?_;dsimp only [go_sem];refine An ?_;refine Zi4 h rfl (fun _ h=>?_) fun _ h=>?_
 ·refine Zn2 1 ?_;dsimp only [go_sem];refine An ?_;refine Zi3 (by kernel_rfl) fun all hall hs hnap haf=>?_;dsimp only [go_sem];refine Z65 hall hs haf hnap 5 7 ?_;dsimp only [go_sem];refine An ?_;refine Zt3 3 rfl ?_;refine Zy3 hall rfl trivial ?_;dsimp only [go_sem];refine Zt3 6 rfl ?_;obtain ⟨x3,ex3,h⟩:=Bs h;refine GO_appSM Zw4 ex3 hall rfl trivial rfl rfl rfl ?_;dsimp only [go_sem];refine Zt3 7 rfl ?_;obtain ⟨x4,ex4,h⟩:=Bs h;refine Zz3 hall rfl trivial (Zni x1 x2.A x3 _ ex4) (h:=?_);dsimp only [go_sem]
  refine Z65 hall hs haf hnap 2 2 ?_;dsimp only [go_sem];refine An ?_;refine Zt3 10 rfl ?_;refine Zy3 hall rfl trivial ?_;dsimp only [go_sem];refine Z65 hall hs haf hnap 1 0 ?_;dsimp only [go_sem];refine An ?_;refine Zs3 rfl ?_ _;exact Zq4 (res:=fun (r:(Bar×Int))=>.tup [.agg (Bar.row r.1),.iv r.2]) ok13 h
 ·refine Zn2 5 ?_;dsimp only [go_sem];refine An ?_;refine Zi4 h rfl (fun _ h=>?_) fun _ h=>?_
  ·refine Zn2 5 ?_;dsimp only [go_sem];refine An ?_;obtain ⟨x5,ex5,h⟩:=Bs h;refine Z13 trivial (Zpi x1 x2.A _ ex5) (h:=?_);refine Zn2 5 ?_;dsimp only [go_sem];refine An ?_;exact Zq4 (res:=fun (r:(Bar×Int))=>.tup [.agg (Bar.row r.1),.iv r.2]) ok13 h
  ·refine Zn2 9 ?_;dsimp only [go_sem];refine An ?_;obtain ⟨x6,ex6,h⟩:=Bs h;refine Z13 trivial (Zyi x1 x2.A x2.B _ ex6) (h:=?_);refine Zn2 5 ?_;dsimp only [go_sem];refine An ?_;exact Zq4 (res:=fun (r:(Bar×Int))=>.tup [.agg (Bar.row r.1),.iv r.2]) ok13 h
set_option maxRecDepth 100000
set_option maxHeartbeats 4000000
@[go_sem] def e92:EC:=.seq (.reg [(Qx 1 61 3 0),(Qa 2 (.alloc 61 [.iv 0,.iv 0,.nl]))]) (.seq (.reg [(Qa 3 (.bsl 66 8 0 [.iv 0,.iv 0,.iv 0,.ff,.ff,.ff,.ff,.ff] [])),(Qf 4 2 1),(Ql 5 4),(Qa 6 (.app 66 8 32 (.t 3) (.t 5))),(Qf 7 2 1),(Qs 1 7 6)]) (.seq (.reg [(Qe 8 3 1),(Qs 3 2 8)]) (.ret)))
theorem ok92:FnOK Tryz.prog 92 Tryz.f92 e92 [.c 2 (some 3)] 1 8:=⟨by kernel_rfl,⟨_,rfl,by kernel_rfl⟩,by kernel_rfl,by kernel_rfl⟩
noncomputable def Z1j (x1:Diner):Option Diner:=
 (Zb4 32 (([]:List Side)) x1.Sides).bind fun x2=>
 some (Diner.mk x1.ID x1.Phase x2)
theorem Z2j (x1:Diner) (r:Diner) (h:Z1j x1=some r):Zs2 Tryz.prog 92 [.agg (Diner.row x1)] (.agg (Diner.row r)):=by
 refine Zw2 ok92 rfl rfl fun w0 H0=>?_
 rw [Z1j] at h
 refine Zn2 10 ?_;dsimp only [go_sem];refine An ?_;obtain ⟨x2,ex2,h⟩:=Bs h;refine Zn4 Side.row ex2 trivial rfl rfl rfl ?_;refine Zn2 8 ?_;dsimp only [go_sem];refine An ?_;refine Za3 1 rfl ?_;dsimp only [go_sem];exact Zq4 (res:=fun (r:Diner)=>.agg (Diner.row r)) ok92 h
set_option maxRecDepth 100000
set_option maxHeartbeats 4000000
@[go_sem] def e50:EC:=.seq (.reg [(Qx 1 63 5 0),(Qa 2 (.alloc 63 [.iv 0,.iv 0,.nl,.iv 0,.nl]))]) (.seq (.reg [(Qf 3 0 1),(Qe 4 3 3),(Qa 5 (.call 92 [(.t 4)])),(Qf 6 0 1),(Qs 3 6 5)]) (.seq (.reg [(Qa 7 (.bsl 3 1 0 [.iv 0] [])),(Qf 8 4 1),(Ql 9 8),(Qa 10 (.app 3 1 8 (.t 7) (.t 9))),(Qf 11 4 1),(Qs 1 11 10)]) (.seq (.reg [(Qe 12 5 1),(Qs 5 2 12)]) (.ret))))
theorem ok50:FnOK Tryz.prog 50 Tryz.f50 e50 [.c 2 (some 5)] 1 12:=⟨by kernel_rfl,⟨_,rfl,by kernel_rfl⟩,by kernel_rfl,by kernel_rfl⟩
noncomputable def Z3j (x1:Drinker):Option Drinker:=
 (Z1j x1.Diner).bind fun x2=>
 (Zb4 8 (([]:List Int)) x1.Need).bind fun x3=>
 some (Drinker.mk x2 x1.Thirst x3)
theorem Z4j (x1:Drinker) (r:Drinker) (h:Z3j x1=some r):Zs2 Tryz.prog 50 [.agg (Drinker.row x1)] (.agg (Drinker.row r)):=by
 refine Zw2 ok50 rfl rfl fun w0 H0=>?_
 rw [Z3j] at h
 refine Zn2 9 ?_;dsimp only [go_sem];refine An ?_;obtain ⟨x2,ex2,h⟩:=Bs h;refine Z13 trivial (Z2j x1.Diner _ ex2) (h:=?_);refine Zn2 8 ?_;dsimp only [go_sem];refine An ?_;obtain ⟨x3,ex3,h⟩:=Bs h;refine Zn4 Zw4 ex3 trivial rfl rfl rfl ?_;refine Zn2 8 ?_;dsimp only [go_sem];refine An ?_;refine Za3 1 rfl ?_;dsimp only [go_sem];exact Zq4 (res:=fun (r:Drinker)=>.agg (Drinker.row r)) ok50 h
set_option maxRecDepth 100000
set_option maxHeartbeats 4000000
@[go_sem] def e14_L0:EC:=.seq (.seq (.reg [(Qm 10 4),(Qf 11 0 1),(Ql 12 11),(Qa 13 (.len (.t 12))),(Qa 14 (.bin .lss (.t 10) (.t 13)))]) (.ite (.t 14) (.skip) (.exit 0))) (.seq (.blk 1 (.drw [(Qf 17 0 3),(Ql 18 17),(Qf 19 0 1),(Ql 20 19),(Qm 21 4),(Qk 22 5 20 21),(Qe 23 5 22),(Qa 24 (.call 50 [(.t 23)])),(Qa 25 (.bsl 63 5 1 [.iv 0,.iv 0,.nl,.iv 0,.nl] [(0,(.t 24))])),(Qa 26 (.app 63 5 72 (.t 18) (.t 25))),(Qf 27 0 3),(Qs 1 27 26)] [[],[0],[],[2],[],[3,4],[5],[6],[7],[1,8,7],[0,1,2,3,4,5,6,7,8,9],[10,9,9,0,1,2,3,4,5,6,7,8,9]] [[1],[0,9],[3],[2,5],[5],[3,4,6],[5,7],[6,8],[7,9],[1,8,11],[11],[9,10]])) (.reg [(Qm 15 4),(Qv 16 15 1),(Qm 4 16)]))
@[go_sem] def e14:EC:=.seq (.reg [(Qx 1 25 2 0),(Qa 2 (.alloc 25 [.nl,.nl]))]) (.seq (.reg [(Qa 5 (.bsl 95 5 0 [.iv 0,.iv 0,.iv 0,.iv 0,.iv 0] [])),(Qf 6 1 1),(Ql 7 6),(Qa 8 (.app 95 5 40 (.t 5) (.t 7))),(Qa 9 (.build [.nl,.nl] [(1,1,(.t 8))])),(Qa 3 (.alloc 25 [.nl,.nl])),(Qs 2 3 9)]) (.seq (.seq (.reg [(Qi 4 0)]) (.blk 0 (.loop e14_L0))) (.seq (.reg [(Qe 28 2 3),(Qs 2 2 28)]) (.ret))))
theorem ok14:FnOK Tryz.prog 14 Tryz.f14 e14 [.c 2 (some 2)] 1 28:=⟨by kernel_rfl,⟨_,rfl,by kernel_rfl⟩,by kernel_rfl,by kernel_rfl⟩
noncomputable def Z5j (x2:(List Mail)):(List Drinker)→Option Bar
| x28=>
 some (Bar.mk x28 x2)
noncomputable def Z6j (x1:Bar) (x2:(List Mail)):(Int×(List Drinker))→Option ((Int×(List Drinker)) ⊕ Bar)
| (x8,x9)=>
 ifb (decide (x8<(ln Drinker.row x1.Drinkers))) (
 (at_ x1.Drinkers x8).bind fun x10=>
 (Z3j x10).bind fun x11=>
 (Zb4 72 x9 ([x11])).bind fun x13=>
 some (.inl (wr (x8+1),x13))) (
 Option.map Sum.inr ((Z5j x2) x9))
noncomputable def Z7j (x1:Bar):Option Bar:=
 (Zb4 40 (([]:List Mail)) x1.Mail).bind fun x2=>
 loop (Z6j x1 x2) (0,([]:List Drinker))
theorem Z8j (x1:Bar) (r:Bar) (h:Z7j x1=some r):Zs2 Tryz.prog 14 [.agg (Bar.row x1)] (.agg (Bar.row r)):=by
 refine Zw2 ok14 rfl rfl fun w0 H0=>?_
 rw [Z7j] at h
 refine Zn2 10 ?_;dsimp only [go_sem];refine An ?_;obtain ⟨x2,ex2,h⟩:=Bs h;refine Zn4 Mail.row ex2 trivial rfl rfl rfl ?_;refine Zn2 9 ?_;dsimp only [go_sem];refine An ?_;refine Zg4 (fun (x28:(List Drinker))=>(⟨(.any :: .any :: .ptr 1 0 :: .ptr 2 0::an 25 []),[none,some ⟨25,[.nl,.nl]⟩,some ⟨25,[.osl 2,.osl 1]⟩],[none,some ⟨95,5,List.map Mail.row x2⟩,some ⟨63,5,List.map Drinker.row x28⟩]⟩:St)) (Z5j x2) r ?_ fun J1=>?_
 ·intro x28 h;rw [Z5j] at h;(try dsimp only);refine Zn2 5 ?_;dsimp only [go_sem];refine An ?_;refine Za3 2 rfl ?_;dsimp only [go_sem];refine Za3 1 rfl ?_;dsimp only [go_sem];exact Zq4 (res:=fun (r:Bar)=>.agg (Bar.row r)) ok14 h
 ·refine Zn2 1 ?_;dsimp only [go_sem];refine An ?_;refine Z54 2 0 63 5 rfl rfl rfl ?_;dsimp only [go_sem];refine Zh4 h (fun ((x8,x9):(Int×(List Drinker)))=>(⟨(.any :: .ptr 0 0 :: .ptr 1 0 :: .ptr 2 0 :: .iv x8::an 24 []),[some ⟨25,[.sl 5 (List.map Drinker.row x1.Drinkers),.sl 5 (List.map Mail.row x1.Mail)]⟩,some ⟨25,[.nl,.nl]⟩,some ⟨25,[.osl 2,.osl 1]⟩],[none,some ⟨95,5,List.map Mail.row x2⟩,some ⟨63,5,List.map Drinker.row x9⟩]⟩:St)) (by simp [go_sem]) (by rintro ⟨x8,x9⟩;first | rfl | simp [go_sem]) ?_;rintro n1 ⟨x8,x9⟩ y1 h hin1 hout1
  rw [Z6j] at h;(try dsimp only);refine Zn2 9 ?_;dsimp only [go_sem];refine An ?_;refine Zi4 h rfl (fun _ h=>?_) fun _ h=>?_
  ·refine Zn2 3 ?_;dsimp only [go_sem];refine An ?_;refine Zi3 (by kernel_rfl) fun all hall hs hnap haf=>?_;dsimp only [go_sem];refine Z65 hall hs haf hnap 4 8 ?_;dsimp only [go_sem];refine An ?_;obtain ⟨x10,ex10,h⟩:=Bs h;refine Zm4 hall hs haf hnap 5 Drinker.row ex10 rfl rfl trivial rfl rfl rfl rfl ?_;refine Z65 hall hs haf hnap 1 6 ?_;dsimp only [go_sem];refine An ?_;obtain ⟨x11,ex11,h⟩:=Bs h;refine Zu3 1 7 rfl ?_ ?_
   ·refine Zy3 hall rfl trivial ?_;dsimp only [go_sem];refine Zt3 7 rfl ?_;refine Zz3 hall rfl trivial (Z4j x10 _ ex11) (h:=?_);dsimp only [go_sem];refine Zt3 8 rfl ?_;refine Zy3 hall rfl trivial ?_;dsimp only [go_sem];refine Zt3 9 rfl ?_;obtain ⟨x13,ex13,h⟩:=Bs h;refine Zo4 Drinker.row ex13 hall rfl trivial rfl rfl rfl ?_;dsimp only [go_sem];refine Z65 hall hs haf hnap 1 1 ?_;dsimp only [go_sem];refine An ?_;refine Zt3 11 rfl ?_;refine Zy3 hall rfl trivial ?_;dsimp only [go_sem];refine Zs3 rfl ?_ _;refine Zn2 6 ?_
    dsimp only [go_sem];refine An ?_;refine Z44 4 2 rfl rfl rfl ?_;dsimp only [go_sem];exact Zr4 h hin1
   ·refine Zz3 hall rfl trivial (Z4j x10 _ ex11) (h:=?_);dsimp only [go_sem];refine Zu3 1 8 rfl ?_ ?_
    ·refine Zy3 hall rfl trivial ?_;dsimp only [go_sem];refine Zt3 8 rfl ?_;refine Zy3 hall rfl trivial ?_;dsimp only [go_sem];refine Zt3 9 rfl ?_;obtain ⟨x13,ex13,h⟩:=Bs h;refine Zo4 Drinker.row ex13 hall rfl trivial rfl rfl rfl ?_;dsimp only [go_sem];refine Z65 hall hs haf hnap 1 1 ?_;dsimp only [go_sem];refine An ?_;refine Zt3 11 rfl ?_;refine Zy3 hall rfl trivial ?_;dsimp only [go_sem];refine Zs3 rfl ?_ _;refine Zn2 6 ?_;dsimp only [go_sem];refine An ?_;refine Z44 4 2 rfl rfl rfl ?_;dsimp only [go_sem];exact Zr4 h hin1
    ·refine Zy3 hall rfl trivial ?_;dsimp only [go_sem];refine Zt3 1 rfl ?_;refine Zy3 hall rfl trivial ?_;dsimp only [go_sem];refine Zt3 9 rfl ?_;obtain ⟨x13,ex13,h⟩:=Bs h;refine Zo4 Drinker.row ex13 hall rfl trivial rfl rfl rfl ?_;dsimp only [go_sem];refine Z65 hall hs haf hnap 1 1 ?_;dsimp only [go_sem];refine An ?_;refine Zt3 11 rfl ?_;refine Zy3 hall rfl trivial ?_;dsimp only [go_sem];refine Zs3 rfl ?_ _;refine Zn2 6 ?_;dsimp only [go_sem];refine An ?_;refine Z44 4 2 rfl rfl rfl ?_;dsimp only [go_sem];exact Zr4 h hin1
  ·refine Zn2 1 ?_;dsimp only [go_sem];refine An ?_;exact Zs4 J1 (s:=x9) (Zf4 h hout1)
set_option maxRecDepth 100000
set_option maxHeartbeats 4000000
@[go_sem] def e22_L0:EC:=.seq (.reg [(Qa 12 (.bin .lss (.t 11) (.t 10)))]) (.seq (.ite (.t 12) (.skip) (.exit 0)) (.seq (.blk 1 (.seq (.reg [(Qk 13 5 9 11),(Qe 14 5 13),(Qa 7 (.alloc 63 [.iv 0,.iv 0,.nl,.iv 0,.nl])),(Qs 5 7 14)]) (.seq (.reg [(Qf 15 3 7),(Ql 16 15),(Qm 17 1),(Qa 18 (.bin .eql (.t 16) (.t 17)))]) (.ite (.t 18) (.reg [(Qm 19 5),(Qf 20 0 7),(Qf 21 0 20),(Ql 22 21),(Qa 23 (.bsl 3 1 1 [.iv 0] [(0,(.t 22))])),(Qa 24 (.app 3 1 8 (.t 19) (.t 23))),(Qm 5 24)]) (.skip))))) (.reg [(Qv 25 11 1),(Qm 11 25)])))
@[go_sem] def e22:EC:=.seq (.reg [(Qx 2 25 2 0),(Qa 4 (.mv (.c .nl)))]) (.seq (.reg [(Qa 5 (.mv (.c .nl)))]) (.seq (.seq (.reg [(Qf 8 0 2),(Ql 9 8),(Qa 10 (.len (.t 9))),(Qi 11 0)]) (.blk 0 (.loop e22_L0))) (.seq (.reg [(Qm 26 5),(Qm 4 26)]) (.ret))))
theorem ok22:FnOK Tryz.prog 22 Tryz.f22 e22 [.t 4] 2 25:=⟨by kernel_rfl,⟨_,rfl,by kernel_rfl⟩,by kernel_rfl,by kernel_rfl⟩
noncomputable def Z9j:(List Int)→Option (List Int)
| x20=>
 some x20
noncomputable def Zaj (x8:Int):(List Int)→Option ((Int×(List Int)) ⊕ (List Int))
| x12=>
 some (.inl (wr (x8+1),x12))
noncomputable def Zbj (x1:Bar) (x2:Int):(Int×(List Int))→Option ((Int×(List Int)) ⊕ (List Int))
| (x8,x9)=>
 ifb (decide (x8<(ln Drinker.row x1.Drinkers))) (
 (at_ x1.Drinkers x8).bind fun x10=>
 ifb (decide (x10.Thirst=x2)) (
 (Zb4 8 x9 ([x10.Diner.ID])).bind fun x11=>
 (Zaj x8) x11) (
 (Zaj x8) x9)) (
 Option.map Sum.inr (Z9j x9))
noncomputable def Zcj (x1:Bar) (x2:Int):Option (List Int):=
 loop (Zbj x1 x2) (0,([]:List Int))
theorem o_bar_Who (x1:Bar) (x2:Int) (r:(List Int)) (h:Zcj x1 x2=some r):FunO Tryz.prog 22 [.agg (Bar.row x1),.iv x2] 3 1 (List.map Zw4 r):=by
 refine Z35 ok22 rfl fun w0 H0=>?_
 rw [Zcj] at h
 refine Zn2 17 ?_;dsimp only [go_sem];refine An ?_;refine Zg4 (fun (x20:(List Int))=>(⟨(an 5 (.osl 0::an 21 [])),[],[some ⟨3,1,List.map Zw4 x20⟩]⟩:St)) Z9j r ?_ fun J1=>?_
 ·intro x20 h;rw [Z9j] at h;(try dsimp only);refine Zn2 5 ?_;dsimp only [go_sem];refine An ?_;exact Z85 Zw4 ok22 h rfl rfl
 ·refine Zn2 1 ?_;dsimp only [go_sem];refine An ?_;refine V_own 5 3 1 rfl rfl ?_;dsimp only [go_sem];refine Zh4 h (fun ((x8,x9):(Int×(List Int)))=>(⟨(.any :: .iv x2::an 3 (.osl 0::an 3 (.sl 5 (List.map Drinker.row x1.Drinkers) :: .iv (ln Drinker.row x1.Drinkers) :: .iv x8::an 15 []))),[],[some ⟨3,1,List.map Zw4 x9⟩]⟩:St)) (by simp [go_sem]) (by rintro ⟨x8,x9⟩;first | rfl | simp [go_sem]) ?_;rintro n1 ⟨x8,x9⟩ y1 h hin1 hout1;rw [Zbj] at h;(try dsimp only);refine Zn2 5 ?_;dsimp only [go_sem];refine An ?_
  refine Zi4 h rfl (fun _ h=>?_) fun _ h=>?_
  ·refine Zn2 5 ?_;dsimp only [go_sem];refine An ?_;obtain ⟨x10,ex10,h⟩:=Bs h;refine Zl4 Drinker.row ex10 trivial rfl rfl rfl ?_;refine Zn2 11 ?_;dsimp only [go_sem];refine An ?_;refine Zg4 (fun (x12:(List Int))=>(⟨(.any :: .iv x2::an 3 (.osl 0::an 3 (.sl 5 (List.map Drinker.row x1.Drinkers) :: .iv (ln Drinker.row x1.Drinkers) :: .iv x8::an 15 []))),[],[some ⟨3,1,List.map Zw4 x12⟩]⟩:St)) (Zaj x8) y1 ?_ fun J2=>?_
   ·intro x12 h;rw [Zaj] at h;(try dsimp only);refine Zn2 5 ?_;dsimp only [go_sem];refine An ?_;exact Zr4 h hin1
   ·refine Zi4 h rfl (fun _ h=>?_) fun _ h=>?_
    ·refine Zn2 6 ?_;dsimp only [go_sem];refine An ?_;obtain ⟨x11,ex11,h⟩:=Bs h;refine Zn4 Zw4 ex11 trivial rfl rfl rfl ?_;refine Zn2 2 ?_;dsimp only [go_sem];refine An ?_;refine Z44 2 0 rfl rfl rfl ?_;dsimp only [go_sem];exact Zs4 J2 (s:=x11) h
    ·refine Zn2 1 ?_;dsimp only [go_sem];refine An ?_;exact Zs4 J2 (s:=x9) h
  ·refine Zn2 1 ?_;dsimp only [go_sem];refine An ?_;exact Zs4 J1 (s:=x9) (Zf4 h hout1)
theorem Zdj (x1:Bar) (x2:Int) (r:(List Int)) (h:Zcj x1 x2=some r):Zs2 Tryz.prog 22 [.agg (Bar.row x1),.iv x2] (.sl 1 (List.map Zw4 r)):=(o_bar_Who x1 x2 r h).sealed
set_option maxRecDepth 100000
set_option maxHeartbeats 4000000
@[go_sem] def e19_L1:EC:=.seq (.reg [(Qa 103 (.bin .lss (.t 102) (.t 101)))]) (.seq (.ite (.t 103) (.skip) (.exit 2)) (.seq (.blk 3 (.seq (.reg [(Qk 104 5 100 102),(Qe 105 5 104),(Qa 16 (.alloc 95 [.iv 0,.iv 0,.iv 0,.iv 0,.iv 0])),(Qs 5 16 105)]) (.seq (.reg [(Qf 106 2 16),(Qf 107 0 106),(Ql 108 107),(Qm 109 2),(Qa 110 (.bin .eql (.t 108) (.t 109))),(Qm 111 110),(Qh 112 111 true 2 16),(Qh 113 111 true 1 112),(Qn 114 111 true 113),(Qh 115 111 true 1 7),(Qn 116 111 true 115),(Qg 117 111 true (.bin .eql (.t 114) (.t 116))),(Qp 118 111 117),(Qm 119 118),(Qh 120 119 true 0 16),(Qn 121 119 true 120),(Qh 122 119 true 1 16),(Qn 123 119 true 122),(Qg 124 119 true (.mm false [(.t 121),(.t 123)])),(Qh 125 119 true 0 4),(Qn 126 119 true 125),(Qh 127 119 true 1 4),(Qn 128 119 true 127),(Qg 129 119 true (.mm false [(.t 126),(.t 128)])),(Qg 130 119 true (.bin .eql (.t 124) (.t 129))),(Qp 131 119 130),(Qm 132 131),(Qh 133 132 true 0 16),(Qn 134 132 true 133),(Qh 135 132 true 1 16),(Qn 136 132 true 135),(Qg 137 132 true (.mm true [(.t 134),(.t 136)])),(Qh 138 132 true 0 4),(Qn 139 132 true 138),(Qh 140 132 true 1 4),(Qn 141 132 true 140),(Qg 142 132 true (.mm true [(.t 139),(.t 141)])),(Qg 143 132 true (.bin .eql (.t 137) (.t 142))),(Qp 144 132 143)]) (.ite (.t 144) (.reg [(Qm 145 12),(Qv 146 145 1),(Qm 12 146)]) (.skip))))) (.reg [(Qv 147 102 1),(Qm 102 147)])))
@[go_sem] def e19_L0:EC:=.seq (.reg [(Qa 93 (.bin .lss (.t 92) (.c (.iv 2))))]) (.seq (.ite (.t 93) (.skip) (.exit 0)) (.seq (.blk 1 (.seq (.reg [(Qa 94 (.ai 2 (.t 91) (.t 92))),(Qm 14 94)]) (.seq (.reg [(Qm 95 14)]) (.ite (.t 95) (.reg [(Qm 96 12),(Qv 97 96 1),(Qm 12 97)]) (.skip))))) (.reg [(Qv 98 92 1),(Qm 92 98)])))
@[go_sem] def e19:EC:=.seq (.reg [(Qx 3 25 2 0),(Qx 4 30 2 1),(Qi 6 0)]) (.seq (.seq (.reg [(Qm 17 2),(Qa 18 (.bin .neq (.t 17) (.c (.iv 3)))),(Qm 19 18),(Qg 20 19 true (.mv (.t 2))),(Qg 21 19 true (.bin .neq (.t 20) (.c (.iv 4)))),(Qp 22 19 21)]) (.ite (.t 22) (.seq (.drw [(Qe 23 2 3),(Qa 24 (.call 26 [(.t 23)])),(Qe 25 2 4),(Qm 26 2),(Qa 27 (.call 63 [(.t 24),(.t 25),(.t 26)])),(Qm 6 27)] [[],[0],[],[],[1,2,3,1],[4,4,0,1,2,3,4]] [[1],[0,4],[4],[4],[1,2,3,5],[4]]) (.ret)) (.skip))) (.seq (.seq (.reg [(Qe 28 2 3),(Qf 29 0 4),(Ql 30 29),(Qa 31 (.call 64 [(.t 28),(.t 30)])),(Qa 32 (.not (.t 31))),(Qm 33 32),(Qg 34 33 false (.loadA 2 (.t 3))),(Qh 35 33 false 1 4),(Qn 36 33 false 35),(Qg 37 33 false (.call 64 [(.t 34),(.t 36)])),(Qg 38 33 false (.not (.t 37))),(Qq 39 33 38)]) (.ite (.t 39) (.seq (.reg [(Qi 6 0)]) (.ret)) (.skip))) (.seq (.drw [(Qf 41 0 3),(Ql 42 41),(Qf 43 0 4),(Ql 44 43),(Qk 45 5 42 44),(Qf 46 0 45),(Qe 47 3 46),(Qf 48 1 4),(Ql 49 48),(Qa 50 (.call 65 [(.t 47),(.t 49)])),(Qm 40 50),(Qa 51 (.ext (.t 40) 0)),(Qa 52 (.ext (.t 40) 1)),(Qa 7 (.alloc 66 [.iv 0,.iv 0,.iv 0,.ff,.ff,.ff,.ff,.ff])),(Qs 8 7 51),(Qm 8 52)] [[],[0],[],[2],[1,3],[4],[5],[],[7],[6,8],[9],[10],[10],[],[13,11,9,0,1,2,3,4,5,6,7,8,9,10,11,13],[12,14,0,1,2,3,4,5,6,7,8,9,10,11,12,13,14]] [[1],[0,4],[3],[2,4],[1,3,5],[4,6],[5,9],[8],[7,9],[6,8,10],[9,11,12],[10,14],[10,15],[14],[11,13],[12]]) (.seq (.drw [(Qf 54 0 3),(Ql 55 54),(Qf 56 1 4),(Ql 57 56),(Qk 58 5 55 57),(Qf 59 0 58),(Qe 60 3 59),(Qf 61 0 4),(Ql 62 61),(Qa 63 (.call 65 [(.t 60),(.t 62)])),(Qm 53 63),(Qa 64 (.ext (.t 53) 0)),(Qa 65 (.ext (.t 53) 1)),(Qa 9 (.alloc 66 [.iv 0,.iv 0,.iv 0,.ff,.ff,.ff,.ff,.ff])),(Qs 8 9 64),(Qm 10 65)] [[],[0],[],[2],[1,3],[4],[5],[],[7],[6,8],[9],[10],[10],[],[13,11,9,0,1,2,3,4,5,6,7,8,9,10,11,13],[12,14,0,1,2,3,4,5,6,7,8,9,10,11,12,13,14]] [[1],[0,4],[3],[2,4],[1,3,5],[4,6],[5,9],[8],[7,9],[6,8,10],[9,11,12],[10,14],[10,15],[14],[11,13],[12]]) (.seq (.seq (.reg [(Qm 66 8),(Qa 67 (.not (.t 66))),(Qm 68 67),(Qg 69 68 false (.mv (.t 10))),(Qg 70 68 false (.not (.t 69))),(Qq 71 68 70),(Qm 72 71),(Qh 73 72 false 1 7),(Qn 74 72 false 73),(Qh 75 72 false 1 9),(Qn 76 72 false 75),(Qg 77 72 false (.bin .neq (.t 74) (.t 76))),(Qq 78 72 77)]) (.ite (.t 78) (.seq (.reg [(Qi 6 0)]) (.ret)) (.skip))) (.seq (.reg [(Qf 79 6 7),(Ql 80 79),(Qf 81 6 9),(Ql 82 81),(Qa 83 (.build [.ff,.ff] [(0,1,(.t 80)),(1,1,(.t 82))])),(Qa 11 (.alloc 105 [.ff,.ff])),(Qs 2 11 83)]) (.seq (.seq (.reg [(Qm 84 2),(Qa 85 (.bin .eql (.t 84) (.c (.iv 4))))]) (.ite (.t 85) (.reg [(Qf 86 7 7),(Ql 87 86),(Qf 88 7 9),(Ql 89 88),(Qa 90 (.build [.ff,.ff] [(0,1,(.t 87)),(1,1,(.t 89))])),(Qs 2 11 90)]) (.skip))) (.seq (.reg [(Qi 12 0)]) (.seq (.seq (.reg [(Qe 91 2 11),(Qi 92 0)]) (.blk 0 (.loop e19_L0))) (.seq (.seq (.reg [(Qf 99 1 3),(Ql 100 99),(Qa 101 (.len (.t 100))),(Qi 102 0)]) (.blk 2 (.loop e19_L1))) (.seq (.reg [(Qm 148 12),(Qm 6 148)]) (.ret))))))))))))
theorem ok19:FnOK Tryz.prog 19 Tryz.f19 e19 [.t 6] 3 146:=⟨by kernel_rfl,⟨_,rfl,by kernel_rfl⟩,by kernel_rfl,by kernel_rfl⟩
noncomputable def Zej:Int→Option Int
| x61=>
 some x61
noncomputable def Zfj (x48:Int):Int→Option ((Int×Int) ⊕ Int)
| x51=>
 some (.inl (x51,wr (x48+1)))
noncomputable def Zgj (x47:Int) (x48:Int):Bool→Option ((Int×Int) ⊕ Int)
| x50=>
 ifb x50 (
 (Zfj x48) (wr (x47+1))) (
 (Zfj x48) x47)
noncomputable def Zhj (x1:Bar) (x2:Edge) (x3:Int) (x14:Side):(Int×Int)→Option ((Int×Int) ⊕ Int)
| (x47,x48)=>
 ifb (decide (x48<(ln Mail.row x1.Mail))) (
 (at_ x1.Mail x48).bind fun x49=>
 ifb (decide (x49.Msg.Kind=x3)) (
 ifb (decide (x49.Msg.Epoch=x14.Epoch)) (
 ifb (decide (((min x49.From x49.To))=((min x2.A x2.B)))) (
 (Zgj x47 x48) (decide (((max x49.From x49.To))=((max x2.A x2.B))))) (
 (Zgj x47 x48) false)) (
 (Zgj x47 x48) false)) (
 (Zgj x47 x48) false)) (
 Option.map Sum.inr (Zej x47))
noncomputable def Zij (x1:Bar) (x2:Edge) (x3:Int) (x14:Side):Int→Option Int
| x41=>
 loop (Zhj x1 x2 x3 x14) (x41,0)
noncomputable def Zjj (x28:Int):Int→Option ((Int×Int) ⊕ Int)
| x30=>
 some (.inl (x30,wr (x28+1)))
noncomputable def Zkj (x1:Bar) (x2:Edge) (x3:Int) (x14:Side) (x21:Bool) (x22:Bool):(Int×Int)→Option ((Int×Int) ⊕ Int)
| (x27,x28)=>
 ifb (decide (x28<2)) (
 (at_ [x21,x22] x28).bind fun x29=>
 ifb x29 (
 (Zjj x28) (wr (x27+1))) (
 (Zjj x28) x27)) (
 Option.map Sum.inr ((Zij x1 x2 x3 x14) x27))
noncomputable def Zlj (x1:Bar) (x2:Edge) (x3:Int) (x14:Side):(Bool×Bool)→Option Int
| (x21,x22)=>
 loop (Zkj x1 x2 x3 x14 x21 x22) (0,0)
noncomputable def Zmj (x1:Bar) (x2:Edge) (x3:Int) (x14:Side) (x19:Side):Bool→Option Int
| x20=>
 ifb x20 (
 some 0) (
 ifb (decide (x3=4)) (
 (Zlj x1 x2 x3 x14) (x14.Ask,x19.Ask)) (
 (Zlj x1 x2 x3 x14) (x14.Bottle,x19.Bottle)))
noncomputable def Znj (x1:Bar) (x2:Edge) (x3:Int) (x13:Bool) (x14:Side):(Bool×Side)→Option Int
| (x18,x19)=>
 ifb (!x13) (
 (Zmj x1 x2 x3 x14 x19) true) (
 ifb (!x18) (
 (Zmj x1 x2 x3 x14 x19) true) (
 (Zmj x1 x2 x3 x14 x19) (!decide (x14.Epoch=x19.Epoch))))
noncomputable def Zoj (x1:Bar) (x2:Edge) (x3:Int):(Bool×Side)→Option Int
| (x13,x14)=>
 (at_ x1.Drinkers x2.B).bind fun x15=>
 (Zi7 x15.Diner x2.A).bind fun x16=>
 (Znj x1 x2 x3 x13 x14) (x16.2,x16.1)
noncomputable def Zpj (x1:Bar) (x2:Edge) (x3:Int):Bool→Option Int
| x9=>
 ifb x9 (
 some 0) (
 (at_ x1.Drinkers x2.A).bind fun x10=>
 (Zi7 x10.Diner x2.B).bind fun x11=>
 (Zoj x1 x2 x3) (x11.2,x11.1))
noncomputable def Zqj (x1:Bar) (x2:Edge) (x3:Int):Bool→Option Int
| x4=>
 ifb x4 (
 (Z2i x1).bind fun x5=>
 (Zph x5 x2 x3).bind fun x6=>
 some x6) (
 (Zei x1 x2.A).bind fun x7=>
 ifb (!x7) (
 (Zpj x1 x2 x3) true) (
 (Zei x1 x2.B).bind fun x8=>
 (Zpj x1 x2 x3) (!x8)))
noncomputable def Zrj (x1:Bar) (x2:Edge) (x3:Int):Option Int:=
 ifb (!decide (x3=3)) (
 (Zqj x1 x2 x3) (!decide (x3=4))) (
 (Zqj x1 x2 x3) false)
theorem k_bar_Count (x1:Bar) (x2:Edge) (x3:Int) (r:Int) (h:Zrj x1 x2 x3=some r):Zs2 Tryz.prog 19 [.agg (Bar.row x1),.agg (Edge.row x2),.iv x3] (.iv r):=by
 refine Zw2 ok19 rfl rfl fun w0 H0=>?_
 rw [Zrj] at h
 refine Zn2 12 ?_;dsimp only [go_sem];refine An ?_;refine Zg4 (fun (x4:Bool)=>(⟨(.any :: .any :: .iv x3 :: .ptr 0 0 :: .ptr 1 0::an 17 (.bv x4::an 126 [])),[some ⟨25,[.sl 5 (List.map Drinker.row x1.Drinkers),.sl 5 (List.map Mail.row x1.Mail)]⟩,some ⟨30,[.iv x2.A,.iv x2.B]⟩],[]⟩:St)) (Zqj x1 x2 x3) r ?_ fun J1=>?_
 ·intro x4 h;rw [Zqj] at h;(try dsimp only);refine Zi4 h rfl (fun _ h=>?_) fun _ h=>?_
  ·refine Zn2 1 ?_;dsimp only [go_sem];refine An ?_;refine Zi3 (by kernel_rfl) fun all hall hs hnap haf=>?_;dsimp only [go_sem];refine Z65 hall hs haf hnap 3 3 ?_;dsimp only [go_sem];refine An ?_;refine Zt3 1 rfl ?_;obtain ⟨x5,ex5,h⟩:=Bs h;refine Zz3 hall rfl trivial (Z3i x1 _ ex5) (h:=?_);dsimp only [go_sem];refine Zt3 4 rfl ?_;obtain ⟨x6,ex6,h⟩:=Bs h;refine Zz3 hall rfl trivial (k_table_Count x5 x2 x3 _ ex6) (h:=?_);dsimp only [go_sem];refine Z65 hall hs haf hnap 1 0 ?_;dsimp only [go_sem];refine An ?_;refine Zs3 rfl ?_ _
   exact Zq4 (res:=fun (r:Int)=>.iv r) ok19 h
  ·refine Zn2 7 ?_;dsimp only [go_sem];refine An ?_;obtain ⟨x7,ex7,h⟩:=Bs h;refine Z13 trivial (Zfi x1 x2.A _ ex7) (h:=?_);refine Zn2 2 ?_;dsimp only [go_sem];refine An ?_;refine Zg4 (fun (x9:Bool)=>(⟨(.any :: .any :: .iv x3 :: .ptr 0 0 :: .ptr 1 0::an 34 (.bv x9::an 109 [])),[some ⟨25,[.sl 5 (List.map Drinker.row x1.Drinkers),.sl 5 (List.map Mail.row x1.Mail)]⟩,some ⟨30,[.iv x2.A,.iv x2.B]⟩],[]⟩:St)) (Zpj x1 x2 x3) r ?_ fun J2=>?_
   ·intro x9 h;rw [Zpj] at h;(try dsimp only);refine Zi4 h rfl (fun _ h=>?_) fun _ h=>?_
    ·refine Zn2 4 ?_;dsimp only [go_sem];refine An ?_;exact Zq4 (res:=fun (r:Int)=>.iv r) ok19 h
    ·refine Zn2 2 ?_;dsimp only [go_sem];refine An ?_;refine Zg4 (fun ((x13,x14):(Bool×Side))=>(⟨(.any :: .any :: .iv x3 :: .ptr 0 0 :: .ptr 1 0 :: .any :: .any :: .ptr 2 0 :: .bv x13::an 140 []),[some ⟨25,[.sl 5 (List.map Drinker.row x1.Drinkers),.sl 5 (List.map Mail.row x1.Mail)]⟩,some ⟨30,[.iv x2.A,.iv x2.B]⟩,some ⟨66,[.iv x14.Peer,.iv x14.Epoch,.iv x14.State,.bv x14.Fork,.bv x14.Dirty,.bv x14.Token,.bv x14.Bottle,.bv x14.Ask]⟩],[]⟩:St)) (Zoj x1 x2 x3) r ?_ fun J3=>?_
     ·rintro ⟨x13,x14⟩ h;rw [Zoj] at h;(try dsimp only);refine Zn2 1 ?_;dsimp only [go_sem];refine An ?_
      refine Zg4 (fun ((x18,x19):(Bool×Side))=>(⟨(.any :: .any :: .iv x3 :: .ptr 0 0 :: .ptr 1 0 :: .any :: .any :: .ptr 2 0 :: .bv x13 :: .ptr 3 0 :: .bv x18::an 138 []),[some ⟨25,[.sl 5 (List.map Drinker.row x1.Drinkers),.sl 5 (List.map Mail.row x1.Mail)]⟩,some ⟨30,[.iv x2.A,.iv x2.B]⟩,some ⟨66,[.iv x14.Peer,.iv x14.Epoch,.iv x14.State,.bv x14.Fork,.bv x14.Dirty,.bv x14.Token,.bv x14.Bottle,.bv x14.Ask]⟩,some ⟨66,[.iv x19.Peer,.iv x19.Epoch,.iv x19.State,.bv x19.Fork,.bv x19.Dirty,.bv x19.Token,.bv x19.Bottle,.bv x19.Ask]⟩],[]⟩:St)) (Znj x1 x2 x3 x13 x14) r ?_ fun J4=>?_
      ·rintro ⟨x18,x19⟩ h;rw [Znj] at h;(try dsimp only);refine Zn2 6 ?_;dsimp only [go_sem];refine An ?_
       refine Zg4 (fun (x20:Bool)=>(⟨(.any :: .any :: .iv x3 :: .ptr 0 0 :: .ptr 1 0 :: .any :: .any :: .ptr 2 0 :: .any :: .ptr 3 0::an 68 (.bv x20::an 70 [])),[some ⟨25,[.sl 5 (List.map Drinker.row x1.Drinkers),.sl 5 (List.map Mail.row x1.Mail)]⟩,some ⟨30,[.iv x2.A,.iv x2.B]⟩,some ⟨66,[.iv x14.Peer,.iv x14.Epoch,.iv x14.State,.bv x14.Fork,.bv x14.Dirty,.bv x14.Token,.bv x14.Bottle,.bv x14.Ask]⟩,some ⟨66,[.iv x19.Peer,.iv x19.Epoch,.iv x19.State,.bv x19.Fork,.bv x19.Dirty,.bv x19.Token,.bv x19.Bottle,.bv x19.Ask]⟩],[]⟩:St)) (Zmj x1 x2 x3 x14 x19) r ?_ fun J5=>?_
       ·intro x20 h;rw [Zmj] at h;(try dsimp only);refine Zi4 h rfl (fun _ h=>?_) fun _ h=>?_
        ·refine Zn2 4 ?_;dsimp only [go_sem];refine An ?_;exact Zq4 (res:=fun (r:Int)=>.iv r) ok19 h
        ·refine Zn2 17 ?_;dsimp only [go_sem];refine An ?_;refine Zg4 (fun ((x21,x22):(Bool×Bool))=>(⟨(.any :: .any :: .iv x3 :: .ptr 0 0 :: .ptr 1 0 :: .any :: .any :: .ptr 2 0::an 3 (.ptr 4 0::an 137 [])),[some ⟨25,[.sl 5 (List.map Drinker.row x1.Drinkers),.sl 5 (List.map Mail.row x1.Mail)]⟩,some ⟨30,[.iv x2.A,.iv x2.B]⟩,some ⟨66,[.iv x14.Peer,.iv x14.Epoch,.iv x14.State,.bv x14.Fork,.bv x14.Dirty,.bv x14.Token,.bv x14.Bottle,.bv x14.Ask]⟩,none,some ⟨105,[.bv x21,.bv x22]⟩],[]⟩:St)) (Zlj x1 x2 x3 x14) r ?_ fun J6=>?_
         ·rintro ⟨x21,x22⟩ h;rw [Zlj] at h;(try dsimp only);refine Zn2 10 ?_;dsimp only [go_sem];refine An ?_;refine Zg4 (fun (x41:Int)=>(⟨(.any :: .any :: .iv x3 :: .ptr 0 0 :: .ptr 1 0 :: .any :: .any :: .ptr 2 0::an 4 (.iv x41::an 136 [])),[some ⟨25,[.sl 5 (List.map Drinker.row x1.Drinkers),.sl 5 (List.map Mail.row x1.Mail)]⟩,some ⟨30,[.iv x2.A,.iv x2.B]⟩,some ⟨66,[.iv x14.Peer,.iv x14.Epoch,.iv x14.State,.bv x14.Fork,.bv x14.Dirty,.bv x14.Token,.bv x14.Bottle,.bv x14.Ask]⟩],[]⟩:St)) (Zij x1 x2 x3 x14) r ?_ fun J7=>?_
          ·intro x41 h;rw [Zij] at h;(try dsimp only);refine Zn2 8 ?_;dsimp only [go_sem];refine An ?_;refine Zg4 (fun (x61:Int)=>(⟨(an 12 (.iv x61::an 136 [])),[],[]⟩:St)) Zej r ?_ fun J9=>?_
           ·intro x61 h;rw [Zej] at h;(try dsimp only);refine Zn2 5 ?_;dsimp only [go_sem];refine An ?_;exact Zq4 (res:=fun (r:Int)=>.iv r) ok19 h
           ·refine Zn2 1 ?_;dsimp only [go_sem];refine An ?_;refine Zh4 h (fun ((x47,x48):(Int×Int))=>(⟨(.any :: .any :: .iv x3 :: .any :: .ptr 1 0 :: .any :: .any :: .ptr 2 0::an 4 (.iv x47::an 87 (.sl 5 (List.map Mail.row x1.Mail) :: .iv (ln Mail.row x1.Mail) :: .iv x48::an 46 []))),[none,some ⟨30,[.iv x2.A,.iv x2.B]⟩,some ⟨66,[.iv x14.Peer,.iv x14.Epoch,.iv x14.State,.bv x14.Fork,.bv x14.Dirty,.bv x14.Token,.bv x14.Bottle,.bv x14.Ask]⟩],[]⟩:St)) (by simp [go_sem]) (by rintro ⟨x47,x48⟩;first | rfl | simp [go_sem]) ?_
            rintro n1 ⟨x47,x48⟩ y1 h hin1 hout1;rw [Zhj] at h;(try dsimp only);refine Zn2 5 ?_;dsimp only [go_sem];refine An ?_;refine Zi4 h rfl (fun _ h=>?_) fun _ h=>?_
            ·refine Zn2 5 ?_;dsimp only [go_sem];refine An ?_;obtain ⟨x49,ex49,h⟩:=Bs h;refine Zl4 Mail.row ex49 trivial rfl rfl rfl ?_;refine Zn2 12 ?_;dsimp only [go_sem];refine An ?_
             refine Zg4 (fun (x50:Bool)=>(⟨(.any :: .any :: .iv x3 :: .any :: .ptr 1 0 :: .any :: .any :: .ptr 2 0::an 4 (.iv x47::an 87 (.sl 5 (List.map Mail.row x1.Mail) :: .iv (ln Mail.row x1.Mail) :: .iv x48::an 41 (.bv x50::an 4 [])))),[none,some ⟨30,[.iv x2.A,.iv x2.B]⟩,some ⟨66,[.iv x14.Peer,.iv x14.Epoch,.iv x14.State,.bv x14.Fork,.bv x14.Dirty,.bv x14.Token,.bv x14.Bottle,.bv x14.Ask]⟩],[]⟩:St)) (Zgj x47 x48) y1 ?_ fun J10=>?_
             ·intro x50 h;rw [Zgj] at h;(try dsimp only);refine Zg4 (fun (x51:Int)=>(⟨(.any :: .any :: .iv x3 :: .any :: .ptr 1 0 :: .any :: .any :: .ptr 2 0::an 4 (.iv x51::an 87 (.sl 5 (List.map Mail.row x1.Mail) :: .iv (ln Mail.row x1.Mail) :: .iv x48::an 46 []))),[none,some ⟨30,[.iv x2.A,.iv x2.B]⟩,some ⟨66,[.iv x14.Peer,.iv x14.Epoch,.iv x14.State,.bv x14.Fork,.bv x14.Dirty,.bv x14.Token,.bv x14.Bottle,.bv x14.Ask]⟩],[]⟩:St)) (Zfj x48) y1 ?_ fun J11=>?_
              ·intro x51 h;rw [Zfj] at h;(try dsimp only);refine Zn2 5 ?_;dsimp only [go_sem];refine An ?_;exact Zr4 h hin1
              ·refine Zi4 h rfl (fun _ h=>?_) fun _ h=>?_
               ·refine Zn2 5 ?_;dsimp only [go_sem];refine An ?_;exact Zs4 J11 (s:=wr (x47+1)) h
               ·refine Zn2 1 ?_;dsimp only [go_sem];refine An ?_;exact Zs4 J11 (s:=x47) h
             ·refine Zp4 111 h rfl (fun _ h=>?_) fun _ h=>?_
              ·dsimp only [go_sem];refine Zn2 8 ?_;dsimp only [go_sem];refine An ?_;refine Zp4 119 h rfl (fun _ h=>?_) fun _ h=>?_
               ·dsimp only [go_sem];refine Zn2 13 ?_;dsimp only [go_sem];refine An ?_;refine Zp4 132 h rfl (fun _ h=>?_) fun _ h=>?_
                ·dsimp only [go_sem];refine Zn2 13 ?_;dsimp only [go_sem];refine An ?_;exact Zs4 J10 (s:=decide (((max x49.From x49.To))=((max x2.A x2.B)))) h
                ·dsimp only [go_sem];refine Zn2 13 ?_;dsimp only [go_sem];refine An ?_;exact Zs4 J10 (s:=false) h
               ·dsimp only [go_sem];refine Zn2 26 ?_;dsimp only [go_sem];refine An ?_;exact Zs4 J10 (s:=false) h
              ·dsimp only [go_sem];refine Zn2 34 ?_;dsimp only [go_sem];refine An ?_;exact Zs4 J10 (s:=false) h
            ·refine Zn2 1 ?_;dsimp only [go_sem];refine An ?_;exact Zs4 J9 (s:=x47) (Zf4 h hout1)
          ·refine Zn2 1 ?_;dsimp only [go_sem];refine An ?_
           refine Zh4 h (fun ((x27,x28):(Int×Int))=>(⟨(.any :: .any :: .iv x3 :: .ptr 0 0 :: .ptr 1 0 :: .any :: .any :: .ptr 2 0::an 4 (.iv x27::an 78 (.agg [.bv x21,.bv x22] :: .iv x28::an 56 []))),[some ⟨25,[.sl 5 (List.map Drinker.row x1.Drinkers),.sl 5 (List.map Mail.row x1.Mail)]⟩,some ⟨30,[.iv x2.A,.iv x2.B]⟩,some ⟨66,[.iv x14.Peer,.iv x14.Epoch,.iv x14.State,.bv x14.Fork,.bv x14.Dirty,.bv x14.Token,.bv x14.Bottle,.bv x14.Ask]⟩],[]⟩:St)) (by simp [go_sem]) (by rintro ⟨x27,x28⟩;first | rfl | simp [go_sem]) ?_
           rintro n1 ⟨x27,x28⟩ y1 h hin1 hout1;rw [Zkj] at h;(try dsimp only);refine Zn2 5 ?_;dsimp only [go_sem];refine An ?_;refine Zi4 h rfl (fun _ h=>?_) fun _ h=>?_
           ·refine Zn2 5 ?_;dsimp only [go_sem];refine An ?_;obtain ⟨x29,ex29,h⟩:=Bs h;refine V_aiM AV.bv ex29 trivial (by rfl) rfl rfl ?_;refine Zn2 6 ?_;dsimp only [go_sem];refine An ?_
            refine Zg4 (fun (x30:Int)=>(⟨(.any :: .any :: .iv x3 :: .ptr 0 0 :: .ptr 1 0 :: .any :: .any :: .ptr 2 0::an 4 (.iv x30::an 78 (.agg [.bv x21,.bv x22] :: .iv x28::an 56 []))),[some ⟨25,[.sl 5 (List.map Drinker.row x1.Drinkers),.sl 5 (List.map Mail.row x1.Mail)]⟩,some ⟨30,[.iv x2.A,.iv x2.B]⟩,some ⟨66,[.iv x14.Peer,.iv x14.Epoch,.iv x14.State,.bv x14.Fork,.bv x14.Dirty,.bv x14.Token,.bv x14.Bottle,.bv x14.Ask]⟩],[]⟩:St)) (Zjj x28) y1 ?_ fun J8=>?_
            ·intro x30 h;rw [Zjj] at h;(try dsimp only);refine Zn2 5 ?_;dsimp only [go_sem];refine An ?_;exact Zr4 h hin1
            ·refine Zi4 h rfl (fun _ h=>?_) fun _ h=>?_
             ·refine Zn2 5 ?_;dsimp only [go_sem];refine An ?_;exact Zs4 J8 (s:=wr (x27+1)) h
             ·refine Zn2 1 ?_;dsimp only [go_sem];refine An ?_;exact Zs4 J8 (s:=x27) h
           ·refine Zn2 1 ?_;dsimp only [go_sem];refine An ?_;exact Zs4 J7 (s:=x27) (Zf4 h hout1)
         ·refine Zi4 h rfl (fun _ h=>?_) fun _ h=>?_
          ·refine Zn2 8 ?_;dsimp only [go_sem];refine An ?_;exact Zs4 J6 (s:=(x14.Ask,x19.Ask)) h
          ·refine Zn2 1 ?_;dsimp only [go_sem];refine An ?_;exact Zs4 J6 (s:=(x14.Bottle,x19.Bottle)) h
       ·refine Zp4 68 h rfl (fun _ h=>?_) fun _ h=>?_
        ·dsimp only [go_sem];refine Zn2 11 ?_;dsimp only [go_sem];refine An ?_;exact Zs4 J5 (s:=true) h
        ·dsimp only [go_sem];refine Zn2 4 ?_;dsimp only [go_sem];refine An ?_;refine Zp4 72 h rfl (fun _ h=>?_) fun _ h=>?_
         ·dsimp only [go_sem];refine Zn2 7 ?_;dsimp only [go_sem];refine An ?_;exact Zs4 J5 (s:=true) h
         ·dsimp only [go_sem];refine Zn2 7 ?_;dsimp only [go_sem];refine An ?_;exact Zs4 J5 (s:=!decide (x14.Epoch=x19.Epoch)) h
      ·refine Zi3 (by kernel_rfl) fun all hall hs hnap haf=>?_;dsimp only [go_sem];refine Z75 hall hs haf hnap 6 10 [4,3,2,7] [(54,[.ptr 0 0,.sl 5 (List.map Drinker.row x1.Drinkers),.ptr 1 1,.iv x2.B]),(3,[.ptr 1 0,.iv x2.A])] (by kernel_rfl) ?_;dsimp only [go_sem];obtain ⟨x15,ex15,h⟩:=Bs h;refine Zm4 hall hs haf hnap 4 Drinker.row ex15 rfl rfl trivial rfl rfl rfl rfl ?_;refine Z65 hall hs haf hnap 2 7 ?_;dsimp only [go_sem];refine An ?_;obtain ⟨x16,ex16,h⟩:=Bs h;refine Zu3 9 13 rfl ?_ ?_
       ·refine Zz3 hall rfl trivial (Zj7 x15.Diner x2.A _ ex16) (h:=?_);dsimp only [go_sem];refine Z65 hall hs haf hnap 3 3 ?_;dsimp only [go_sem];refine An ?_;refine Zt3 13 rfl ?_;refine Zy3 hall rfl trivial ?_;dsimp only [go_sem];refine Zt3 14 rfl ?_;refine Zy3 hall rfl trivial ?_;dsimp only [go_sem];refine Z65 hall hs haf hnap 1 0 ?_;dsimp only [go_sem];refine An ?_;refine Zs3 rfl ?_ _;exact Zs4 J4 (s:=(x16.2,x16.1)) h
       ·refine Zy3 hall rfl trivial ?_;dsimp only [go_sem];refine Zt3 9 rfl ?_;refine Zz3 hall rfl trivial (Zj7 x15.Diner x2.A _ ex16) (h:=?_);dsimp only [go_sem];refine Z65 hall hs haf hnap 3 2 ?_;dsimp only [go_sem];refine An ?_;refine Zt3 14 rfl ?_;refine Zy3 hall rfl trivial ?_;dsimp only [go_sem];refine Z65 hall hs haf hnap 1 0 ?_;dsimp only [go_sem];refine An ?_;refine Zs3 rfl ?_ _;exact Zs4 J4 (s:=(x16.2,x16.1)) h
     ·refine Zi3 (by kernel_rfl) fun all hall hs hnap haf=>?_;dsimp only [go_sem];refine Z75 hall hs haf hnap 6 10 [4,3,2,7] [(41,[.ptr 0 0,.sl 5 (List.map Drinker.row x1.Drinkers),.ptr 1 0,.iv x2.A]),(3,[.ptr 1 1,.iv x2.B])] (by kernel_rfl) ?_;dsimp only [go_sem];obtain ⟨x10,ex10,h⟩:=Bs h;refine Zm4 hall hs haf hnap 4 Drinker.row ex10 rfl rfl trivial rfl rfl rfl rfl ?_;refine Z65 hall hs haf hnap 2 7 ?_;dsimp only [go_sem];refine An ?_;obtain ⟨x11,ex11,h⟩:=Bs h;refine Zu3 9 13 rfl ?_ ?_
      ·refine Zz3 hall rfl trivial (Zj7 x10.Diner x2.B _ ex11) (h:=?_);dsimp only [go_sem];refine Z65 hall hs haf hnap 3 3 ?_;dsimp only [go_sem];refine An ?_;refine Zt3 13 rfl ?_;refine Zy3 hall rfl trivial ?_;dsimp only [go_sem];refine Zt3 14 rfl ?_;refine Zy3 hall rfl trivial ?_;dsimp only [go_sem];refine Z65 hall hs haf hnap 1 0 ?_;dsimp only [go_sem];refine An ?_;refine Zs3 rfl ?_ _;exact Zs4 J3 (s:=(x11.2,x11.1)) h
      ·refine Zy3 hall rfl trivial ?_;dsimp only [go_sem];refine Zt3 9 rfl ?_;refine Zz3 hall rfl trivial (Zj7 x10.Diner x2.B _ ex11) (h:=?_);dsimp only [go_sem];refine Z65 hall hs haf hnap 3 2 ?_;dsimp only [go_sem];refine An ?_;refine Zt3 14 rfl ?_;refine Zy3 hall rfl trivial ?_;dsimp only [go_sem];refine Z65 hall hs haf hnap 1 0 ?_;dsimp only [go_sem];refine An ?_;refine Zs3 rfl ?_ _;exact Zs4 J3 (s:=(x11.2,x11.1)) h
   ·refine Zp4 33 h rfl (fun _ h=>?_) fun _ h=>?_
    ·dsimp only [go_sem];refine Zn2 7 ?_;dsimp only [go_sem];refine An ?_;exact Zs4 J2 (s:=true) h
    ·dsimp only [go_sem];refine Zn2 3 ?_;dsimp only [go_sem];refine An ?_;obtain ⟨x8,ex8,h⟩:=Bs h;refine Z13 trivial (Zfi x1 x2.B _ ex8) (h:=?_);refine Zn2 3 ?_;dsimp only [go_sem];refine An ?_;exact Zs4 J2 (s:=!x8) h
 ·refine Zp4 19 h rfl (fun _ h=>?_) fun _ h=>?_
  ·dsimp only [go_sem];refine Zn2 4 ?_;dsimp only [go_sem];refine An ?_;exact Zs4 J1 (s:=!decide (x3=4)) h
  ·dsimp only [go_sem];refine Zn2 4 ?_;dsimp only [go_sem];refine An ?_;exact Zs4 J1 (s:=false) h
set_option maxRecDepth 100000
set_option maxHeartbeats 4000000
@[go_sem] def e40_L0:EC:=.seq (.reg [(Qa 22 (.bin .lss (.t 21) (.t 20)))]) (.seq (.ite (.t 22) (.skip) (.exit 0)) (.seq (.blk 1 (.seq (.reg [(Qk 23 3 19 21),(Qe 24 3 23),(Qa 8 (.alloc 61 [.iv 0,.iv 0,.nl])),(Qs 3 8 24)]) (.reg [(Qf 25 0 6),(Ql 26 25),(Qe 27 3 8),(Qa 28 (.build [.iv 0,.iv 0,.nl,.iv 0,.nl] [(0,3,(.t 27))])),(Qa 29 (.bsl 63 5 1 [.iv 0,.iv 0,.nl,.iv 0,.nl] [(0,(.t 28))])),(Qa 30 (.app 63 5 72 (.t 26) (.t 29))),(Qf 31 0 6),(Qs 1 31 30)]))) (.reg [(Qv 32 21 1),(Qm 21 32)])))
@[go_sem] def e40:EC:=.seq (.reg [(Qx 1 53 2 0),(Qa 2 (.alloc 25 [.nl,.nl])),(Qi 3 0)]) (.seq (.reg [(Qe 10 2 1),(Qa 11 (.call 78 [(.t 10)])),(Qm 9 11),(Qa 12 (.ext (.t 9) 0)),(Qa 13 (.ext (.t 9) 1)),(Qa 4 (.alloc 48 [.nl,.nl])),(Qs 2 4 12),(Qm 5 13)]) (.seq (.seq (.reg [(Qm 14 5),(Qa 15 (.bin .neq (.t 14) (.c (.iv 0))))]) (.ite (.t 15) (.seq (.reg [(Qa 16 (.build [.nl,.nl] [])),(Qm 17 5),(Qs 2 2 16),(Qm 3 17)]) (.ret)) (.skip))) (.seq (.reg [(Qa 6 (.alloc 25 [.nl,.nl]))]) (.seq (.seq (.reg [(Qf 18 0 4),(Ql 19 18),(Qa 20 (.len (.t 19))),(Qi 21 0)]) (.blk 0 (.loop e40_L0))) (.seq (.reg [(Qe 33 2 6),(Qs 2 2 33),(Qi 3 0)]) (.ret))))))
theorem ok40:FnOK Tryz.prog 40 Tryz.f40 e40 [.c 2 (some 2),.t 3] 1 33:=⟨by kernel_rfl,⟨_,rfl,by kernel_rfl⟩,by kernel_rfl,by kernel_rfl⟩
noncomputable def Zsj:(List Drinker)→Option (Bar×Int)
| x17=>
 some ((Bar.mk x17 (([]:(List Mail)))),0)
noncomputable def Ztj (x2:(Scene×Int)):(Int×(List Drinker))→Option ((Int×(List Drinker)) ⊕ (Bar×Int))
| (x7,x8)=>
 ifb (decide (x7<(ln Diner.row x2.1.Diners))) (
 (at_ x2.1.Diners x7).bind fun x9=>
 (Zb4 72 x8 ([(Drinker.mk x9 0 (([]:List Int)))])).bind fun x10=>
 some (.inl (wr (x7+1),x10))) (
 Option.map Sum.inr (Zsj x8))
noncomputable def Zuj (x1:Graph):Option (Bar×Int):=
 (Zog x1).bind fun x2=>
 ifb (!decide (x2.2=0)) (
 some ((Bar.mk (([]:(List Drinker))) (([]:(List Mail)))),x2.2)) (
 loop (Ztj x2) (0,([]:List Drinker)))
theorem k_bar_New (x1:Graph) (r:(Bar×Int)) (h:Zuj x1=some r):Zs2 Tryz.prog 40 [.agg (Graph.row x1)] (.tup [.agg (Bar.row r.1),.iv r.2]):=by
 refine Zw2 ok40 rfl rfl fun w0 H0=>?_
 rw [Zuj] at h
 refine Zn2 9 ?_;dsimp only [go_sem];refine An ?_;obtain ⟨x2,ex2,h⟩:=Bs h;refine Z13 trivial (k_table_New x1 _ ex2) (h:=?_);refine Zn2 13 ?_;dsimp only [go_sem];refine An ?_;refine Zi4 h rfl (fun _ h=>?_) fun _ h=>?_
 ·refine Zn2 7 ?_;dsimp only [go_sem];refine An ?_;exact Zq4 (res:=fun (r:(Bar×Int))=>.tup [.agg (Bar.row r.1),.iv r.2]) ok40 h
 ·refine Zn2 13 ?_;dsimp only [go_sem];refine An ?_;refine Zg4 (fun (x17:(List Drinker))=>(⟨(.any :: .any :: .ptr 1 0::an 3 (.ptr 3 0::an 27 [])),[none,some ⟨25,[.nl,.nl]⟩,none,some ⟨25,[.osl 0,.nl]⟩],[some ⟨63,5,List.map Drinker.row x17⟩]⟩:St)) Zsj r ?_ fun J1=>?_
  ·intro x17 h;rw [Zsj] at h;(try dsimp only);refine Zn2 6 ?_;dsimp only [go_sem];refine An ?_;refine Za3 0 rfl ?_;dsimp only [go_sem];exact Zq4 (res:=fun (r:(Bar×Int))=>.tup [.agg (Bar.row r.1),.iv r.2]) ok40 h
  ·refine Zn2 1 ?_;dsimp only [go_sem];refine An ?_;refine Z54 3 0 63 5 rfl rfl rfl ?_;dsimp only [go_sem];refine Zh4 h (fun ((x7,x8):(Int×(List Drinker)))=>(⟨(.any :: .any :: .ptr 1 0::an 3 (.ptr 3 0::an 12 (.sl 3 (List.map Diner.row x2.1.Diners) :: .iv (ln Diner.row x2.1.Diners) :: .iv x7::an 12 []))),[none,some ⟨25,[.nl,.nl]⟩,none,some ⟨25,[.osl 0,.nl]⟩],[some ⟨63,5,List.map Drinker.row x8⟩]⟩:St)) (by simp [go_sem]) (by rintro ⟨x7,x8⟩;first | rfl | simp [go_sem]) ?_;rintro n1 ⟨x7,x8⟩ y1 h hin1 hout1;rw [Ztj] at h;(try dsimp only)
   refine Zn2 5 ?_;dsimp only [go_sem];refine An ?_;refine Zi4 h rfl (fun _ h=>?_) fun _ h=>?_
   ·refine Zn2 5 ?_;dsimp only [go_sem];refine An ?_;obtain ⟨x9,ex9,h⟩:=Bs h;refine Zl4 Diner.row ex9 trivial rfl rfl rfl ?_;refine Zn2 9 ?_;dsimp only [go_sem];refine An ?_;refine V_put1 28 (.agg [.iv x9.ID,.iv x9.Phase,.sl 8 (List.map Side.row x9.Sides),.iv 0,.sl 1 (List.map Zw4 (([]:List Int)))]) (by simp [go_sem]) ?_;dsimp only [go_sem];refine Zn2 1 ?_;dsimp only [go_sem];refine An ?_;obtain ⟨x10,ex10,h⟩:=Bs h;refine Zn4 Drinker.row ex10 trivial rfl rfl rfl ?_;refine Zn2 8 ?_;dsimp only [go_sem];refine An ?_;refine Z44 2 0 rfl rfl rfl ?_
    dsimp only [go_sem];exact Zr4 h hin1
   ·refine Zn2 1 ?_;dsimp only [go_sem];refine An ?_;exact Zs4 J1 (s:=x8) (Zf4 h hout1)
set_option maxRecDepth 100000
set_option maxHeartbeats 4000000
@[go_sem] def e67_L0:EC:=.seq (.reg [(Qa 18 (.bin .lss (.t 17) (.t 16)))]) (.seq (.ite (.t 18) (.skip) (.exit 0)) (.seq (.blk 1 (.seq (.reg [(Qm 19 17),(Qk 20 5 15 17),(Qe 21 5 20),(Qa 8 (.alloc 63 [.iv 0,.iv 0,.nl,.iv 0,.nl])),(Qm 7 19),(Qs 5 8 21)]) (.seq (.reg [(Qm 22 1),(Qm 23 7),(Qk 24 5 22 23),(Qe 25 5 24),(Qa 9 (.alloc 63 [.iv 0,.iv 0,.nl,.iv 0,.nl])),(Qs 5 9 25)]) (.seq (.reg [(Qm 26 2),(Qe 27 5 8),(Qe 28 5 9),(Qa 29 (.callv (.t 26) [(.t 27),(.t 28)])),(Qa 30 (.not (.t 29)))]) (.ite (.t 30) (.seq (.reg [(Qa 6 (.mv (.c .ff)))]) (.ret)) (.skip)))))) (.reg [(Qv 31 17 1),(Qm 17 31)])))
@[go_sem] def e67:EC:=.seq (.reg [(Qa 6 (.mv (.c .ff)))]) (.seq (.seq (.reg [(Qm 10 0),(Qa 11 (.len (.t 10))),(Qm 12 1),(Qa 13 (.len (.t 12))),(Qa 14 (.bin .neq (.t 11) (.t 13)))]) (.ite (.t 14) (.seq (.reg [(Qa 6 (.mv (.c .ff)))]) (.ret)) (.skip))) (.seq (.seq (.reg [(Qm 15 0),(Qa 16 (.len (.t 15))),(Qi 17 0)]) (.blk 0 (.loop e67_L0))) (.seq (.reg [(Qa 6 (.mv (.c .tt)))]) (.ret))))
theorem ok67:FnOK Tryz.prog 67 Tryz.f67 e67 [.t 6] 3 29:=⟨by kernel_rfl,⟨_,rfl,by kernel_rfl⟩,by kernel_rfl,by kernel_rfl⟩
noncomputable def Zvj:Unit→Option Bool
| ()=>
 some true
noncomputable def Zwj (x1:(List Drinker)) (x2:(List Drinker)) (p2:((Drinker×Drinker)→Option Bool)):Int→Option (Int ⊕ Bool)
| x7=>
 ifb (decide (x7<(ln Drinker.row x1))) (
 (at_ x1 x7).bind fun x8=>
 (at_ x2 x7).bind fun x9=>
 (p2 (x8,x9)).bind fun x10=>
 ifb (!x10) (
 Option.map Sum.inr (some false)) (
 some (.inl (wr (x7+1))))) (
 Option.map Sum.inr (Zvj ()))
noncomputable def Zxj (x1:(List Drinker)) (x2:(List Drinker)) (p2:((Drinker×Drinker)→Option Bool)):Option Bool:=
 ifb (!decide ((ln Drinker.row x1)=(ln Drinker.row x2))) (
 some false) (
 loop (Zwj x1 x2 p2) 0)
theorem Zyj (x1:(List Drinker)) (x2:(List Drinker)) (g2:Nat) (caps2:List AV) (p2:((Drinker×Drinker)→Option Bool)) (hc2:CloOK Tryz.prog g2 caps2 (fun z=>[.agg (Drinker.row z.1),.agg (Drinker.row z.2)]) p2 (fun z=>.bv z)) (r:Bool) (h:Zxj x1 x2 p2=some r):Zs2 Tryz.prog 67 [.sl 5 (List.map Drinker.row x1),.sl 5 (List.map Drinker.row x2),.clo g2 caps2] (.bv r):=by
 refine Zw2 ok67 rfl rfl fun w0 H0=>?_
 rw [Zxj] at h
 refine Zn2 13 ?_;dsimp only [go_sem];refine An ?_;refine Zi4 h rfl (fun _ h=>?_) fun _ h=>?_
 ·refine Zn2 4 ?_;dsimp only [go_sem];refine An ?_;exact Zq4 (res:=fun (r:Bool)=>.bv r) ok67 h
 ·refine Zn2 8 ?_;dsimp only [go_sem];refine An ?_;refine Zg4 (fun (_:Unit)=>(⟨(an 32 []),[],[]⟩:St)) Zvj r ?_ fun J1=>?_
  ·rintro ⟨⟩ h;rw [Zvj] at h;(try dsimp only);refine Zn2 4 ?_;dsimp only [go_sem];refine An ?_;exact Zq4 (res:=fun (r:Bool)=>.bv r) ok67 h
  ·refine Zn2 1 ?_;dsimp only [go_sem];refine An ?_;refine Zh4 h (fun (x7:Int)=>(⟨(.any :: .sl 5 (List.map Drinker.row x2) :: .clo g2 caps2::an 12 (.sl 5 (List.map Drinker.row x1) :: .iv (ln Drinker.row x1) :: .iv x7::an 14 [])),[],[]⟩:St)) (by simp [go_sem]) (by intro x7;first | rfl | simp [go_sem,Z94 _ hc2.pu]) ?_;rintro n1 x7 y1 h hin1 hout1;rw [Zwj] at h;(try dsimp only);refine Zn2 5 ?_;dsimp only [go_sem];refine An ?_;refine Zi4 h rfl (fun _ h=>?_) fun _ h=>?_
   ·refine Zn2 6 ?_;dsimp only [go_sem];refine An ?_;obtain ⟨x8,ex8,h⟩:=Bs h;refine Zl4 Drinker.row ex8 trivial rfl rfl rfl ?_;refine Zn2 9 ?_;dsimp only [go_sem];refine An ?_;obtain ⟨x9,ex9,h⟩:=Bs h;refine Zl4 Drinker.row ex9 trivial rfl rfl rfl ?_;refine Zn2 9 ?_;dsimp only [go_sem];refine An ?_;obtain ⟨x10,ex10,h⟩:=Bs h;refine Zv4 trivial rfl hc2 (x:=(x8,x9)) ex10 (by first | exact Za4 _ | simp [go_sem]) (by first | rfl | simp [go_sem,hc2.pu]) ?_;refine Zn2 2 ?_;dsimp only [go_sem];refine An ?_
    refine Zi4 h rfl (fun _ h=>?_) fun _ h=>?_
    ·refine Zn2 4 ?_;dsimp only [go_sem];refine An ?_;exact Zq4 (res:=fun (r:Bool)=>.bv r) ok67 (Zf4 h hout1)
    ·refine Zn2 6 ?_;dsimp only [go_sem];refine An ?_;exact Zr4 h hin1 (hok:=by first | rfl | simp [go_sem,Z94 _ hc2.pu])
   ·refine Zn2 1 ?_;dsimp only [go_sem];refine An ?_;exact Zs4 J1 (s:=()) (Zf4 h hout1) (hok:=by first | rfl | simp [go_sem,Z94 _ hc2.pu])
set_option maxRecDepth 100000
set_option maxHeartbeats 4000000
@[go_sem] def e69_L0:EC:=.seq (.reg [(Qa 14 (.bin .lss (.t 13) (.t 12)))]) (.seq (.ite (.t 14) (.skip) (.exit 0)) (.seq (.blk 1 (.seq (.reg [(Qm 15 13),(Qm 5 15)]) (.seq (.drw [(Qm 16 0),(Qm 17 5),(Qk 18 5 16 17),(Qe 19 5 18),(Qm 20 1),(Qm 21 5),(Qk 22 5 20 21),(Qe 23 5 22),(Qa 24 (.eqs true [true,true,true,true,true] (.t 19) (.t 23)))] [[],[],[0,1],[2],[],[],[4,5],[6],[3,7]] [[2],[2],[0,1,3],[2,8],[6],[6],[4,5,7],[6,8],[3,7]]) (.ite (.t 24) (.seq (.reg [(Qa 4 (.mv (.c .ff)))]) (.ret)) (.skip))))) (.reg [(Qv 25 13 1),(Qm 13 25)])))
@[go_sem] def e69:EC:=.seq (.reg [(Qa 4 (.mv (.c .ff)))]) (.seq (.seq (.reg [(Qm 6 0),(Qa 7 (.len (.t 6))),(Qm 8 1),(Qa 9 (.len (.t 8))),(Qa 10 (.bin .neq (.t 7) (.t 9)))]) (.ite (.t 10) (.seq (.reg [(Qa 4 (.mv (.c .ff)))]) (.ret)) (.skip))) (.seq (.seq (.reg [(Qm 11 0),(Qa 12 (.len (.t 11))),(Qi 13 0)]) (.blk 0 (.loop e69_L0))) (.seq (.reg [(Qa 4 (.mv (.c .tt)))]) (.ret))))
theorem ok69:FnOK Tryz.prog 69 Tryz.f69 e69 [.t 4] 2 24:=⟨by kernel_rfl,⟨_,rfl,by kernel_rfl⟩,by kernel_rfl,by kernel_rfl⟩
noncomputable def Zzj:Unit→Option Bool
| ()=>
 some true
noncomputable def Z0k (x1:(List Mail)) (x2:(List Mail)):Int→Option (Int ⊕ Bool)
| x6=>
 ifb (decide (x6<(ln Mail.row x1))) (
 (at_ x1 x6).bind fun x7=>
 (at_ x2 x6).bind fun x8=>
 ifb (!(decide (x7.From=x8.From)&&(decide (x7.To=x8.To)&&(decide (x7.Msg.Kind=x8.Msg.Kind)&&(decide (x7.Msg.Epoch=x8.Msg.Epoch)&&(decide (x7.Msg.Num=x8.Msg.Num)&&true)))))) (
 Option.map Sum.inr (some false)) (
 some (.inl (wr (x6+1))))) (
 Option.map Sum.inr (Zzj ()))
noncomputable def Z1k (x1:(List Mail)) (x2:(List Mail)):Option Bool:=
 ifb (!decide ((ln Mail.row x1)=(ln Mail.row x2))) (
 some false) (
 loop (Z0k x1 x2) 0)
theorem Z2k (x1:(List Mail)) (x2:(List Mail)) (r:Bool) (h:Z1k x1 x2=some r):Zs2 Tryz.prog 69 [.sl 5 (List.map Mail.row x1),.sl 5 (List.map Mail.row x2)] (.bv r):=by
 refine Zw2 ok69 rfl rfl fun w0 H0=>?_
 rw [Z1k] at h
 refine Zn2 13 ?_;dsimp only [go_sem];refine An ?_;refine Zi4 h rfl (fun _ h=>?_) fun _ h=>?_
 ·refine Zn2 4 ?_;dsimp only [go_sem];refine An ?_;exact Zq4 (res:=fun (r:Bool)=>.bv r) ok69 h
 ·refine Zn2 8 ?_;dsimp only [go_sem];refine An ?_;refine Zg4 (fun (_:Unit)=>(⟨(an 26 []),[],[]⟩:St)) Zzj r ?_ fun J1=>?_
  ·rintro ⟨⟩ h;rw [Zzj] at h;(try dsimp only);refine Zn2 4 ?_;dsimp only [go_sem];refine An ?_;exact Zq4 (res:=fun (r:Bool)=>.bv r) ok69 h
  ·refine Zn2 1 ?_;dsimp only [go_sem];refine An ?_;refine Zh4 h (fun (x6:Int)=>(⟨(.sl 5 (List.map Mail.row x1) :: .sl 5 (List.map Mail.row x2)::an 10 (.iv (ln Mail.row x1) :: .iv x6::an 12 [])),[],[]⟩:St)) (by simp [go_sem]) (by intro x6;first | rfl | simp [go_sem]) ?_;rintro n1 x6 y1 h hin1 hout1;rw [Z0k] at h;(try dsimp only);refine Zn2 5 ?_;dsimp only [go_sem];refine An ?_;refine Zi4 h rfl (fun _ h=>?_) fun _ h=>?_
   ·refine Zn2 9 ?_;dsimp only [go_sem];refine An ?_;refine Zi3 (by kernel_rfl) fun all hall hs hnap haf=>?_;dsimp only [go_sem];refine Z65 hall hs haf hnap 4 5 ?_;dsimp only [go_sem];refine An ?_;obtain ⟨x7,ex7,h⟩:=Bs h;refine Zm4 hall hs haf hnap 2 Mail.row ex7 rfl rfl trivial rfl rfl rfl rfl ?_;refine Z65 hall hs haf hnap 1 3 ?_;dsimp only [go_sem];refine An ?_;obtain ⟨x8,ex8,h⟩:=Bs h;refine Zm4 hall hs haf hnap 6 Mail.row ex8 rfl rfl trivial rfl rfl rfl rfl ?_;refine Z65 hall hs haf hnap 2 0 ?_;dsimp only [go_sem];refine An ?_
    refine Zs3 rfl ?_ _;refine Zi4 h rfl (fun _ h=>?_) fun _ h=>?_
    ·refine Zn2 4 ?_;dsimp only [go_sem];refine An ?_;exact Zq4 (res:=fun (r:Bool)=>.bv r) ok69 (Zf4 h hout1)
    ·refine Zn2 6 ?_;dsimp only [go_sem];refine An ?_;exact Zr4 h hin1
   ·refine Zn2 1 ?_;dsimp only [go_sem];refine An ?_;exact Zs4 J1 (s:=()) (Zf4 h hout1)
set_option maxRecDepth 100000
set_option maxHeartbeats 4000000
@[go_sem] def e24:EC:=.seq (.reg [(Qx 2 25 2 0),(Qx 3 25 2 1),(Qa 4 (.mv (.c .ff)))]) (.seq (.reg [(Qf 5 0 2),(Ql 6 5),(Qf 7 0 3),(Ql 8 7),(Qa 9 (.call 67 [(.t 6),(.t 8),(.c (.clo 68 []))])),(Qm 10 9),(Qh 11 10 true 1 2),(Qn 12 10 true 11),(Qh 13 10 true 1 3),(Qn 14 10 true 13),(Qg 15 10 true (.call 69 [(.t 12),(.t 14)])),(Qp 16 10 15),(Qm 4 16)]) (.ret))
theorem ok24:FnOK Tryz.prog 24 Tryz.f24 e24 [.t 4] 2 15:=⟨by kernel_rfl,⟨_,rfl,by kernel_rfl⟩,by kernel_rfl,by kernel_rfl⟩
noncomputable def Z3k:Bool→Option Bool
| x5=>
 some x5
noncomputable def Z4k (x1:Bar) (x2:Bar):Option Bool:=
 (Zxj x1.Drinkers x2.Drinkers ((fun z=>Zga z.1 z.2))).bind fun x3=>
 ifb x3 (
 (Z1k x1.Mail x2.Mail).bind fun x4=>
 Z3k x4) (
 Z3k false)
theorem Z5k (x1:Bar) (x2:Bar) (r:Bool) (h:Z4k x1 x2=some r):Zs2 Tryz.prog 24 [.agg (Bar.row x1),.agg (Bar.row x2)] (.bv r):=by
 refine Zw2 ok24 rfl rfl fun w0 H0=>?_
 rw [Z4k] at h
 refine Zn2 12 ?_;dsimp only [go_sem];refine An ?_;obtain ⟨x3,ex3,h⟩:=Bs h;refine Z13 trivial (Zyj x1.Drinkers x2.Drinkers _ _ ((fun z=>Zga z.1 z.2)) ⟨by kernel_rfl,rfl,fun z r hz=>Zha z.1 z.2 r hz⟩ _ ex3) (h:=?_);refine Zn2 1 ?_;dsimp only [go_sem];refine An ?_;refine Zg4 (fun (x5:Bool)=>(⟨(an 4 (.bv x5::an 12 [])),[],[]⟩:St)) Z3k r ?_ fun J1=>?_
 ·intro x5 h;rw [Z3k] at h;(try dsimp only);exact Zq4 (res:=fun (r:Bool)=>.bv r) ok24 h
 ·refine Zp4 10 h rfl (fun _ h=>?_) fun _ h=>?_
  ·dsimp only [go_sem];refine Zn2 4 ?_;dsimp only [go_sem];refine An ?_;obtain ⟨x4,ex4,h⟩:=Bs h;refine Z13 trivial (Z2k x1.Mail x2.Mail _ ex4) (h:=?_);refine Zn2 3 ?_;dsimp only [go_sem];refine An ?_;exact Zs4 J1 (s:=x4) h
  ·dsimp only [go_sem];refine Zn2 8 ?_;dsimp only [go_sem];refine An ?_;exact Zs4 J1 (s:=false) h
theorem Z6k (l:List Drinker) (p:Drinker→Option Bool) (q:Drinker→Bool) (hl:l.length≤4000000000000000000) (hp:∀x∈l,p x=some (q x)):Z6i l p=some (plc (l.findIdx? q)):=by
 unfold Z6i
 refine Z86 l _ q hl (fun k x hx=>?_) ?_
 ·simp only [Z5i,Z16 hx,Zv5,Zz5 hx,Option.bind_some,hp x (List.mem_iff_getElem?.2 ⟨k,hx⟩),Z46 hx hl]
  cases q x<;>rfl
 ·simp only [Z5i,Z26,Zw5,Z4i,Option.map_some]
theorem Z7k (l:List Drinker) (p:Drinker→Option Bool) (q:Drinker→Bool) (hl:l.length≤4000000000000000000) (hp:∀x∈l,p x=some (q x)):Z8i l p=some (l.any q):=by
 unfold Z8i
 rw [Z6k l p q hl hp,Option.bind_some,Z66,Z96]
def fewL (l:List Drinker):Prop:=l.length≤5000∧∀d∈l,d.Diner.Sides.length≤5000∧d.Need.length≤5000
def scB (s:Bar):Scene:=⟨s.Drinkers.map (·.Diner),s.Mail⟩
def bar0:Bar:=⟨[],[]⟩
theorem fewL_D {s:Bar} (h:fewL s.Drinkers):fewD (scB s).Diners:=by
 refine ⟨by simpa [scB] using h.1,fun d hd=>?_⟩
 obtain ⟨e,he,rfl⟩:=List.mem_map.1 hd
 exact (h.2 e he).1
theorem s_CloneMail (l:List Mail) (hl:l.length≤1000000):Zyh l=some l:=by
 simp only [Zyh]
 rw [Z06 _ _ (by omega) (by simp;omega)];rfl
theorem s_Scene (s:Bar) (hD:fewL s.Drinkers) (hM:s.Mail.length≤1000000):Z2i s=some (scB s):=by
 simp only [Z2i,s_CloneMail _ hM,Option.bind_some]
 refine Zn7 s.Drinkers (Z1i s s.Mail) (fun pre=>((pre.length:Int),pre.map (·.Diner))) _ (fun pre x post h=>?_) ?_
 ·have hx:=Zo7 h
  have hm:=Zp7 h
  have h1:=hD.1
  have h2:=(hD.2 x (Zq7 h)).1
  dsimp only [Z1i]
  rw [Z16 hx,Zv5,Zz5 hx,Option.bind_some,Z89 _ (by omega),Option.bind_some,Z06 _ _ (by omega) (by simp;omega),Option.bind_some,Z36 (by omega),Zt7]
  simp
 ·dsimp only [Z1i]
  rw [Z26,Zw5];rfl
def Z8k (s:Bar):Bool:=okS (scB s)&&s.Drinkers.all okDr
theorem s_bCheck (s:Bar) (hD:fewL s.Drinkers) (hM:s.Mail.length≤1000000):Zbi s=some (if Z8k s then 0 else 160):=by
 simp only [Zbi,s_Scene s hD hM,Option.bind_some,s_tCheck (scB s) (fewL_D hD) hM]
 unfold Z8k
 cases okS (scB s) with
 | false=>rfl
 | true=>
   rw [if_pos rfl,show decide ((0:Int)=0)=true from rfl,Bool.not_true,Zw5,Z7k s.Drinkers (fun z=>Zxh z) (fun d=>!okDr d) (by have:=hD.1;omega) (fun d hd=>by
    simp only [Zxh,Zbf d (by have:=(hD.2 d hd).2;omega),Option.bind_some]
    cases okDr d<;>rfl),Option.bind_some]
   have e1:s.Drinkers.any (fun d=>!okDr d)=!s.Drinkers.all okDr:=Zf7 _ _ _ fun _=>rfl
   rw [e1]
   cases s.Drinkers.all okDr<;>rfl
def Z9k (s:Bar) (a:Int):Bool:=decide (0≤a)&&decide (a<s.Drinkers.length)
theorem Zak (s:Bar) (a:Int):Zei s a=some (Z9k s a):=by
 simp only [Zei,Zdi,Z9k,Zy4]
 cases decide (0≤a)<;>rfl
theorem Zbk {s:Bar} {a:Int}:Z9k s a=true↔0≤a∧a<s.Drinkers.length:=by simp [Z9k]
theorem Zck {s:Bar} {a:Int} (h:Z9k s a=true):∃d,at_ s.Drinkers a=some d∧s.Drinkers[a.toNat]?=some d:=by
 rw [Zbk] at h
 exact at_lt h.1 h.2
theorem once_keep (d:Drinker):(Zke d).Need=d.Need∧(Zke d).Diner.ID=d.Diner.ID∧(Zke d).Diner.Sides.map (·.Peer)=d.Diner.Sides.map (·.Peer):=by
 refine ⟨rfl,rfl,?_⟩
 show (Zie d).map (·.Peer)=_
 unfold Zie
 rw [Z4e,List.map_map,List.map_map]
 refine List.map_congr_left fun x _=>?_
 show (Zde _ _ (Z3e (Zhe d) x)).Peer=x.Peer
 rw [(Zfe _ _ _).1,(Z6e (Zhe d) x).1]
theorem Zdk:∀(n:Nat) (d:Drinker) (out:List Mail),(fireN n d out).1.Need=d.Need∧(fireN n d out).1.Diner.ID=d.Diner.ID∧(fireN n d out).1.Diner.Sides.map (·.Peer)=d.Diner.Sides.map (·.Peer)∧(fireN n d out).2.length+bits (fireN n d out).1.Diner.Sides=out.length+bits d.Diner.Sides
 | 0,_,_=>⟨rfl,rfl,rfl,rfl⟩
 | n+1,d,out=>by
   unfold fireN
   split
   ·exact ⟨rfl,rfl,rfl,rfl⟩
   ·obtain ⟨h1,h2,h3,h4⟩:=Zdk n (Zke d) (out++Zle d)
    obtain ⟨k1,k2,k3⟩:=once_keep d
    have hb:=Zoe d
    exact ⟨h1.trans k1,h2.trans k2,h3.trans k3,by rw [h4,List.length_append];omega⟩
theorem Zek (d:Drinker):(fireDr d).1.Diner.Sides.length=d.Diner.Sides.length∧(fireDr d).1.Need=d.Need:=by
 obtain ⟨h1,_,h3,_⟩:=Zdk 300 d []
 have:=congrArg List.length h3
 simp only [List.length_map] at this
 exact ⟨this,h1⟩
theorem Zfk {d:Drinker} (h:okDr d=true):(fireDr d).2.length≤252:=by
 have h1:=(Zdk 300 d []).2.2.2
 have h2:=bits_le d.Diner.Sides
 have h3:=Z99 (Zff h)
 unfold fireDr
 simp only [List.length_nil] at h1
 omega
def Zgk (s:Bar) (a:Int) (d:Drinker):Bar:=⟨s.Drinkers.set a.toNat (fireDr d).1,s.Mail++(fireDr d).2⟩
def Zhk (s:Bar) (a:Int) (r:Drinker×Int):Bar×Int:=if r.2=0 then (if okDr r.1 then (Zgk s a r.1,0) else (bar0,150)) else (bar0,r.2)
theorem s_bAct (s:Bar) (a:Int) (p:Drinker→Option (Drinker×Int)) (q:Drinker→Drinker×Int) (d:Drinker) (hp:p d=some (q d)) (hq:(q d).1.Need.length≤5000) (hD:fewL s.Drinkers) (hM:s.Mail.length≤900000) (hd:at_ s.Drinkers a=some d) (ha:0≤a):
  Zji s a p=some (Zhk s a (q d)):=by
 simp only [Zji,hd,Option.bind_some,hp,Zhk]
 by_cases h0:(q d).2=0
 ·simp only [h0,decide_true,Bool.not_true,Zw5,s_drFire _ (show (q d).1.Need.length≤1000000 by omega),Option.bind_some,if_true]
  cases hk:okDr (q d).1 with
  | false=>rfl
  | true=>
    have hl:=Z99 (Zff hk)
    obtain ⟨f1,f2⟩:=Zek (q d).1
    have hms:=Zfk hk
    have h5:=hD.1
    have hc:=s_Concat s.Mail (fireDr (q d).1).2 (by omega) (by omega)
    simp only [if_true,decide_true,Bool.not_true,Zw5,hc,Option.bind_some]
    have:=Zn7 s.Drinkers (Zii s a ((fireDr (q d).1).1,(fireDr (q d).1).2,0) (s.Mail++(fireDr (q d).1).2)) (fun pre=>((pre.length:Int),(s.Drinkers.set a.toNat (fireDr (q d).1).1).take pre.length)) (Zgk s a (q d).1,0) (fun pre x post h=>by
     have hx:=Zo7 h
     have hm:=Zp7 h
     have h2:=hD.2 x (Zq7 h)
     have snoc:(s.Drinkers.set a.toNat (fireDr (q d).1).1).take (pre.length+1)=(s.Drinkers.set a.toNat (fireDr (q d).1).1).take pre.length++[if (pre.length:Int)=a then (fireDr (q d).1).1 else x]:=by
      rw [List.take_add_one,List.getElem?_set]
      by_cases hq:(pre.length:Int)=a
      ·rw [if_pos (by omega),if_pos (by omega),if_pos hq];rfl
      ·rw [if_neg (by omega),hx,if_neg hq];rfl
     have lt:((s.Drinkers.set a.toNat (fireDr (q d).1).1).take pre.length).length≤5000:=by rw [List.length_take,List.length_set];omega
     have step:∀z:Drinker,z.Diner.Sides.length≤5000→z.Need.length≤5000→Zhi (pre.length:Int) ((s.Drinkers.set a.toNat (fireDr (q d).1).1).take pre.length) z=some (.inl (((pre.length+1:Nat):Int),(s.Drinkers.set a.toNat (fireDr (q d).1).1).take pre.length++[z])):=fun z h1 h2=>by
      dsimp only [Zhi]
      rw [Z89 _ (by omega),Option.bind_some,Z7f _ (by omega),Option.bind_some,Z06 _ _ (by omega) (by simp only [List.length_singleton];omega),Option.bind_some,Z36 (by omega)]
     dsimp only [Zii]
     rw [Z16 hx,Zv5,Zz5 hx,Option.bind_some,Zt7,snoc]
     by_cases hq:(pre.length:Int)=a
     ·rw [decide_eq_true hq,Zv5,step _ (by omega) (by rw [f2];omega),if_pos hq]
     ·rw [decide_eq_false hq,Zw5,step _ h2.1 h2.2,if_neg hq]) (by
     dsimp only [Zii]
     rw [Z26,Zw5]
     dsimp only [Zgi]
     rw [List.take_of_length_le (by simp)];rfl)
    exact this
 ·simp only [h0,decide_false,Bool.not_false,Zv5,if_false]
  rfl
def Zik (s:Bar) (a:Int) (q:Drinker→Drinker×Int):Bar×Int:=
 if Z8k s then (if Z9k s a then (match at_ s.Drinkers a with | some d=>Zhk s a (q d) | none=>(bar0,161)) else (bar0,161)) else (bar0,160)
theorem s_bTurn (s:Bar) (a:Int) (p:Drinker→Option (Drinker×Int)) (q:Drinker→Drinker×Int) (hp:∀d∈s.Drinkers,p d=some (q d)∧(q d).1.Need.length≤5000) (hD:fewL s.Drinkers) (hM:s.Mail.length≤900000):Zki s a p=some (Zik s a q):=by
 simp only [Zki,s_bCheck s hD (by omega),Option.bind_some]
 unfold Zik
 cases Z8k s with
 | false=>rfl
 | true=>
   rw [if_pos rfl,show decide ((0:Int)=0)=true from rfl,Bool.not_true,Zw5,Zak,Option.bind_some,if_pos rfl]
   cases h:Z9k s a with
   | false=>rfl
   | true=>
     obtain ⟨d,hd,hd'⟩:=Zck h
     obtain ⟨p1,p2⟩:=hp d (List.mem_iff_getElem?.2 ⟨_,hd'⟩)
     rw [Bool.not_true,Zw5,if_pos rfl,s_bAct s a p q d p1 p2 hD hM hd (Zbk.1 h).1,Option.bind_some,hd]
theorem compact_len (l:List Int):(Ztc l).length≤l.length:=by
 unfold Ztc
 have:=Lib.compact_length_le (l.mergeSort fun x y=>decide (x≤y))
 rw [List.length_mergeSort] at this
 exact this
theorem openDr_need {d:Drinker} {need:List Int} (hm:need.length≤5000):(Zdf d need).1.Need.length≤5000:=by
 unfold Zdf
 have:=compact_len need
 split
 ·split
  ·split
   ·simp [Zaf]
   ·show (Ztc need).length≤5000;omega
  ·simp [Zaf]
 ·simp [Zaf]
theorem closeDr_need (d:Drinker):(Zef d).1.Need.length≤5000:=by
 unfold Zef
 split
 ·split<;>simp [Zaf]
 ·simp [Zaf]
theorem Zjk {d:Drinker} {p:Int} {m:Msg} (hn:d.Need.length≤5000):(viaD d p m).1.Need.length≤5000:=by
 unfold viaD
 split
 ·exact hn
 ·simp [Zaf]
theorem getDr_need {d:Drinker} {p:Int} {m:Msg} (hn:d.Need.length≤5000):(Zgf d p m).1.Need.length≤5000:=by
 unfold Zgf
 split
 ·split
  ·exact Zjk hn
  ·split
   ·exact Zjk hn
   ·split
    ·split
     ·split
      ·simp [Zaf]
      ·exact hn
     ·split
      ·simp [Zaf]
      ·exact hn
    ·exact Zjk hn
 ·simp [Zaf]
theorem Zkk (s:Bar) (a:Int) (need:List Int) (hD:fewL s.Drinkers) (hM:s.Mail.length≤900000) (hn:need.length≤5000):Zmi s a need=some (Zik s a fun d=>Zdf d need):=by
 simp only [Zmi]
 rw [s_bTurn s a _ (fun d=>Zdf d need) (fun d hd=>⟨by simp only [Zwh,s_drOpen d need (show d.Need.length≤1000000 by have:=(hD.2 d hd).2;omega) (by omega),Option.bind_some],openDr_need hn⟩) hD hM,Option.bind_some]
theorem s_bClose (s:Bar) (a:Int) (hD:fewL s.Drinkers) (hM:s.Mail.length≤900000):Zoi s a=some (Zik s a Zef):=by
 simp only [Zoi]
 rw [s_bTurn s a _ Zef (fun d hd=>⟨s_drClose d (show d.Need.length≤1000000 by have:=(hD.2 d hd).2;omega),closeDr_need d⟩) hD hM,Option.bind_some]
def Zlk (s:Bar) (a b:Int):Option Nat:=s.Mail.findIdx? fun m=>decide (m.From=a)&&decide (m.To=b)
def Zmk (s:Bar) (a b:Int):Bar×Int:=
 if Z8k s then (if Z9k s a&&Z9k s b then (match Zlk s a b with
  | none=>(bar0,162)
  | some i=>match s.Mail[i]?,at_ s.Drinkers b with
    | some m,some d=>Zhk ⟨s.Drinkers,s.Mail.take i++s.Mail.drop (i+1)⟩ b (Zgf d a m.Msg)
    | _,_=>(bar0,161)) else (bar0,161)) else (bar0,160)
theorem Znk (s:Bar) (a b:Int) (hD:fewL s.Drinkers) (hM:s.Mail.length≤900000):Zxi s a b=some (Zmk s a b):=by
 simp only [Zxi,s_bCheck s hD (by omega),Option.bind_some]
 unfold Zmk
 cases Z8k s with
 | false=>rfl
 | true=>
   rw [if_pos rfl,show decide ((0:Int)=0)=true from rfl,Bool.not_true,Zw5,Zak,Option.bind_some,if_pos rfl]
   cases h:Z9k s a with
   | false=>rfl
   | true=>
     rw [Bool.not_true,Zw5,Zak,Option.bind_some]
     cases h':Z9k s b with
     | false=>rfl
     | true=>
       obtain ⟨d,hd,hd'⟩:=Zck h'
       have hdn:=(hD.2 d (List.mem_iff_getElem?.2 ⟨_,hd'⟩)).2
       dsimp only [Zwi]
       rw [Bool.not_true,Zw5,Bool.and_self,if_pos rfl,Zeg s.Mail (fun z=>Zri z a b) (fun m=>decide (m.From=a)&&decide (m.To=b)) (by omega) (fun m _=>by
        simp only [Zri,Zqi]
        cases decide (m.From=a)<;>rfl),Option.bind_some,plc_neg]
       have hfi:=Zx7 (fun m:Mail=>decide (m.From=a)&&decide (m.To=b)) s.Mail
       unfold Zlk
       cases hf:s.Mail.findIdx? (fun m=>decide (m.From=a)&&decide (m.To=b)) with
       | none=>rfl
       | some i=>
         rw [hf] at hfi
         obtain ⟨m,hm,_⟩:=hfi
         have hlt:=(List.getElem?_eq_some_iff.1 hm).1
         have e1:sub_ s.Mail 0 (i:Int)=some (s.Mail.take i):=by
          unfold sub_
          rw [if_pos ⟨by omega,by omega,by omega⟩];simp
         have e2:sub_ s.Mail (wr ((i:Int)+1)) (ln Mail.row s.Mail)=some (s.Mail.drop (i+1)):=by
          rw [Z36 (by omega),Zy4]
          unfold sub_
          rw [if_pos ⟨by omega,by omega,by omega⟩];simp
         simp only [Option.isNone_some,Zw5,plc,Zz5 hm,Option.bind_some,e1,e2,hm,hd]
         rw [s_Concat _ _ (by simp;omega) (by simp;omega),Option.bind_some]
         dsimp only [Zvi]
         rw [s_bAct ⟨s.Drinkers,s.Mail.take i++s.Mail.drop (i+1)⟩ b _ (fun d=>Zgf d a m.Msg) d (by simp only [Zti,s_drGet d a m.Msg (show d.Need.length≤1000000 by omega),Option.bind_some]) (getDr_need hdn) hD (by simp;omega) hd (Zbk.1 h').1]
         rfl
def actR (s:Bar) (k a b:Int) (need:List Int):Bar×Int:=if k=0 then Zik s a (fun d=>Zdf d need) else if k=1 then Zik s a Zef else Zmk s a b
theorem s_act16 (s:Bar) (k a b:Int) (need:List Int) (hD:fewL s.Drinkers) (hM:s.Mail.length≤900000) (hn:need.length≤5000):Zzi s ⟨k,a,b,need⟩=some (actR s k a b need):=by
 have e:Zb4 8 ([]:List Int) need=some need:=by rw [Z06 _ _ (by omega) (by simp;omega)];rfl
 simp only [Zzi,actR,e,Option.bind_some,Zkk s a need hD hM hn,s_bClose s a hD hM,Znk s a b hD hM]
 by_cases h0:k=0
 ·simp [h0]
 ·by_cases h1:k=1
  ·simp [h1]
  ·simp [h0,h1]
theorem s_own13 (d:Diner) (h:d.Sides.length≤1000000):Z1j d=some d:=by
 simp only [Z1j]
 rw [Z06 _ _ (by omega) (by simp;omega)];rfl
theorem s_own16 (s:Bar) (hD:fewL s.Drinkers) (hM:s.Mail.length≤900000):Z7j s=some s:=by
 simp only [Z7j]
 rw [Z06 _ _ (by omega) (by simp;omega),Option.bind_some,List.nil_append]
 refine Zn7 s.Drinkers (Z6j s s.Mail) (fun pre=>((pre.length:Int),pre)) s (fun pre x post h=>?_) ?_
 ·have hx:=Zo7 h
  have hm:=Zp7 h
  have h1:=hD.1
  obtain ⟨h2,h3⟩:=hD.2 x (Zq7 h)
  have e:Z3j x=some x:=by
   simp only [Z3j,s_own13 _ (show x.Diner.Sides.length≤1000000 by omega),Option.bind_some]
   rw [Z06 _ _ (by omega) (by simp;omega)];rfl
  dsimp only [Z6j]
  rw [Z16 hx,Zv5,Zz5 hx,Option.bind_some,e,Option.bind_some,Z06 _ _ (by omega) (by simp;omega),Option.bind_some,Z36 (by omega),Zt7]
 ·dsimp only [Z6j]
  rw [Z26,Zw5];rfl
def whoL (l:List Drinker) (t:Int):List Int:=(l.filter fun d=>decide (d.Thirst=t)).map (·.Diner.ID)
theorem whoL_len (l:List Drinker) (t:Int):(whoL l t).length≤l.length:=by
 unfold whoL;rw [List.length_map];exact List.length_filter_le _ _
theorem s_Who (s:Bar) (t:Int) (hD:fewL s.Drinkers):Zcj s t=some (whoL s.Drinkers t):=by
 unfold Zcj
 refine Zn7 s.Drinkers (Zbj s t) (fun pre=>((pre.length:Int),whoL pre t)) _ (fun pre d post h=>?_) ?_
 ·have hx:=Zo7 h
  have hm:=Zp7 h
  have:=hD.1
  have hl:=whoL_len pre t
  have e:whoL (pre++[d]) t=if d.Thirst=t then whoL pre t++[d.Diner.ID] else whoL pre t:=by
   unfold whoL
   by_cases hp:d.Thirst=t<;>simp [hp]
  dsimp only [Zbj]
  rw [Z16 hx,Zv5,Zz5 hx,Option.bind_some,e,Zt7]
  by_cases hp:d.Thirst=t
  ·rw [decide_eq_true hp,Zv5,Z06 _ _ (by omega) (by simp only [List.length_singleton];omega),Option.bind_some,if_pos hp]
   dsimp only [Zaj];rw [Z36 (by omega)]
  ·rw [decide_eq_false hp,Zw5,if_neg hp]
   dsimp only [Zaj];rw [Z36 (by omega)]
 ·dsimp only [Zbj]
  rw [Z26,Zw5];rfl
def Zok (x:Side) (k:Int):Bool:=if k=4 then x.Ask else x.Bottle
def Zpk (s:Bar) (e:Edge) (k:Int):Nat:=
 if k=3∨k=4 then
  (if Z9k s e.A&&Z9k s e.B then
    match s.Drinkers[e.A.toNat]?,s.Drinkers[e.B.toNat]? with
    | some da,some db=>match Zw7 da.Diner e.B,Zw7 db.Diner e.A with
      | some x,some y=>if x.Epoch=y.Epoch then bn (Zok x k)+bn (Zok y k)+Zth s.Mail e k x.Epoch else 0
      | _,_=>0
    | _,_=>0
  else 0)
 else countS (scB s) e k
theorem s_bCount (s:Bar) (e:Edge) (k:Int) (hD:fewL s.Drinkers) (hM:s.Mail.length≤900000):Zrj s e k=some (Zpk s e k:Int):=by
 have j1:(k=3∨k=4)→Zqj s e k false=some (Zpk s e k:Int):=fun hk=>by
  unfold Zpk
  rw [if_pos hk]
  dsimp only [Zqj]
  rw [Zw5,Zak,Option.bind_some]
  cases ha:Z9k s e.A with
  | false=>rfl
  | true=>
    rw [Bool.not_true,Zw5,Zak,Option.bind_some]
    cases hb:Z9k s e.B with
    | false=>rfl
    | true=>
      obtain ⟨da,a1,a2⟩:=Zck ha
      obtain ⟨db,b1,b2⟩:=Zck hb
      have la:=(hD.2 da (List.mem_iff_getElem?.2 ⟨_,a2⟩)).1
      have lb:=(hD.2 db (List.mem_iff_getElem?.2 ⟨_,b2⟩)).1
      dsimp only [Zpj,Zoj]
      rw [Bool.not_true,Zw5,a1,Option.bind_some,s_Side da.Diner e.B (by omega),Option.bind_some,b1,Option.bind_some,s_Side db.Diner e.A (by omega),Option.bind_some,Bool.and_self,if_pos rfl,a2,b2]
      dsimp only
      cases hx:Zw7 da.Diner e.B with
      | none=>rfl
      | some x=>
        cases hy:Zw7 db.Diner e.A with
        | none=>rfl
        | some y=>
          show Znj s e k true x (true,y)=some ((if x.Epoch=y.Epoch then bn (Zok x k)+bn (Zok y k)+Zth s.Mail e k x.Epoch else 0:Nat):Int)
          dsimp only [Znj]
          rw [Bool.not_true,Zw5,Zw5]
          by_cases he:x.Epoch=y.Epoch
          ·rw [decide_eq_true he,Bool.not_true,if_pos he]
           dsimp only [Zmj]
           rw [Zw5]
           have j7:∀n:Nat,n≤2→Zij s e k x (n:Int)=some ((n+Zth s.Mail e k x.Epoch:Nat):Int):=fun n hn=>by
            dsimp only [Zij]
            refine Zn7 s.Mail (Zhj s e k x) (fun pre=>(((n+Zth pre e k x.Epoch:Nat):Int),(pre.length:Int))) ((n+Zth s.Mail e k x.Epoch:Nat):Int) (fun pre m post h=>?_) ?_
            ·have hx:=Zo7 h
             have hm:=Zp7 h
             have hc:=Zvh pre e k x.Epoch
             dsimp only [Zhj]
             rw [Z16 hx,Zv5,Zz5 hx,Option.bind_some,Zuh,Zt7]
             have step:∀z,Zgj ((n+Zth pre e k x.Epoch:Nat):Int) (pre.length:Int) z=some (.inl (((n+(Zth pre e k x.Epoch+bn z):Nat):Int),((pre.length+1:Nat):Int))):=fun z=>by
              cases z with
              | true=>dsimp only [Zgj,Zfj];rw [Zv5,Z36 (by omega),Z36 (by omega)];rfl
              | false=>dsimp only [Zgj,Zfj];rw [Zw5,Z36 (by omega)];rfl
             unfold mailB
             simp only [step]
             cases decide (m.Msg.Kind=k)<;>cases decide (m.Msg.Epoch=x.Epoch)<;>cases decide (min m.From m.To=min e.A e.B)<;>rfl
            ·dsimp only [Zhj]
             rw [Z26,Zw5];rfl
           have j6:∀p q:Bool,Zlj s e k x (p,q)=some ((bn p+bn q+Zth s.Mail e k x.Epoch:Nat):Int):=fun p q=>by
            have ef:(([p,q].countP id:Nat):Int)=((bn p+bn q:Nat):Int):=by cases p<;>cases q<;>rfl
            dsimp only [Zlj]
            have n2:bn p+bn q≤2:=by cases p<;>cases q<;>decide
            have hj:=j7 (bn p+bn q) n2
            have:=Zm7 [p,q] (Zkj s e k x p q) (fun pre=>(((pre.countP id:Nat):Int),(pre.length:Int))) (fun _ _=>Zij s e k x (([p,q].countP id:Nat):Int)) (fun pre z post h=>.inl ⟨by
             have hx:=Zo7 h
             have hm:=Zp7 h
             have h2:pre.length<2:=hm
             have hc:pre.countP id≤pre.length:=List.countP_le_length
             dsimp only [Zkj]
             rw [decide_eq_true (by omega),Zv5,Zz5 hx,Option.bind_some,Zt7,List.countP_append,List.countP_cons,List.countP_nil]
             cases z with
             | true=>dsimp only [Zjj];rw [Zv5,Z36 (by omega),Z36 (by omega)];rfl
             | false=>dsimp only [Zjj];rw [Zw5,Z36 (by omega)];rfl,rfl⟩) (by
             dsimp only [Zkj]
             rw [show decide ((([p,q]:List Bool).length:Int)<2)=false from rfl,Zw5])
            rw [ef,hj] at this
            exact this
           unfold Zok
           by_cases k4:k=4
           ·rw [decide_eq_true k4,Zv5,j6,if_pos k4,if_pos k4]
           ·rw [decide_eq_false k4,Zw5,j6,if_neg k4,if_neg k4]
          ·rw [decide_eq_false he,Bool.not_false,if_neg he];rfl
 simp only [Zrj]
 by_cases k3:k=3
 ·rw [decide_eq_true k3,Bool.not_true,Zw5];exact j1 (.inl k3)
 ·rw [decide_eq_false k3,Bool.not_false,Zv5]
  by_cases k4:k=4
  ·rw [decide_eq_true k4,Bool.not_true];exact j1 (.inr k4)
  ·rw [decide_eq_false k4,Bool.not_false]
   dsimp only [Zqj]
   rw [Zv5,s_Scene s hD (by omega),Option.bind_some,s_Count (scB s) e k (fewL_D hD) hM,Option.bind_some]
   unfold Zpk
   rw [if_neg (by omega)]
theorem s_EqualMail (l m:List Mail) (hl:l.length≤1000000):Z1k l m=some (decide (l=m)):=by
 simp only [Z1k,ln_dec]
 by_cases h:l.length=m.length
 ·simp only [h,decide_true,Bool.not_true,Zw5]
  rw [Zu7 l m _ (fun x y=>decide (x=y)) h (by omega) (fun k x y hx hy=>by
   simp only [Z0k,Z16 hx,Zv5,Zz5 hx,Zz5 hy,Option.bind_some,Mail_eqB,Z46 hx (show l.length≤4000000000000000000 by omega),Zx5]
   cases decide (x=y)<;>rfl) (by simp only [Z0k,Z26,Zw5,Zzj,Option.map_some]),Zv7 l m h]
 ·simp [h,len_ne h]
theorem s_bSame (s t:Bar) (hD:fewL s.Drinkers) (hM:s.Mail.length≤900000):Z4k s t=some (decide (s=t)):=by
 obtain ⟨l,m⟩:=s
 obtain ⟨l',m'⟩:=t
 simp only at hD hM
 have h5:=hD.1
 have e1:Zxj l l' (fun z=>Zga z.1 z.2)=some (decide (l=l')):=by
  simp only [Zxj,ln_dec]
  by_cases h:l.length=l'.length
  ·simp only [h,decide_true,Bool.not_true,Zw5]
   rw [Zu7 l l' _ (fun x y=>decide (x=y)) h (by omega) (fun k x y hx hy=>by
    have hxm:=hD.2 x (List.mem_iff_getElem?.2 ⟨_,hx⟩)
    simp only [Zwj,Z16 hx,Zv5,Zz5 hx,Zz5 hy,Option.bind_some,s_drSame x y (show x.Diner.Sides.length≤1000000 by omega) (show x.Need.length≤1000000 by omega),Z46 hx (show l.length≤4000000000000000000 by omega),Zx5,Option.map_some]
    cases decide (x=y)<;>rfl) (by simp only [Zwj,Z26,Zw5,Zvj,Option.map_some]),Zv7 l l' h]
  ·simp [h,len_ne h]
 simp only [Z4k,Z3k,e1,s_EqualMail m m' (show m.length≤1000000 by omega),Option.bind_some,Bar.mk.injEq]
 by_cases h1:l=l'<;>by_cases h2:m=m'<;>simp [h1,h2]
def barT (g:Graph):Bar:=⟨(Zvg g).Diners.map fun d=>⟨d,0,[]⟩,[]⟩
theorem s_bNew (g:Graph):Zuj g=some (if okG g then (barT g,0) else (bar0,30)):=by
 simp only [Zuj,s_New,Option.bind_some]
 cases hg:okG g with
 | false=>rfl
 | true=>
   have hl:(Zvg g).Diners.length≤64:=by
    have:=Zrd hg (Ztg g)
    have:=(Ze7 hg).2.1
    show (Zzc g (Ztg g)).length≤64
    omega
   rw [if_pos rfl,show decide ((0:Int)=0)=true from rfl,Bool.not_true,Zw5,if_pos rfl]
   refine Zn7 (Zvg g).Diners (Ztj (Zvg g,0)) (fun pre=>((pre.length:Int),pre.map fun d=>(⟨d,0,[]⟩:Drinker))) (barT g,0) (fun pre x post h=>?_) ?_
   ·have hx:=Zo7 h
    have hm:=Zp7 h
    dsimp only [Ztj]
    rw [Z16 hx,Zv5,Zz5 hx,Option.bind_some,Z06 _ _ (by omega) (by simp;omega),Option.bind_some,Z36 (by omega),Zt7]
    simp
   ·dsimp only [Ztj]
    rw [Z26,Zw5];rfl
set_option maxRecDepth 100000
set_option maxHeartbeats 4000000
@[go_sem] def e11:EC:=.seq (.reg [(Qa 0 (.mv (.c .ff)))]) (.seq (.reg [(Qa 13 (.build [.iv 0,.iv 0] [(0,1,(.c (.iv 0))),(1,1,(.c (.iv 1)))])),(Qa 14 (.bsl 30 2 1 [.iv 0,.iv 0] [(0,(.t 13))])),(Qa 15 (.build [.iv 0,.nl] [(0,1,(.c (.iv 2))),(1,1,(.t 14))])),(Qa 16 (.call 40 [(.t 15)])),(Qm 12 16),(Qa 17 (.ext (.t 12) 0)),(Qa 18 (.ext (.t 12) 1)),(Qa 1 (.alloc 25 [.nl,.nl])),(Qs 2 1 17),(Qm 2 18)]) (.seq (.reg [(Qe 20 2 1),(Qa 21 (.call 38 [(.t 20),(.c (.iv 0)),(.c .nl)])),(Qm 19 21),(Qa 22 (.ext (.t 19) 0)),(Qa 23 (.ext (.t 19) 1)),(Qa 3 (.alloc 25 [.nl,.nl])),(Qs 2 3 22),(Qm 4 23)]) (.seq (.reg [(Qe 25 2 3),(Qa 26 (.call 38 [(.t 25),(.c (.iv 1)),(.c .nl)])),(Qm 24 26),(Qa 27 (.ext (.t 24) 0)),(Qa 28 (.ext (.t 24) 1)),(Qs 2 3 27),(Qm 5 28)]) (.seq (.seq (.reg [(Qm 29 2),(Qa 30 (.bin .neq (.t 29) (.c (.iv 0)))),(Qm 31 30),(Qg 32 31 false (.mv (.t 4))),(Qg 33 31 false (.bin .neq (.t 32) (.c (.iv 0)))),(Qq 34 31 33),(Qm 35 34),(Qg 36 35 false (.mv (.t 5))),(Qg 37 35 false (.bin .neq (.t 36) (.c (.iv 0)))),(Qq 38 35 37)]) (.ite (.t 38) (.seq (.reg [(Qa 0 (.mv (.c .ff)))]) (.ret)) (.skip))) (.seq (.reg [(Qe 40 2 1),(Qa 41 (.bsl 3 1 1 [.iv 0] [(0,(.c (.iv 1)))])),(Qa 42 (.call 38 [(.t 40),(.c (.iv 0)),(.t 41)])),(Qm 39 42),(Qa 43 (.ext (.t 39) 0)),(Qa 44 (.ext (.t 39) 1)),(Qa 6 (.alloc 25 [.nl,.nl])),(Qs 2 6 43),(Qm 7 44)]) (.seq (.reg [(Qe 46 2 3),(Qa 47 (.call 36 [(.t 46),(.c (.iv 0))])),(Qm 45 47),(Qa 48 (.ext (.t 45) 0)),(Qa 49 (.ext (.t 45) 1)),(Qa 8 (.alloc 25 [.nl,.nl])),(Qs 2 8 48),(Qm 9 49)]) (.seq (.reg [(Qe 51 2 1),(Qa 52 (.call 48 [(.t 51),(.c (.iv 0)),(.c (.iv 1))])),(Qm 50 52),(Qa 53 (.ext (.t 50) 0)),(Qa 54 (.ext (.t 50) 1)),(Qa 10 (.alloc 25 [.nl,.nl])),(Qs 2 10 53),(Qm 11 54)]) (.seq (.reg [(Qe 55 2 3),(Qa 56 (.call 22 [(.t 55),(.c (.iv 2))])),(Qa 57 (.len (.t 56))),(Qa 58 (.bin .eql (.t 57) (.c (.iv 2)))),(Qm 59 58),(Qg 60 59 true (.mv (.t 7))),(Qg 61 59 true (.bin .eql (.t 60) (.c (.iv 0)))),(Qp 62 59 61),(Qm 63 62),(Qg 64 63 true (.loadA 2 (.t 6))),(Qg 65 63 true (.call 22 [(.t 64),(.c (.iv 0))])),(Qg 66 63 true (.len (.t 65))),(Qg 67 63 true (.bin .eql (.t 66) (.c (.iv 1)))),(Qp 68 63 67),(Qm 69 68),(Qg 70 69 true (.mv (.t 9))),(Qg 71 69 true (.bin .eql (.t 70) (.c (.iv 0)))),(Qp 72 69 71),(Qm 73 72),(Qg 74 73 true (.loadA 2 (.t 8))),(Qg 75 73 true (.call 22 [(.t 74),(.c (.iv 2))])),(Qg 76 73 true (.len (.t 75))),(Qg 77 73 true (.bin .eql (.t 76) (.c (.iv 1)))),(Qp 78 73 77),(Qm 79 78),(Qg 80 79 true (.mv (.t 11))),(Qg 81 79 true (.bin .eql (.t 80) (.c (.iv 162)))),(Qp 82 79 81),(Qm 83 82),(Qg 84 83 true (.loadA 2 (.t 1))),(Qg 85 83 true (.call 17 [(.t 84)])),(Qg 86 83 true (.bin .eql (.t 85) (.c (.iv 0)))),(Qp 87 83 86),(Qm 88 87),(Qg 89 88 true (.loadA 2 (.t 1))),(Qg 90 88 true (.build [.iv 0,.iv 0] [(0,1,(.c (.iv 0))),(1,1,(.c (.iv 1)))])),(Qg 91 88 true (.call 19 [(.t 89),(.t 90),(.c (.iv 3))])),(Qg 92 88 true (.bin .eql (.t 91) (.c (.iv 1)))),(Qp 93 88 92),(Qm 94 93),(Qg 95 94 true (.loadA 2 (.t 1))),(Qg 96 94 true (.loadA 2 (.t 1))),(Qg 97 94 true (.call 24 [(.t 95),(.t 96)])),(Qp 98 94 97),(Qm 99 98),(Qg 100 99 true (.loadA 2 (.t 1))),(Qg 101 99 true (.loadA 2 (.t 3))),(Qg 102 99 true (.call 24 [(.t 100),(.t 101)])),(Qg 103 99 true (.not (.t 102))),(Qp 104 99 103),(Qm 105 104),(Qg 106 105 true (.loadA 2 (.t 1))),(Qg 107 105 true (.call 26 [(.t 106)])),(Qg 108 105 true (.field 0 none (.t 107))),(Qg 109 105 true (.len (.t 108))),(Qg 110 105 true (.bin .eql (.t 109) (.c (.iv 2)))),(Qp 111 105 110),(Qm 0 111)]) (.ret)))))))))
theorem ok11:FnOK Tryz.prog 11 Tryz.f11 e11 [.t 0] 0 112:=⟨by kernel_rfl,⟨_,rfl,by kernel_rfl⟩,by kernel_rfl,by kernel_rfl⟩
noncomputable def Zqk:Bool→Option Bool
| x16=>
 some x16
noncomputable def Zrk (x1:(Bar×Int)) (x3:(Bar×Int)):Bool→Option Bool
| x4=>
 ifb x4 (
 some false) (
 (Zmi x1.1 0 ([1])).bind fun x5=>
 (Zoi x3.1 0).bind fun x6=>
 (Zxi x1.1 0 1).bind fun x7=>
 (Zcj x3.1 2).bind fun x8=>
 ifb (decide ((ln Zw4 x8)=2)) (
 ifb (decide (x5.2=0)) (
 (Zcj x5.1 0).bind fun x9=>
 ifb (decide ((ln Zw4 x9)=1)) (
 ifb (decide (x6.2=0)) (
 (Zcj x6.1 2).bind fun x10=>
 ifb (decide ((ln Zw4 x10)=1)) (
 ifb (decide (x7.2=162)) (
 (Zbi x1.1).bind fun x11=>
 ifb (decide (x11=0)) (
 (Zrj x1.1 ((Edge.mk 0 1)) 3).bind fun x12=>
 ifb (decide (x12=1)) (
 (Z4k x1.1 x1.1).bind fun x13=>
 ifb x13 (
 (Z4k x1.1 x3.1).bind fun x14=>
 ifb (!x14) (
 (Z2i x1.1).bind fun x15=>
 Zqk (decide ((ln Diner.row x15.Diners)=2))) (
 Zqk false)) (
 Zqk false)) (
 Zqk false)) (
 Zqk false)) (
 Zqk false)) (
 Zqk false)) (
 Zqk false)) (
 Zqk false)) (
 Zqk false)) (
 Zqk false))
noncomputable def Zsk:Option Bool:=
 (Zuj ((Graph.mk 2 ([(Edge.mk 0 1)])))).bind fun x1=>
 (Zmi x1.1 0 (([]:(List Int)))).bind fun x2=>
 (Zmi x2.1 1 (([]:(List Int)))).bind fun x3=>
 ifb (!decide (x1.2=0)) (
 (Zrk x1 x3) true) (
 ifb (!decide (x2.2=0)) (
 (Zrk x1 x3) true) (
 (Zrk x1 x3) (!decide (x3.2=0))))
theorem Ztk (r:Bool) (h:Zsk=some r):Zs2 Tryz.prog 11 [] (.bv r):=by
 refine Zw2 ok11 rfl rfl fun w0 H0=>?_
 rw [Zsk] at h
 refine Zn2 9 ?_;dsimp only [go_sem];refine An ?_;refine Za3 0 rfl ?_;dsimp only [go_sem];obtain ⟨x1,ex1,h⟩:=Bs h;refine Z13 trivial (k_bar_New ((Graph.mk 2 ([(Edge.mk 0 1)]))) _ ex1) (h:=?_);refine Zn2 10 ?_;dsimp only [go_sem];refine An ?_;obtain ⟨x2,ex2,h⟩:=Bs h;refine Z13 trivial (Zni x1.1 0 (([]:(List Int))) _ ex2) (h:=?_);refine Zn2 10 ?_;dsimp only [go_sem];refine An ?_;obtain ⟨x3,ex3,h⟩:=Bs h;refine Z13 trivial (Zni x2.1 1 (([]:(List Int))) _ ex3) (h:=?_);refine Zn2 12 ?_;dsimp only [go_sem];refine An ?_
 refine Zg4 (fun (x4:Bool)=>(⟨(.any :: .ptr 0 0 :: .any :: .ptr 1 0::an 34 (.bv x4::an 73 [])),[some ⟨25,[.sl 5 (List.map Drinker.row x1.1.Drinkers),.sl 5 (List.map Mail.row x1.1.Mail)]⟩,some ⟨25,[.sl 5 (List.map Drinker.row x3.1.Drinkers),.sl 5 (List.map Mail.row x3.1.Mail)]⟩],[]⟩:St)) (Zrk x1 x3) r ?_ fun J1=>?_
 ·intro x4 h;rw [Zrk] at h;(try dsimp only);refine Zi4 h rfl (fun _ h=>?_) fun _ h=>?_
  ·refine Zn2 4 ?_;dsimp only [go_sem];refine An ?_;exact Zq4 (res:=fun (r:Bool)=>.bv r) ok11 h
  ·refine Zn2 5 ?_;dsimp only [go_sem];refine An ?_;refine Za3 0 rfl ?_;dsimp only [go_sem];obtain ⟨x5,ex5,h⟩:=Bs h;refine Z13 trivial (Zni x1.1 0 ([1]) _ ex5) (h:=?_);refine Zn2 10 ?_;dsimp only [go_sem];refine An ?_;obtain ⟨x6,ex6,h⟩:=Bs h;refine Z13 trivial (Zpi x3.1 0 _ ex6) (h:=?_);refine Zn2 10 ?_;dsimp only [go_sem];refine An ?_;obtain ⟨x7,ex7,h⟩:=Bs h;refine Z13 trivial (Zyi x1.1 0 1 _ ex7) (h:=?_);refine Zn2 10 ?_;dsimp only [go_sem];refine An ?_;obtain ⟨x8,ex8,h⟩:=Bs h
   refine Z13 trivial (Zdj x3.1 2 _ ex8) (h:=?_);refine Zn2 3 ?_;dsimp only [go_sem];refine An ?_;refine Zg4 (fun (x16:Bool)=>(⟨(.bv x16::an 111 []),[],[]⟩:St)) Zqk r ?_ fun J2=>?_
   ·intro x16 h;rw [Zqk] at h;(try dsimp only);exact Zq4 (res:=fun (r:Bool)=>.bv r) ok11 h
   ·refine Zp4 59 h rfl (fun _ h=>?_) fun _ h=>?_
    ·dsimp only [go_sem];refine Zn2 4 ?_;dsimp only [go_sem];refine An ?_;refine Zp4 63 h rfl (fun _ h=>?_) fun _ h=>?_
     ·dsimp only [go_sem];refine Zn2 1 ?_;dsimp only [go_sem];refine An ?_;obtain ⟨x9,ex9,h⟩:=Bs h;refine Z13 trivial (Zdj x5.1 0 _ ex9) (h:=?_);refine Zn2 4 ?_;dsimp only [go_sem];refine An ?_;refine Zp4 69 h rfl (fun _ h=>?_) fun _ h=>?_
      ·dsimp only [go_sem];refine Zn2 4 ?_;dsimp only [go_sem];refine An ?_;refine Zp4 73 h rfl (fun _ h=>?_) fun _ h=>?_
       ·dsimp only [go_sem];refine Zn2 1 ?_;dsimp only [go_sem];refine An ?_;obtain ⟨x10,ex10,h⟩:=Bs h;refine Z13 trivial (Zdj x6.1 2 _ ex10) (h:=?_);refine Zn2 4 ?_;dsimp only [go_sem];refine An ?_;refine Zp4 79 h rfl (fun _ h=>?_) fun _ h=>?_
        ·dsimp only [go_sem];refine Zn2 4 ?_;dsimp only [go_sem];refine An ?_;refine Zp4 83 h rfl (fun _ h=>?_) fun _ h=>?_
         ·dsimp only [go_sem];refine Zn2 1 ?_;dsimp only [go_sem];refine An ?_;obtain ⟨x11,ex11,h⟩:=Bs h;refine Z13 trivial (Zci x1.1 _ ex11) (h:=?_);refine Zn2 3 ?_;dsimp only [go_sem];refine An ?_;refine Zp4 88 h rfl (fun _ h=>?_) fun _ h=>?_
          ·dsimp only [go_sem];refine Zn2 2 ?_;dsimp only [go_sem];refine An ?_;obtain ⟨x12,ex12,h⟩:=Bs h;refine Z13 trivial (k_bar_Count x1.1 ((Edge.mk 0 1)) 3 _ ex12) (h:=?_);refine Zn2 3 ?_;dsimp only [go_sem];refine An ?_;refine Zp4 94 h rfl (fun _ h=>?_) fun _ h=>?_
           ·dsimp only [go_sem];refine Zn2 2 ?_;dsimp only [go_sem];refine An ?_;obtain ⟨x13,ex13,h⟩:=Bs h;refine Z13 trivial (Z5k x1.1 x1.1 _ ex13) (h:=?_);refine Zn2 2 ?_;dsimp only [go_sem];refine An ?_;refine Zp4 99 h rfl (fun _ h=>?_) fun _ h=>?_
            ·dsimp only [go_sem];refine Zn2 2 ?_;dsimp only [go_sem];refine An ?_;obtain ⟨x14,ex14,h⟩:=Bs h;refine Z13 trivial (Z5k x1.1 x3.1 _ ex14) (h:=?_);refine Zn2 3 ?_;dsimp only [go_sem];refine An ?_;refine Zp4 105 h rfl (fun _ h=>?_) fun _ h=>?_
             ·dsimp only [go_sem];refine Zn2 1 ?_;dsimp only [go_sem];refine An ?_;obtain ⟨x15,ex15,h⟩:=Bs h;refine Z13 trivial (Z3i x1.1 _ ex15) (h:=?_);refine Zn2 6 ?_;dsimp only [go_sem];refine An ?_;exact Zs4 J2 (s:=decide ((ln Diner.row x15.Diners)=2)) h
             ·dsimp only [go_sem];refine Zn2 8 ?_;dsimp only [go_sem];refine An ?_;exact Zs4 J2 (s:=false) h
            ·dsimp only [go_sem];refine Zn2 14 ?_;dsimp only [go_sem];refine An ?_;exact Zs4 J2 (s:=false) h
           ·dsimp only [go_sem];refine Zn2 19 ?_;dsimp only [go_sem];refine An ?_;exact Zs4 J2 (s:=false) h
          ·dsimp only [go_sem];refine Zn2 25 ?_;dsimp only [go_sem];refine An ?_;exact Zs4 J2 (s:=false) h
         ·dsimp only [go_sem];refine Zn2 30 ?_;dsimp only [go_sem];refine An ?_;exact Zs4 J2 (s:=false) h
        ·dsimp only [go_sem];refine Zn2 34 ?_;dsimp only [go_sem];refine An ?_;exact Zs4 J2 (s:=false) h
       ·dsimp only [go_sem];refine Zn2 40 ?_;dsimp only [go_sem];refine An ?_;exact Zs4 J2 (s:=false) h
      ·dsimp only [go_sem];refine Zn2 44 ?_;dsimp only [go_sem];refine An ?_;exact Zs4 J2 (s:=false) h
     ·dsimp only [go_sem];refine Zn2 50 ?_;dsimp only [go_sem];refine An ?_;exact Zs4 J2 (s:=false) h
    ·dsimp only [go_sem];refine Zn2 54 ?_;dsimp only [go_sem];refine An ?_;exact Zs4 J2 (s:=false) h
 ·refine Zp4 31 h rfl (fun _ h=>?_) fun _ h=>?_
  ·dsimp only [go_sem];refine Zn2 8 ?_;dsimp only [go_sem];refine An ?_;exact Zs4 J1 (s:=true) h
  ·dsimp only [go_sem];refine Zn2 4 ?_;dsimp only [go_sem];refine An ?_;refine Zp4 35 h rfl (fun _ h=>?_) fun _ h=>?_
   ·dsimp only [go_sem];refine Zn2 4 ?_;dsimp only [go_sem];refine An ?_;exact Zs4 J1 (s:=true) h
   ·dsimp only [go_sem];refine Zn2 4 ?_;dsimp only [go_sem];refine An ?_;exact Zs4 J1 (s:=!decide (x3.2=0)) h
set_option maxRecDepth 100000
set_option maxHeartbeats 4000000
set_option maxRecDepth 100000
set_option maxHeartbeats 4000000
set_option maxRecDepth 100000
set_option maxHeartbeats 4000000
set_option maxRecDepth 100000
set_option maxHeartbeats 4000000
set_option maxRecDepth 100000
set_option maxHeartbeats 4000000
def fewR (s:Bar):Bool:=decide (s.Drinkers.length≤24)&&(s.Drinkers.all (fun d=>decide (d.Need.length≤24))&&fewB (scB s))
theorem fewR_iff {s:Bar} (h:fewR s=true):s.Drinkers.length≤24∧s.Mail.length≤40∧∀d∈s.Drinkers,d.Diner.Sides.length≤24∧d.Need.length≤24:=by
 unfold fewR at h
 simp only [Bool.and_eq_true,decide_eq_true_eq,List.all_eq_true] at h
 obtain ⟨h1,h2,h3⟩:=h
 obtain ⟨_,k2,k3⟩:=fewB_iff h3
 exact ⟨h1,k2,fun d hd=>⟨k3 _ (List.mem_map_of_mem hd),h2 d hd⟩⟩
theorem Zuk {s:Bar} (h:fewR s=true):fewL s.Drinkers:=by
 obtain ⟨h1,_,h3⟩:=fewR_iff h
 exact ⟨by omega,fun d hd=>by have:=h3 d hd;omega⟩
theorem setL_pw {l:List Int} (h:l.Pairwise (· < ·)):Ztc l=l:=by
 unfold Ztc
 rw [List.mergeSort_of_pairwise (h.imp fun hxy=>decide_eq_true (by omega)),Zsc h]
def Zvk (d:Drinker) (need set:List Int):Drinker×Int:=if okDr d then (if d.Thirst=0 then (if need.any (Zcf d.Diner) then (Zaf,151) else (⟨d.Diner,1,set⟩,0)) else (Zaf,152)) else (Zaf,150)
theorem openDr_S {need:List Int} (h:need.Pairwise (· < ·)):(fun d=>Zdf d need)=fun d=>Zvk d need need:=by
 funext d
 unfold Zdf Zvk
 rw [setL_pw h]
def g16:Graph:=⟨2,[⟨0,1⟩]⟩
def v0:Bar:=barT g16
def v2:Bar×Int:=Zik v0 0 fun d=>Zvk d [] []
def v3:Bar×Int:=Zik v2.1 1 fun d=>Zvk d [] []
def v5:Bar×Int:=Zik v0 0 fun d=>Zvk d [1] [1]
def v6:Bar×Int:=Zik v3.1 0 Zef
def v7:Bar×Int:=Zmk v0 0 1
theorem s_awake16:Zsk=some true:=by
 have f0:fewR v0=true:=by kernel_rfl
 have f2:fewR v2.1=true:=by kernel_rfl
 have f3:fewR v3.1=true:=by kernel_rfl
 have f5:fewR v5.1=true:=by kernel_rfl
 have f6:fewR v6.1=true:=by kernel_rfl
 have m:∀ {s:Bar},fewR s=true→s.Mail.length≤900000:=fun h=>by have:=(fewR_iff h).2.1;omega
 have hN:Zuj ⟨2,[⟨0,1⟩]⟩=some (v0,0):=by
  rw [s_bNew,show okG ⟨2,[⟨0,1⟩]⟩=true from by kernel_rfl];rfl
 simp only [Zsk,hN,Option.bind_some,decide_true,Bool.not_true,Zw5]
 rw [Zkk v0 0 [] (Zuk f0) (m f0) (by simp),Option.bind_some,openDr_S (need:=[]) (by simp),show (Zik v0 0 fun d=>Zvk d [] [])=v2 from rfl]
 rw [Zkk v2.1 1 [] (Zuk f2) (m f2) (by simp),Option.bind_some,openDr_S (need:=[]) (by simp),show (Zik v2.1 1 fun d=>Zvk d [] [])=v3 from rfl]
 rw [show decide (v2.2=0)=true from by kernel_rfl,Bool.not_true,Zw5,show decide (v3.2=0)=true from by kernel_rfl,Bool.not_true]
 dsimp only [Zrk]
 rw [Zw5,Zkk v0 0 [1] (Zuk f0) (m f0) (by simp),Option.bind_some,openDr_S (need:=[1]) (by simp),show (Zik v0 0 fun d=>Zvk d [1] [1])=v5 from rfl]
 rw [s_bClose v3.1 0 (Zuk f3) (m f3),Option.bind_some,show Zik v3.1 0 Zef=v6 from rfl,Znk v0 0 1 (Zuk f0) (m f0),Option.bind_some,show Zmk v0 0 1=v7 from rfl]
 rw [s_Who v3.1 2 (Zuk f3),Option.bind_some,show decide (ln Zw4 (whoL v3.1.Drinkers 2)=2)=true from by rw [Zy4];kernel_rfl,Zv5,show decide (v5.2=0)=true from by kernel_rfl,Zv5]
 rw [s_Who v5.1 0 (Zuk f5),Option.bind_some,show decide (ln Zw4 (whoL v5.1.Drinkers 0)=1)=true from by rw [Zy4];kernel_rfl,Zv5,show decide (v6.2=0)=true from by kernel_rfl,Zv5]
 rw [s_Who v6.1 2 (Zuk f6),Option.bind_some,show decide (ln Zw4 (whoL v6.1.Drinkers 2)=1)=true from by rw [Zy4];kernel_rfl,Zv5,show decide (v7.2=162)=true from by kernel_rfl,Zv5]
 rw [s_bCheck v0 (Zuk f0) (by have:=m f0;omega),Option.bind_some,show Z8k v0=true from by kernel_rfl,show decide ((if true=true then (0:Int) else 160)=0)=true from rfl,Zv5]
 rw [s_bCount v0 ⟨0,1⟩ 3 (Zuk f0) (m f0),Option.bind_some,show decide ((Zpk v0 ⟨0,1⟩ 3:Int)=1)=true from by kernel_rfl,Zv5]
 rw [s_bSame v0 v0 (Zuk f0) (m f0),Option.bind_some,decide_eq_true rfl,Zv5,s_bSame v0 v3.1 (Zuk f0) (m f0),Option.bind_some,show decide (v0=v3.1)=false from by kernel_rfl,Bool.not_false,Zv5]
 rw [s_Scene v0 (Zuk f0) (by have:=m f0;omega),Option.bind_some,Zy4,show decide (((scB v0).Diners.length:Int)=2)=true from by kernel_rfl]
 rfl
def k12 (m:Mail):Bool:=decide (m.Msg.Kind≤2)
def Zwk (s:Bar):Scene:=⟨s.Drinkers.map (·.Diner),s.Mail.filter k12⟩
def hasT (d:Diner) (k b:Int):Nat:=match Zw7 d b with | some x=>bn (Zok x k) | none=>0
structure LocT (d:Drinker):Prop where
 lo:0≤d.Thirst
 hi:d.Thirst≤2
 need:d.Need.Pairwise (· < ·)
 sub:∀p∈d.Need,p∈d.Diner.Sides.map (·.Peer)
 tr:d.Thirst=0→d.Need=[]
 dr:d.Thirst=2→∀x∈d.Diner.Sides,x.Peer∈d.Need→x.Bottle=true
def mailR (g:Graph) (m:Mail):Prop:=(1≤m.Msg.Kind∧m.Msg.Kind≤4)∧m.Msg.Epoch=1∧m.Msg.Num=0∧m.To∈Zqc g m.From
structure InvB (g:Graph) (s:Bar):Prop where
 tab:Inv g (Zwk s)
 mail:∀m∈s.Mail,mailR g m
 th:∀d∈s.Drinkers,LocT d
 two:∀(a b:Nat) da db,s.Drinkers[a]?=some da→s.Drinkers[b]?=some db→(b:Int)∈Zqc g a→∀k,(k=3∨k=4)→hasT da.Diner k b+hasT db.Diner k a+cnt s.Mail k a b+cnt s.Mail k b a=1
theorem Zxk {s:Bar} {a:Nat} {d:Drinker} (h:s.Drinkers[a]?=some d):(Zwk s).Diners[a]?=some d.Diner:=by
 show (s.Drinkers.map (·.Diner))[a]?=_
 rw [List.getElem?_map,h];rfl
theorem InvB.upd {g:Graph} {s:Bar} (hg:okG g=true) (h:InvB g s) {a:Nat} {d d':Drinker} (hd:s.Drinkers[a]?=some d) {M:List Mail} (ht:Inv g ⟨(Zwk s).Diners.set a d'.Diner,M.filter k12⟩) (hm:∀m∈M,mailR g m) (hl:LocT d')
  (ho:∀k p q:Int,(k=3∨k=4)→p≠a→q≠a→cnt M k p q=cnt s.Mail k p q) (hc:∀b∈Zqc g a,∀k,(k=3∨k=4)→hasT d'.Diner k b+cnt M k a b+cnt M k b a=hasT d.Diner k b+cnt s.Mail k a b+cnt s.Mail k b a):InvB g ⟨s.Drinkers.set a d',M⟩:=by
 have hlt:=(List.getElem?_eq_some_iff.1 hd).1
 have get:∀(k:Nat) e,(s.Drinkers.set a d')[k]?=some e→(k=a∧e=d')∨(k≠a∧s.Drinkers[k]?=some e):=fun k e he=>by
  rw [List.getElem?_set] at he
  split at he
  ·rename_i hk
   simp at he
   exact .inl ⟨hk.symm,he.symm⟩
  ·rename_i hk
   exact .inr ⟨fun e=>hk e.symm,he⟩
 refine ⟨?_,hm,fun e he=>?_,fun x y dx dy hx hy hxy k hk=>?_⟩
 ·have e:Zwk ⟨s.Drinkers.set a d',M⟩=⟨(Zwk s).Diners.set a d'.Diner,M.filter k12⟩:=by
   unfold Zwk
   simp only [List.map_set]
  rw [e];exact ht
 ·obtain ⟨k,hk⟩:=List.mem_iff_getElem?.1 he
  rcases get k e hk with ⟨_,rfl⟩ | ⟨_,he⟩
  ·exact hl
  ·exact h.th e (List.mem_iff_getElem?.2 ⟨_,he⟩)
 ·dsimp only at hx hy ⊢
  have hne:=(Zwc hg hxy).2.2.1
  have hyx:=Ztd hg hxy
  rcases get x dx hx with ⟨rfl,rfl⟩ | ⟨x1,hx'⟩<;>rcases get y dy hy with ⟨rfl,rfl⟩ | ⟨y1,hy'⟩
  ·exact absurd rfl hne
  ·have:=hc y hxy k hk
   have:=h.two x y d dy hd hy' hxy k hk
   omega
  ·have:=hc x hyx k hk
   have:=h.two x y dx d hx' hd hxy k hk
   omega
  ·rw [ho k x y hk (by omega) (by omega),ho k y x hk (by omega) (by omega)]
   exact h.two x y dx dy hx' hy' hxy k hk
theorem Zyk {id th:Int} {nd:Bool} {x:Side} {m:Mail} (h:m∈Zee id nd th x):m.From=id∧m.To=x.Peer∧(m.Msg.Kind=3∨m.Msg.Kind=4)∧m.Msg.Epoch=x.Epoch∧m.Msg.Num=0:=by
 unfold Zee at h
 rw [List.mem_append] at h
 rcases h with h | h
 ·split at h
  ·simp at h;subst h;exact ⟨rfl,rfl,.inl rfl,rfl,rfl⟩
  ·simp at h
 ·split at h
  ·simp at h;subst h;exact ⟨rfl,rfl,.inr rfl,rfl,rfl⟩
  ·simp at h
theorem bot_side (id th k:Int) (nd:Bool) (x:Side) (hk:k=3∨k=4) (he:x.Epoch=1):bn (Zok (Zde nd th x) k)+(Zee id nd th x).count ⟨id,x.Peer,⟨k,1,0⟩⟩=bn (Zok x k):=by
 obtain ⟨p,e,st,f,d,t,bo,ask⟩:=x
 dsimp only at he
 subst he
 unfold Zee Zde Zce Zbe Zok bn
 generalize h1:decide (th=1)=q1
 generalize h2:decide (th=2)=q2
 rcases hk with rfl | rfl<;>cases bo<;>cases ask<;>cases nd<;>cases q1<;>cases q2<;>cases f<;>simp
theorem Zzk (id th k b:Int) (nd:Side→Bool):∀(l:List Side),l.Pairwise (fun x y=>x.Peer<y.Peer)→(l.flatMap fun x=>Zee id (nd x) th x).count ⟨id,b,⟨k,1,0⟩⟩=match l.find? (fun x=>decide (x.Peer=b)) with | some x=>(Zee id (nd x) th x).count ⟨id,x.Peer,⟨k,1,0⟩⟩ | none=>0
 | [],_=>rfl
 | x::l,h=>by
   rw [List.pairwise_cons] at h
   rw [List.flatMap_cons,List.count_append,Zzk id th k b nd l h.2,List.find?_cons]
   by_cases hx:x.Peer=b
   ·have:l.find? (fun x=>decide (x.Peer=b))=none:=by
     rw [List.find?_eq_none]
     intro y hy
     have:=h.1 y hy
     simp;omega
    rw [this,decide_eq_true hx,←hx];simp
   ·rw [decide_eq_false hx,Z0e (fun hm=>hx (Zyk hm).2.1.symm)];simp
theorem Z0l (d:Diner) (x:Side) (k:Int):Zok (Z3e d x) k=Zok x k:=by
 have h2:(Zc9 d.Phase x).Bottle=x.Bottle∧(Zc9 d.Phase x).Ask=x.Ask:=by
  unfold Zc9 Zb9
  split<;>split<;>exact ⟨rfl,rfl⟩
 have h3:(Z3e d x).Bottle=x.Bottle∧(Z3e d x).Ask=x.Ask:=by
  unfold Z3e
  split
  ·exact h2
  ·exact h2
 unfold Zok
 rw [h3.1,h3.2]
theorem hasD_bot {d:Diner} {p:Int} {f:Side→Side} (hf:∀x,(f x).Peer=x.Peer∧(f x).Fork=x.Fork∧(f x).Token=x.Token) (k b:Int):hasD ⟨d.ID,p,d.Sides.map f⟩ k b=hasD d k b:=by
 unfold hasD
 rw [Z7e d f (fun x=>(hf x).1)]
 cases Zw7 d b with
 | none=>rfl
 | some x=>
   simp only [Option.map_some]
   unfold has
   rw [(hf x).2.1,(hf x).2.2]
theorem Z1l {α:Type} {l:List α} {a:Nat} {x:α} (h:l[a]?=some x):l.set a x=l:=by
 refine List.ext_getElem? fun k=>?_
 rw [List.getElem?_set]
 split
 ·rename_i e;subst e
  have:=(List.getElem?_eq_some_iff.1 h).1
  rw [if_pos this,h]
 ·rfl
theorem Inv.map {g:Graph} {s:Scene} (hg:okG g=true) (h:Inv g s) {a:Nat} {d:Diner} (hd:s.Diners[a]?=some d) {f:Side→Side} (hf:∀x,(f x).Peer=x.Peer∧(f x).Epoch=x.Epoch∧(f x).State=x.State∧(f x).Fork=x.Fork∧(f x).Dirty=x.Dirty∧(f x).Token=x.Token):
  Inv g ⟨s.Diners.set a ⟨d.ID,d.Phase,d.Sides.map f⟩,s.Mail⟩:=by
 have hl:=h.loc d (List.mem_iff_getElem?.2 ⟨_,hd⟩)
 refine h.set (d':=⟨d.ID,d.Phase,d.Sides.map f⟩) hg hd rfl ?_ ⟨hl.lo,hl.hi,fun y hy=>?_,fun e y hy=>?_⟩ h.mail (fun _ _ _ _ _=>rfl) (fun b _ k _=>?_)
 ·rw [List.map_map]
  exact List.map_congr_left fun x _=>(hf x).1
 ·obtain ⟨x,hx,rfl⟩:=List.mem_map.1 hy
  obtain ⟨p1,p2,p3,p4,p5,p6⟩:=hf x
  rw [p2,p3,p4,p5]
  exact hl.side x hx
 ·obtain ⟨x,hx,rfl⟩:=List.mem_map.1 hy
  obtain ⟨p1,p2,p3,p4,p5,p6⟩:=hf x
  rw [p4,p5]
  exact hl.eat e x hx
 ·rw [hasD_bot fun x=>⟨(hf x).1,(hf x).2.2.2.1,(hf x).2.2.2.2.2⟩]
theorem phaseDr_or (d:Drinker):Zge d=d.Diner.Phase∨Zge d=0∨Zge d=1:=by
 unfold Zge
 split
 ·exact .inr (.inr rfl)
 ·split
  ·exact .inr (.inl rfl)
  ·exact .inl rfl
theorem onceM_k12 (d:Drinker) (M:List Mail):(M++Zle d).filter k12=M.filter k12++Zg9 (Zhe d):=by
 unfold Zle
 rw [List.filter_append,List.filter_append]
 have h1:(Zg9 (Zhe d)).filter k12=Zg9 (Zhe d):=by
  rw [List.filter_eq_self]
  intro m hm
  obtain ⟨x,_,hx⟩:=List.mem_flatMap.1 hm
  have:=(Zzd hx).2.2.1
  unfold k12
  exact decide_eq_true (by omega)
 have h2:((Zf9 (Zhe d)).Sides.flatMap fun x=>Zee d.Diner.ID (Zae d x) d.Thirst x).filter k12=[]:=by
  rw [List.filter_eq_nil_iff]
  intro m hm
  obtain ⟨x,_,hx⟩:=List.mem_flatMap.1 hm
  have:=(Zyk hx).2.2.1
  unfold k12
  simp;omega
 rw [h1,h2,List.append_nil]
theorem InvB.once {g:Graph} {s:Bar} (hg:okG g=true) (h:InvB g s) {a:Nat} {d:Drinker} (hd:s.Drinkers[a]?=some d):InvB g ⟨s.Drinkers.set a (Zke d),s.Mail++Zle d⟩:=by
 have hdt:=Zxk hd
 obtain ⟨hid,hsh⟩:=h.tab.shp a _ hdt
 have hdm:d∈s.Drinkers:=List.mem_iff_getElem?.2 ⟨_,hd⟩
 have hT:=h.th d hdm
 have hloc:=h.tab.loc _ (List.mem_iff_getElem?.2 ⟨_,hdt⟩)
 have h1:Inv g ⟨(Zwk s).Diners.set a (Zhe d),(Zwk s).Mail⟩:=by
  rcases phaseDr_or d with e | e | e
  ·have:Zhe d=d.Diner:=by unfold Zhe;rw [e]
   rw [this,Z1l hdt];exact h.tab
  ·exact h.tab.phase hg hdt (p:=Zge d) (by omega) (by omega)
  ·exact h.tab.phase hg hdt (p:=Zge d) (by omega) (by omega)
 have hd1:((Zwk s).Diners.set a (Zhe d))[a]?=some (Zhe d):=Zyg hdt
 have hpw1:=h1.pw hg hd1
 have h2:=h1.fire hg hd1
 dsimp only at h2
 rw [List.set_set] at h2
 have hd2:((Zwk s).Diners.set a (Zf9 (Zhe d)))[a]?=some (Zf9 (Zhe d)):=Zyg hdt
 have hpw2:=h2.pw hg hd2
 have h3:=h2.map hg hd2 (f:=fun x=>Zde (Zae d x) d.Thirst x) (fun x=>Zfe _ _ x)
 dsimp only at h3
 rw [List.set_set,Z5e] at h3
 have hsm:∀m∈Zle d,m.From=a∧m.To∈Zqc g a∧(1≤m.Msg.Kind∧m.Msg.Kind≤4)∧m.Msg.Epoch=1∧m.Msg.Num=0:=fun m hm=>by
  unfold Zle at hm
  rcases List.mem_append.1 hm with hm | hm
  ·obtain ⟨x,hx,hxm⟩:=List.mem_flatMap.1 hm
   obtain ⟨m1,m2,m3,m4,m5⟩:=Zzd hxm
   refine ⟨m1.trans hid,?_,by omega,by rw [m4];exact (hloc.side x hx).1,m5⟩
   rw [m2,←hsh]
   exact List.mem_map_of_mem hx
  ·obtain ⟨x,hx,hxm⟩:=List.mem_flatMap.1 hm
   obtain ⟨m1,m2,m3,m4,m5⟩:=Zyk hxm
   rw [Z4e] at hx
   obtain ⟨y,hy,rfl⟩:=List.mem_map.1 hx
   obtain ⟨p1,p2,_⟩:=Z6e (Zhe d) y
   refine ⟨m1.trans hid,?_,by omega,by rw [m4,p2];exact (hloc.side y hy).1,m5⟩
   rw [m2,p1,←hsh]
   exact List.mem_map_of_mem hy
 have other:∀(k p q:Int),p≠a→(Zle d).count ⟨p,q,⟨k,1,0⟩⟩=0:=fun k p q hp=>Z0e fun hm=>hp (hsm _ hm).1
 refine h.upd (d':=Zke d) hg hd ?_ (fun m hm=>?_) ?_ (fun k p q _ hp _=>?_) (fun b hb k hk=>?_)
 ·rw [onceM_k12]
  exact h3
 ·rcases List.mem_append.1 hm with hm | hm
  ·exact h.mail m hm
  ·obtain ⟨q1,q2,q3,q4,q5⟩:=hsm m hm
   exact ⟨q3,q4,q5,by rw [q1];exact q2⟩
 ·refine ⟨?_,?_,hT.need,?_,?_,?_⟩
  ·show 0≤Zje d
   unfold Zje;split
   ·omega
   ·exact hT.lo
  ·show Zje d≤2
   unfold Zje;split
   ·omega
   ·exact hT.hi
  ·intro p hp
   show p∈(Zke d).Diner.Sides.map (·.Peer)
   rw [(once_keep d).2.2]
   exact hT.sub p hp
  ·intro e
   refine hT.tr ?_
   have e':Zje d=0:=e
   unfold Zje at e'
   split at e'
   ·omega
   ·exact e'
  ·intro e x hx hn
   have e':Zje d=2:=e
   have hx':x∈Zie d:=hx
   unfold Zje at e'
   split at e'
   ·rename_i hc
    rw [Bool.and_eq_true,List.all_eq_true] at hc
    have:=hc.2 x hx'
    unfold Zae at this
    rw [decide_eq_true (show x.Peer∈d.Need from hn)] at this
    simpa using this
   ·unfold Zie at hx'
    obtain ⟨y,hy,rfl⟩:=List.mem_map.1 hx'
    rw [Z4e] at hy
    obtain ⟨z,hz,rfl⟩:=List.mem_map.1 hy
    have p1:=(Z6e (Zhe d) z).1
    rw [(Zfe _ _ _).1,p1] at hn
    have hb:=hT.dr e' z hz hn
    have hl:=Z0l (Zhe d) z 3
    unfold Zok at hl
    simp at hl
    have hnd:Zae d (Z3e (Zhe d) z)=true:=by unfold Zae;rw [p1];exact decide_eq_true hn
    rw [hnd,e']
    unfold Zde Zce Zbe
    simp [hl,hb]
 ·unfold cnt
  rw [List.count_append,other k p q hp];rfl
 ·have hne:=(Zwc hg hb).2.2.1
  unfold cnt
  rw [List.count_append,List.count_append,other k b a hne]
  have e:=Zzk d.Diner.ID d.Thirst k b (Zae d) (Zf9 (Zhe d)).Sides hpw2
  have e0:(Zg9 (Zhe d)).count ⟨(a:Int),b,⟨k,1,0⟩⟩=0:=Z0e fun hm=>by
   obtain ⟨x,_,hx⟩:=List.mem_flatMap.1 hm
   have:=(Zzd hx).2.2.1
   dsimp only at this
   omega
  rw [hid] at e
  unfold Zle
  rw [List.count_append,e0,hid,e]
  unfold hasT
  have es:Zw7 (Zke d).Diner b=(Zw7 (Zf9 (Zhe d)) b).map fun x=>Zde (Zae d x) d.Thirst x:=Z7e (Zf9 (Zhe d)) (fun x=>Zde (Zae d x) d.Thirst x) (fun x=>(Zfe _ _ x).1) _ _ b
  rw [es,Z8e]
  have ef:(Zf9 (Zhe d)).Sides.find? (fun x=>decide (x.Peer=b))=(Zw7 (Zhe d) b).map (Z3e (Zhe d)):=Z8e (Zhe d) b
  rw [ef]
  have ep:Zw7 (Zhe d) b=Zw7 d.Diner b:=rfl
  rw [ep]
  cases hf:Zw7 d.Diner b with
  | none=>simp
  | some x=>
    have hx:=(Z9e hf).1
    obtain ⟨p1,p2,_⟩:=Z6e (Zhe d) x
    have hbs:=bot_side (a:Int) d.Thirst k (Zae d (Z3e (Zhe d) x)) (Z3e (Zhe d) x) hk (by rw [p2];exact (hloc.side x hx).1)
    rw [Z0l] at hbs
    simp only [Option.map_some]
    omega
theorem InvB.fireN {g:Graph} (hg:okG g=true) (L:List Drinker) (M:List Mail) {a:Nat} (ha:a<L.length):∀(n:Nat) (d:Drinker) (out:List Mail),InvB g ⟨L.set a d,M++out⟩→InvB g ⟨L.set a (NX.fireN n d out).1,M++(NX.fireN n d out).2⟩
 | 0,_,_,h=>h
 | n+1,d,out,h=>by
   unfold NX.fireN
   split
   ·exact h
   ·have hd:(L.set a d)[a]?=some d:=by rw [List.getElem?_set];simp [ha]
    have h1:=h.once hg hd
    dsimp only at h1
    rw [List.set_set,List.append_assoc] at h1
    exact InvB.fireN hg L M ha n _ _ h1
theorem InvB.fireDr {g:Graph} {s:Bar} (hg:okG g=true) (h:InvB g s) {a:Nat} {d:Drinker} (hd:s.Drinkers[a]?=some d):InvB g ⟨s.Drinkers.set a (NX.fireDr d).1,s.Mail++(NX.fireDr d).2⟩:=by
 refine InvB.fireN hg s.Drinkers s.Mail (List.getElem?_eq_some_iff.1 hd).1 300 d [] ?_
 rw [Z1l hd,List.append_nil];exact h
theorem Z2l {zs:List Int} (h:zs.Pairwise (· ≤ ·)):(Lib.compact zs).Pairwise (· < ·)∧∀x,x∈Lib.compact zs↔x∈zs:=by
 have get:∀j,j<zs.length→∃hj:j<zs.length,zs.toArray[j]! = zs[j]:=fun j hj=>⟨hj,by rw [getElem!_pos _ _ (by simpa using hj)];simp⟩
 have mono:∀i j,i≤j→j<zs.length→zs.toArray[i]!≤zs.toArray[j]!:=fun i j hij hj=>by
  obtain ⟨_,e1⟩:=get i (by omega)
  obtain ⟨_,e2⟩:=get j hj
  rw [e1,e2]
  by_cases e:i=j
  ·subst e;exact Int.le_refl _
  ·rw [List.pairwise_iff_getElem] at h
   exact h i j (by omega) hj (by omega)
 have key:∀m,m≤zs.length→(Lib.compactUpTo zs.toArray m).Pairwise (· < ·)∧(∀x,x∈Lib.compactUpTo zs.toArray m↔∃j,j<m∧x=zs.toArray[j]!):=by
  intro m
  induction m with
  | zero=>intro _;exact ⟨by simp [Lib.compactUpTo],fun x=>by simp [Lib.compactUpTo]⟩
  | succ m ih=>
    intro hm
    obtain ⟨h1,h2⟩:=ih (by omega)
    rw [Lib.compactUpTo_succ]
    cases hk:Lib.keeps zs.toArray m with
    | true=>
      rw [if_pos rfl]
      refine ⟨?_,fun x=>?_⟩
      ·rw [List.pairwise_append]
       refine ⟨h1,by simp,fun x hx y hy=>?_⟩
       rw [List.mem_singleton] at hy
       subst hy
       obtain ⟨j,hj,rfl⟩:=(h2 x).1 hx
       unfold Lib.keeps at hk
       simp only [decide_eq_true_eq] at hk
       have a1:=mono j (m-1) (by omega) (by omega)
       have a2:=mono (m-1) m (by omega) (by omega)
       rcases hk with e | e
       ·omega
       ·have:zs.toArray[m]!≠zs.toArray[m-1]!:=e
        omega
      ·rw [List.mem_append,h2]
       constructor
       ·rintro (⟨j,hj,e⟩ | e)
        ·exact ⟨j,by omega,e⟩
        ·simp at e;exact ⟨m,by omega,by simpa using e⟩
       ·rintro ⟨j,hj,e⟩
        by_cases hjm:j=m
        ·subst hjm;right;simp [e]
        ·exact .inl ⟨j,by omega,e⟩
    | false=>
      rw [if_neg (by simp),List.append_nil]
      refine ⟨h1,fun x=>?_⟩
      rw [h2]
      constructor
      ·rintro ⟨j,hj,e⟩;exact ⟨j,by omega,e⟩
      ·rintro ⟨j,hj,e⟩
       by_cases hjm:j=m
       ·subst hjm
        unfold Lib.keeps at hk
        simp only [decide_eq_false_iff_not,not_or,Classical.not_not] at hk
        exact ⟨j-1,by omega,by rw [e,hk.2]⟩
       ·exact ⟨j,by omega,e⟩
 obtain ⟨k1,k2⟩:=key zs.length (Nat.le_refl _)
 refine ⟨k1,fun x=>?_⟩
 have:=k2 x
 unfold Lib.compact
 rw [this]
 constructor
 ·rintro ⟨j,hj,e⟩
  obtain ⟨_,e1⟩:=get j hj
  rw [e,e1];exact List.getElem_mem hj
 ·intro hx
  obtain ⟨j,hj,e⟩:=List.mem_iff_getElem.1 hx
  obtain ⟨_,e1⟩:=get j hj
  exact ⟨j,hj,by rw [e1,e]⟩
theorem Z3l (l:List Int):(Ztc l).Pairwise (· < ·)∧∀x,x∈Ztc l↔x∈l:=by
 have hs:(l.mergeSort fun x y=>decide (x≤y)).Pairwise (· ≤ ·):=by
  have:=List.pairwise_mergeSort (le:=fun x y:Int=>decide (x≤y)) (by intro a b c;simp;omega) (by intro a b;simp;omega) l
  exact this.imp fun h=>by simpa using h
 obtain ⟨h1,h2⟩:=Z2l hs
 refine ⟨h1,fun x=>?_⟩
 unfold Ztc
 rw [h2]
 exact (List.mergeSort_perm l _).mem_iff
theorem okI_of:∀(l:List Int) (p:Option Int),l.Pairwise (· < ·)→(∀q,p=some q→∀x∈l,q<x)→okI p l=true
 | [],_,_,_=>rfl
 | x::l,p,h,hp=>by
   rw [List.pairwise_cons] at h
   have ih:=okI_of l (some x) h.2 fun q hq y hy=>by simp at hq;subst hq;exact h.1 y hy
   unfold okI
   rw [ih,Bool.and_true]
   cases p with
   | none=>rfl
   | some q=>exact decide_eq_true (hp q rfl x (by simp))
theorem InvB.few {g:Graph} {s:Bar} (hg:okG g=true) (h:InvB g s):s.Drinkers.length≤64∧∀d∈s.Drinkers,d.Diner.Sides.length≤64∧d.Need.length≤64:=by
 have hl:=h.tab.len
 have h2:=(Ze7 hg).2.1
 have e:(Zwk s).Diners.length=s.Drinkers.length:=by simp [Zwk]
 refine ⟨by omega,fun d hd=>?_⟩
 obtain ⟨k,hk⟩:=List.mem_iff_getElem?.1 hd
 obtain ⟨_,hsh⟩:=h.tab.shp k _ (Zxk hk)
 have hfew:=near_few hg (k:Int)
 have hT:=h.th d hd
 have hsl:d.Diner.Sides.length=(Zqc g k).length:=by rw [←hsh];simp
 refine ⟨by omega,?_⟩
 have hb:∀p∈d.Need,0≤p∧p<g.N:=fun p hp=>by
  have:=hT.sub p hp
  rw [hsh] at this
  have:=Zwc hg this
  omega
 rcases pw_len d.Need 0 g.N hT.need hb with e | e
 ·rw [e];simp
 ·omega
theorem InvB.fewL {g:Graph} {s:Bar} (hg:okG g=true) (h:InvB g s):NX.fewL s.Drinkers:=by
 obtain ⟨h1,h2⟩:=h.few hg
 exact ⟨by omega,fun d hd=>by have:=h2 d hd;omega⟩
theorem InvB.okDr {g:Graph} {s:Bar} (hg:okG g=true) (hN:g.N≤60) (h:InvB g s) {d:Drinker} (hd:d∈s.Drinkers):NX.okDr d=true:=by
 obtain ⟨k,hk⟩:=List.mem_iff_getElem?.1 hd
 have hT:=h.th d hd
 have hD:=h.tab.okd hg hN (List.mem_iff_getElem?.2 ⟨_,Zxk hk⟩)
 unfold NX.okDr
 rw [hD,decide_eq_true hT.lo,decide_eq_true hT.hi,okI_of d.Need none hT.need (fun q hq=>by simp at hq),Bool.true_and,Bool.true_and,Bool.true_and,Bool.true_and,Bool.and_eq_true,List.all_eq_true]
 refine ⟨?_,fun p hp=>?_⟩
 ·by_cases h0:d.Thirst=0
  ·rw [hT.tr h0];simp
  ·rw [decide_eq_false h0];rfl
 ·unfold Z9f
  rw [List.any_eq_true]
  obtain ⟨x,hx,e⟩:=List.mem_map.1 (hT.sub p hp)
  exact ⟨x,hx,decide_eq_true e⟩
theorem InvB.ok {g:Graph} {s:Bar} (hg:okG g=true) (hN:g.N≤60) (h:InvB g s):Z8k s=true:=by
 unfold Z8k okS
 have e1:Zb8 (scB s).Diners=(g,true):=show Zb8 (Zwk s).Diners=(g,true) from h.tab.graph hg
 have hl:((scB s).Diners.length:Int)=g.N:=show ((Zwk s).Diners.length:Int)=g.N from h.tab.len
 rw [e1,Bool.true_and,Bool.and_eq_true,Bool.and_eq_true,List.all_eq_true,List.all_eq_true,List.all_eq_true]
 refine ⟨⟨fun d hd=>h.tab.okd hg hN hd,fun m hm=>?_⟩,fun d hd=>h.okDr hg hN hd⟩
 obtain ⟨n1,n2,n3,n4,n5⟩:=Zwc hg (h.mail m hm).2.2.2
 unfold Zjg
 rw [decide_eq_false (by omega),decide_eq_false (by omega),decide_eq_false (by omega)];rfl
theorem InvB.first {g:Graph} (hg:okG g=true):InvB g (barT g):=by
 have hr:=(Zug hg).1
 have e0:Zwk (barT g)=Zvg g:=by
  unfold Zwk barT
  rw [List.map_map]
  have:((fun d:Drinker=>d.Diner)∘fun d:Diner=>(⟨d,0,[]⟩:Drinker))=id:=rfl
  rw [this,List.map_id]
  rfl
 refine ⟨by rw [e0];exact Inv.first hg,by intro m hm;exact absurd hm (by simp [barT]),fun d hd=>?_,fun a b da db ha hb hab k hk=>?_⟩
 ·obtain ⟨e,he,rfl⟩:=List.mem_map.1 hd
  exact ⟨Int.le_refl _,by show (0:Int)≤2;omega,by simp,by simp,fun _=>rfl,fun e=>absurd e (by show ¬(0:Int)=2;omega)⟩
 ·have get:∀(k:Nat) d,(barT g).Drinkers[k]?=some d→d=⟨Zyc g (Ztg g) k,0,[]⟩:=fun k d hd=>by
   have h1:=Zxk hd
   rw [e0] at h1
   have hk:=(List.getElem?_eq_some_iff.1 h1).1
   have hl:=Zrd hg (Ztg g)
   have hk':k<(Zzc g (Ztg g)).length:=hk
   have e:=Zqd (g:=g) (c:=Ztg g) (a:=(k:Int)) (by omega) (by omega)
   rw [Int.toNat_natCast] at e
   have hd2:(Zvg g).Diners[k]?=some (Zyc g (Ztg g) k):=e
   have h3:(barT g).Drinkers[k]?=((Zvg g).Diners.map fun d=>(⟨d,0,[]⟩:Drinker))[k]?:=rfl
   rw [h3,List.getElem?_map,hd2] at hd
   simpa using hd.symm
  have:=get a da ha
  subst this
  have:=get b db hb
  subst this
  have hne:=Z1d hg hr hab
  have hba:=Ztd hg hab
  unfold hasT
  rw [Zsd,if_pos hab,Zsd,if_pos hba]
  have hlt:decide (cg (Ztg g) a<cg (Ztg g) b)=!decide (cg (Ztg g) b<cg (Ztg g) a):=by
   rw [←decide_not,decide_eq_decide];omega
  have e1:∀p q:Int,cnt (barT g).Mail k p q=0:=fun _ _=>rfl
  rw [e1,e1]
  simp only [Zxc,Zok,hlt,bn]
  by_cases hh:cg (Ztg g) b<cg (Ztg g) a<;>rcases hk with rfl | rfl<;>simp [hh]
end NX
end Go.Proofs.YtacfbmldajmjiaaGreat
