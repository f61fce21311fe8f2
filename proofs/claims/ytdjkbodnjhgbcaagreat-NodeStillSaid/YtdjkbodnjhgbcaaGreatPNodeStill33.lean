/-
  Plain laws: what is done with a node. No statement of the seat is proved here.
-/
import Derived.Test.YtdjkbodnjhgbcaaGreatRows
import Derived.Test.YtdjkbodnjhgbcaaGreatPNodeStill32
set_option maxRecDepth 100000
set_option maxHeartbeats 4000000
namespace Go.Proofs.YtdjkbodnjhgbcaaGreat
namespace NX
open Go
def Z3u:Node:=⟨⟨⟨0,0,[]⟩,0,[]⟩,⟨0,[]⟩,[],[],[]⟩
def Z4u (e:Int) (m:Node) (V:List Event):Node×List Mail×List Event×Int:=
 if e=0 then ((Z5t m [] V).1,(Z5t m [] V).2.1,(Z5t m [] V).2.2,0) else (Z3u,[],[],e)
def addS (n:Node) (p:Int):Side:=⟨p,Zrq n.KN p+1,1,true,true,false,true,false⟩
def Z5u (n:Node) (a:Do):Int×Node×List Event:=
 if a.Kind=0∨a.Kind=1∨a.Kind=2∨a.Kind=3 then Zwt n a
 else if a.Kind=4 then
  (if n.DK.DI.ID<a.Peer∧a.Peer<64 then (match Zrt n.DK.DI.SD a.Peer with
    | some _=>(183,n,[])
    | none=>if Zrq n.KN a.Peer<65535 then (0,putN n (addS n a.Peer) n.AK,[]) else (186,n,[])) else (182,n,[]))
 else if a.Kind=5 then
  (if n.DK.DI.ID<a.Peer∧a.Peer<64 then (match Zrt n.DK.DI.SD a.Peer with
    | none=>(184,n,[])
    | some j=>match n.DK.DI.SD[j]? with
      | none=>(184,n,[])
      | some x=>if x.State=0 then (0,Zzt n j x,Z1u n a.Peer) else (185,n,[])) else (182,n,[]))
 else (188,n,[])
theorem Z6u (m:Node) (V:List Event) (e:Int) (x3:List Side×List Int×List KE×List Int×List KE×List Sess) (hT:x3.2.2.2.1=m.Told) (hA:x3.2.2.2.2.1=m.AK) (h:e=0→OkN m) (hV:V.length≤100000):
  Z9l x3 (m.DK.DI.ID,m.DK.DI.PH,m.DK.TH,m.Book.Last,m.Book.Sess,e,m.DK.DI.SD,m.DK.Need,m.KN,V)=some (Z4u e m V):=by
 dsimp only [Z9l]
 rw [hT,hA]
 unfold Z4u
 by_cases he:e=0
 ·subst he
  rw [Z9t m (h rfl) V hV,OB,if_pos rfl]
  rfl
 ·rw [Zat _ _ _ _ e _ he,OB,if_neg he]
  rfl
theorem OkN.book {n:Node} (h:OkN n) {b:Book} (hb:BkOK b) (hg:n.DK.TH=2↔∃s l,b.Sess=s::l∧s.State=1) (hq:n.DK.TH=0∨∃s l,b.Sess=s::l∧s.Need=n.DK.Need)
  (hw:∀s∈b.Sess,s.State=0→∀p∈s.Need,∃x∈n.DK.DI.SD,x.State=0∧x.Peer=p):OkN (bookN n b):=
 {h with bk:=(Zbs _).2 hb,th:=by rw [Zns];exact hg,hq:=by rw [Zms];exact hq,wt:=hw}
theorem OkN.calm {n:Node} (h:OkN n) {b:Book} (hb:BkOK b) (h0:∀s∈b.Sess,s.State=0) (hw:∀s∈b.Sess,s.State=0→∀p∈s.Need,∃x∈n.DK.DI.SD,x.State=0∧x.Peer=p):OkN (calmN n b):=
 {h with
  dr:=⟨h.dr.din,by show (0:Int)≤0;omega,by show (0:Int)≤2;omega,.nil,fun _=>rfl,fun p hp=>by have:p∈([]:List Int):=hp;simp at this⟩
  bk:=(Zbs _).2 hb
  th:=by
   rw [Zns]
   constructor
   ·intro e;have:(0:Int)=2:=e;omega
   ·rintro ⟨s,l,e,hs⟩
    have e:b.Sess=s::l:=e
    have:=h0 s (by rw [e];simp)
    omega
  hq:=.inl rfl
  nl:=fun x _ hx=>by have:x.Peer∈([]:List Int):=hx;simp at this
  wt:=hw}
theorem endP_ok {b:Book} {id w:Int} (h:(endP b id w).2=0):∃i s,b.Sess[i]?=some s∧s.ID=id∧s.State=w∧(endP b id w).1=⟨b.Last,b.Sess.take i++b.Sess.drop (i+1)⟩:=by
 unfold endP at h ⊢
 split at h
 ·rename_i hk
  rw [if_pos hk]
  cases hf:Zdp b id with
  | none=>rw [hf] at h;simp at h
  | some i=>
    obtain ⟨s,hs,h6⟩:=findB_lt hf
    rw [hf] at h
    dsimp only at h ⊢
    rw [hs] at h
    dsimp only at h
    rw [hs]
    split at h
    ·rename_i hw;exact ⟨i,s,hs,h6,hw,by dsimp only;rw [if_pos hw]⟩
    ·simp at h
 ·simp at h
theorem cut_mem {α:Type} {l:List α} {i:Nat} {x:α} (h:x∈l.take i++l.drop (i+1)):x∈l:=(cut_sub l i).subset h
structure EvOK (id:Int) (v:Event):Prop where
 node:v.Node=id
 edge:6≤v.Kind→v.ID=0
 sess:v.Kind<6→v.Peer=0
 need:v.Kind≠0→v.Need=[]
theorem sessN_ok {n:Node} {a:Do} (h:OkN n) (he:(Zwt n a).1=0):OkN (Zwt n a).2.1∧(Zwt n a).2.1.DK.DI=n.DK.DI∧(Zwt n a).2.1.Told=n.Told∧(Zwt n a).2.1.AK=n.AK∧(Zwt n a).2.1.KN=n.KN∧(∀v∈(Zwt n a).2.2,EvOK n.DK.DI.ID v∧v.Kind≠1)∧(Zwt n a).2.2.length≤1:=by
 have h6:=(Zbs _).1 h.bk
 have hf:n.DK.TH≠2→∀s∈n.Book.Sess,s.State=0:=fun h2 s hs=>by
  cases hb:n.Book.Sess with
  | nil=>rw [hb] at hs;simp at hs
  | cons t r=>
    have h8:=h6.tl
    rw [hb] at h8 hs
    rcases List.mem_cons.1 hs with rfl | hs
    ·rcases head_or h6 hb with e | e
     ·exact absurd (h.th.2 ((Zns n).2 ⟨s,r,hb,e⟩)) h2
     ·exact e
    ·exact h8 s hs
 revert he
 unfold Zwt
 split
 ·split
  ·rename_i k0 e0
   split
   ·rename_i hw
    intro _
    refine ⟨?_,rfl,rfl,rfl,rfl,?_,by simp⟩
    ·have hC:n.Book.Last<a.ID∧Z5p (Zwo a.Need)=true∧n.Book.Sess.length≠8∧openP n.Book a.ID a.Need=(⟨a.ID,n.Book.Sess++[⟨a.ID,Zwo a.Need,0,0⟩]⟩,0):=by
      unfold openP at e0 ⊢
      rw [if_pos h.bk] at e0 ⊢
      by_cases c1:a.ID≤n.Book.Last
      ·rw [if_pos c1] at e0;simp at e0
      ·rw [if_neg c1] at e0 ⊢
       cases c2:Z5p (Zwo a.Need) with
       | false=>rw [c2] at e0;simp at e0
       | true=>
         rw [c2,if_pos rfl] at e0
         rw [if_pos rfl]
         by_cases c3:n.Book.Sess.length=8
         ·rw [if_pos c3] at e0;simp at e0
         ·rw [if_neg c3];exact ⟨by omega,rfl,c3,rfl⟩
     obtain ⟨o1,o2,o3,o4⟩:=hC
     have ho:=Z1p a.Need
     have hI:=h6.last
     have hJ:=h6.len
     rw [o4]
     refine h.book ⟨by show 0≤a.ID;omega,by show (n.Book.Sess++[_]).length≤8;rw [Zho];omega,?_,fun s hs=>?_,fun s hs=>?_⟩ ?_ ?_ fun s hs hD p hp=>?_
     ·show (n.Book.Sess++[_]).Pairwise _
      rw [List.pairwise_append]
      refine ⟨h6.up,by simp,fun s hs t ht=>?_⟩
      simp at ht;subst ht
      have:=(h6.ok s hs).hi
      show s.ID<a.ID;omega
     ·have hs:s∈n.Book.Sess++[⟨a.ID,Zwo a.Need,0,0⟩]:=hs
      rcases List.mem_append.1 hs with hs | hs
      ·have:=h6.ok s hs
       exact {this with hi:=by have:=this.hi;show s.ID≤a.ID;omega}
      ·simp at hs;subst hs
       exact ⟨by show 0<a.ID;omega,by show a.ID≤a.ID;omega,o2,ho.1,by show (0:Int)≤0;omega,.inr ⟨rfl,rfl⟩⟩
     ·have hs:s∈(n.Book.Sess++[(⟨a.ID,Zwo a.Need,0,0⟩:Sess)]).tail:=hs
      cases hb:n.Book.Sess with
      | nil=>rw [hb] at hs;simp at hs
      | cons t r=>
        have h8:=h6.tl
        rw [hb] at h8 hs
        have hs:s∈r++[⟨a.ID,Zwo a.Need,0,0⟩]:=hs
        rcases List.mem_append.1 hs with hs | hs
        ·exact h8 s hs
        ·simp at hs;subst hs;rfl
     ·rw [h.th,Zns]
      show (∃s l,n.Book.Sess=s::l∧s.State=1)↔∃s l,n.Book.Sess++[⟨a.ID,Zwo a.Need,0,0⟩]=s::l∧s.State=1
      cases hb:n.Book.Sess with
      | nil=>simp
      | cons t r=>simp
     ·rcases h.hq with q | q
      ·exact .inl q
      ·right
       obtain ⟨s,l,hb,hn⟩:=(Zms n).1 q
       exact ⟨s,l++[⟨a.ID,Zwo a.Need,0,0⟩],by show n.Book.Sess++_=_;rw [hb];rfl,hn⟩
     ·have hs:s∈n.Book.Sess++[⟨a.ID,Zwo a.Need,0,0⟩]:=hs
      rcases List.mem_append.1 hs with hs | hs
      ·exact h.wt s hs hD p hp
      ·simp at hs;subst hs
       have:=List.all_eq_true.1 hw p ((ho.2 p).1 hp)
       rw [decide_eq_true_eq,Z9s] at this
       obtain ⟨x,hx,hl,e⟩:=this
       exact ⟨x,hx,by simpa [Zoq] using hl,e⟩
    ·intro v hv;simp at hv;subst hv
     exact ⟨⟨rfl,fun q=>by have q:(6:Int)≤0:=q;omega,fun _=>rfl,fun q=>absurd rfl q⟩,by show (0:Int)≠1;omega⟩
   ·intro he;simp at he
  ·rename_i e0;exact fun he=>absurd he e0
 ·split
  ·split
   ·rename_i e0
    intro _
    obtain ⟨i,s,hs,hA,hE,eb⟩:=endP_ok e0
    refine ⟨?_,rfl,rfl,rfl,rfl,?_,by simp⟩
    ·rw [eb]
     have hz:∀t∈n.Book.Sess.take i++n.Book.Sess.drop (i+1),t.State=0:=by
      intro t ht
      cases hb:n.Book.Sess with
      | nil=>rw [hb] at hs;simp at hs
      | cons u r=>
        have h8:=h6.tl
        rw [hb] at h8 hs ht
        cases i with
        | zero=>exact h8 t (by simpa using ht)
        | succ i=>
          have:s∈r:=List.mem_of_getElem? (by simpa using hs)
          have:=h8 s this
          omega
     exact h.calm (h6.sub (cut_sub _ _)) hz fun t ht h0 p hp=>h.wt t (cut_mem ht) h0 p hp
    ·intro v hv;simp at hv;subst hv
     exact ⟨⟨rfl,fun q=>by have q:(6:Int)≤2:=q;omega,fun _=>rfl,fun _=>rfl⟩,by show (2:Int)≠1;omega⟩
   ·rename_i e0;exact fun he=>absurd he e0
  ·split
   ·split
    ·rename_i e0
     intro _
     obtain ⟨i,s,hs,hA,hE,eb⟩:=endP_ok e0
     have hB:∀v∈ [(⟨3,n.DK.DI.ID,a.ID,0,[]⟩:Event)],EvOK n.DK.DI.ID v∧v.Kind≠1:=fun v hv=>by
      simp at hv;subst hv
      exact ⟨⟨rfl,fun q=>by have q:(6:Int)≤3:=q;omega,fun _=>rfl,fun _=>rfl⟩,by show (3:Int)≠1;omega⟩
     have hw:∀t∈n.Book.Sess.take i++n.Book.Sess.drop (i+1),t.State=0→∀p∈t.Need,∃x∈n.DK.DI.SD,x.State=0∧x.Peer=p:=fun t ht h0 p hp=>h.wt t (cut_mem ht) h0 p hp
     split
     ·rename_i hc
      refine ⟨?_,rfl,rfl,rfl,rfl,hB,by simp⟩
      rw [eb]
      exact h.calm (h6.sub (cut_sub _ _)) (fun t ht=>hf (by omega) t (cut_mem ht)) hw
     ·rename_i hc
      refine ⟨?_,rfl,rfl,rfl,rfl,hB,by simp⟩
      rw [eb]
      have hd:n.DK.TH≠0→∃t r,n.Book.Sess=t::r∧t.Need=n.DK.Need∧∃r',n.Book.Sess.take i++n.Book.Sess.drop (i+1)=t::r':=fun hz=>by
       obtain ⟨t,r,hb,hn⟩:=(Zms n).1 (by rcases h.hq with q | q;exact absurd q hz;exact q)
       refine ⟨t,r,hb,hn,?_⟩
       cases i with
       | succ i=>rw [hb];exact ⟨_,rfl⟩
       | zero=>
         exfalso
         rw [hb] at hs
         simp at hs;subst hs
         have h0:=h.dr.t0
         have h2:=h.dr.t2
         by_cases e1:n.DK.TH=1
         ·exact hc ⟨by rw [Z2u hb];exact hA,e1⟩
         ·obtain ⟨t',r',hb',hs',_⟩:=h.drinks (by omega)
          rw [hb] at hb';simp only [List.cons.injEq] at hb'
          rw [←hb'.1] at hs';omega
      refine h.book (h6.sub (cut_sub n.Book.Sess i)) ?_ ?_ hw
      ·constructor
       ·intro h2
        obtain ⟨t,r,hb,_,r',e⟩:=hd (by omega)
        obtain ⟨t',r2,hb',hs',_⟩:=h.drinks h2
        rw [hb] at hb';simp only [List.cons.injEq] at hb'
        exact ⟨t,r',e,by rw [hb'.1];exact hs'⟩
       ·rintro ⟨t,r',e,ht⟩
        have hG:t∈n.Book.Sess:=cut_mem (i:=i) (by rw [show n.Book.Sess.take i++n.Book.Sess.drop (i+1)=t::r' from e];simp)
        by_cases h2:n.DK.TH=2
        ·exact h2
        ·have:=hf h2 t hG;omega
      ·by_cases hz:n.DK.TH=0
       ·exact .inl hz
       ·obtain ⟨t,r,hb,hn,r',e⟩:=hd hz
        exact .inr ⟨t,r',e,hn⟩
    ·rename_i e0;exact fun he=>absurd he e0
   ·split
    ·have h9:=h6.tick a.Hold
     split
     ·rename_i e0
      intro _
      refine ⟨?_,rfl,rfl,rfl,rfl,by simp,by simp⟩
      unfold Zlt at e0 h9 ⊢
      cases hb:n.Book.Sess with
      | nil=>exact h
      | cons s l=>
        rw [hb] at e0 h9
        dsimp only at e0 h9 ⊢
        by_cases h1:s.State=1
        ·rw [if_pos h1] at e0 h9 ⊢
         by_cases hh:(Zkt s).Age<a.Hold
         ·rw [if_pos hh] at h9 ⊢
          refine h.book h9 ?_ ?_ fun t ht h0 p hp=>?_
          ·constructor
           ·intro _;exact ⟨Zkt s,l,rfl,h1⟩
           ·intro _;exact h.th.2 ((Zns n).2 ⟨s,l,hb,h1⟩)
          ·rcases h.hq with q | q
           ·exact .inl q
           ·obtain ⟨t,r,hb',hn⟩:=(Zms n).1 q
            rw [hb] at hb';simp only [List.cons.injEq] at hb'
            exact .inr ⟨Zkt s,l,rfl,by rw [←hn,←hb'.1];rfl⟩
          ·have ht:t∈Zkt s::l:=ht
           rcases List.mem_cons.1 ht with rfl | ht
           ·have h0:s.State=0:=h0
            omega
           ·exact h.wt t (by rw [hb];exact List.mem_cons_of_mem _ ht) h0 p hp
         ·rw [if_neg hh] at e0
          have:=(h6.ok s (by rw [hb];simp)).lo
          have e0:s.ID=0:=e0
          omega
        ·rw [if_neg h1];exact h
     ·rename_i e0
      intro _
      refine ⟨?_,rfl,rfl,rfl,rfl,?_,by simp⟩
      ·unfold Zlt at e0 h9 ⊢
       cases hb:n.Book.Sess with
       | nil=>rw [hb] at e0;exact absurd rfl e0
       | cons s l=>
         rw [hb] at e0 h9
         dsimp only at e0 h9 ⊢
         by_cases h1:s.State=1
         ·rw [if_pos h1] at e0 h9 ⊢
          by_cases hh:(Zkt s).Age<a.Hold
          ·rw [if_pos hh] at e0;exact absurd rfl e0
          ·rw [if_neg hh] at h9 ⊢
           have h8:=h6.tl
           rw [hb] at h8
           exact h.calm h9 (fun t ht=>h8 t ht) fun t ht h0 p hp=>h.wt t (by rw [hb];exact List.mem_cons_of_mem _ ht) h0 p hp
         ·rw [if_neg h1] at e0;exact absurd rfl e0
      ·intro v hv;simp at hv;subst hv
       exact ⟨⟨rfl,fun q=>by have q:(6:Int)≤4:=q;omega,fun _=>rfl,fun _=>rfl⟩,by show (4:Int)≠1;omega⟩
    ·intro _
     exact ⟨h,rfl,rfl,rfl,rfl,by simp,by simp⟩
def Z7u (n:Node):List Side×List Int×List KE×List Int×List KE×List Sess:=(n.DK.DI.SD,n.DK.Need,n.KN,n.Told,n.AK,n.Book.Sess)
def k03 (a:Do):Bool:=decide (a.Kind=0∨a.Kind=1∨a.Kind=2∨a.Kind=3)
theorem act_begin (n:Node) (a:Do) (hf:FewN n):Zel n a=Zdl n a (Z7u n) (if okN n then 0 else 180) (plc (Zrt n.DK.DI.SD a.Peer)) (Zrq n.KN a.Peer) (k03 a):=by
 have hS:=hf.sides
 unfold Zel
 rw [s_own2 n hf,OB,Zzq n hf,OB,s_place _ _ (show _≤_ by dsimp only;omega),OB,s_epoch n hf,OB]
 unfold k03 Z7u
 by_cases c0:a.Kind=0
 ·simp [c0,ifb]
 ·by_cases c1:a.Kind=1
  ·simp [c1,ifb]
  ·by_cases c2:a.Kind=2
   ·simp [c2,ifb]
   ·by_cases c3:a.Kind=3
    ·simp [c3,ifb]
    ·simp [c0,c1,c2,c3,ifb]
theorem s_ActBad (n:Node) (a:Do) (hf:FewN n) (hk:okN n=false):Zel n a=some (Z3u,[],[],180):=by
 have h6:Z9l (Z7u n) (n.DK.DI.ID,n.DK.DI.PH,n.DK.TH,n.Book.Last,n.Book.Sess,180,n.DK.DI.SD,n.DK.Need,n.KN,[])=some (Z3u,[],[],180):=Z6u n [] 180 (Z7u n) rfl rfl (fun e=>by omega) (by simp)
 have hn:∀(is:Bool) (c:Int),Zmt is c 180=180:=fun is c=>Zot is (by omega)
 rw [act_begin n a hf,hk]
 dsimp only [Zdl]
 rw [if_neg (by simp)]
 cases k03 a with
 | true=>exact h6
 | false=>
   rw [Zvn]
   have j3:Zal n a (Z7u n) (plc (Zrt n.DK.DI.SD a.Peer)) (Zrq n.KN a.Peer) 180=some (Z3u,[],[],180):=by
    dsimp only [Zal]
    rw [Znt,OB,hn,Znt,OB,hn]
    exact h6
   have j4:Zcl n a (Z7u n) (plc (Zrt n.DK.DI.SD a.Peer)) 180=some (Z3u,[],[],180):=by
    dsimp only [Zcl]
    rw [Znt,OB,hn]
    exact h6
   have n2:∀(is:Bool),Z2c is 182 n.DK.DI.ID n.DK.DI.PH n.DK.TH n.Book.Last 180 (Z7u n).1 (Z7u n).2.1 (Z7u n).2.2.2.2.2 (Z7u n).2.2.1 (Z7u n).2.2.2.1 (Z7u n).2.2.2.2.1=some (false,180):=fun is=>by rw [Znt,hn];rfl
   have n3:∀c,Z6c c n.DK.DI.ID n.DK.DI.PH n.DK.TH n.Book.Last 180 (Z7u n).1 (Z7u n).2.1 (Z7u n).2.2.2.2.2 (Z7u n).2.2.1 (Z7u n).2.2.2.1 (Z7u n).2.2.2.2.1=some (false,180):=fun c=>by rw [s_need3,hn];rfl
   cases decide (a.Kind=4) with
   | true=>
     rw [Zun,n2,n3,OB,j3]
     cases decide (n.DK.DI.ID<a.Peer)<;>rfl
   | false=>
     rw [Zvn]
     cases decide (a.Kind=5) with
     | true=>
       rw [Zun,n2,n3,OB,j4]
       cases decide (n.DK.DI.ID<a.Peer)<;>rfl
     | false=>
       rw [Zvn,n3,OB]
       exact h6
theorem actN_ok {n:Node} {a:Do} (h:OkN n) (he:(Z5u n a).1=0):OkN (Z5u n a).2.1∧(Z5u n a).2.1.DK.DI.ID=n.DK.DI.ID∧(Z5u n a).2.1.Told=n.Told∧(Z5u n a).2.1.AK=n.AK∧(∀v∈(Z5u n a).2.2,EvOK n.DK.DI.ID v∧v.Kind≠1)∧(Z5u n a).2.2.length≤1000:=by
 revert he
 unfold Z5u
 split
 ·intro he
  obtain ⟨h1,h2,h3,h4,h5,h6,h7⟩:=sessN_ok h he
  exact ⟨h1,by rw [h2],h3,h4,h6,by omega⟩
 ·split
  ·split
   ·rename_i hp
    cases h8:Zrt n.DK.DI.SD a.Peer with
    | some j=>intro he;simp at he
    | none=>
      dsimp only
      split
      ·rename_i hq
       intro _
       have h0:=epoch0 h.kup (fun k hk=>(h.kr k hk).2.2) a.Peer
       have hc:=h.dr.din.id0
       refine ⟨h.put (x:=addS n a.Peer) ⟨by show 0≤a.Peer;omega,hp.2,by show a.Peer≠_;omega⟩ (Ztt h8) ⟨by show 1≤Zrq n.KN a.Peer+1;omega,by show Zrq n.KN a.Peer+1≤65535;omega⟩ (.inr ⟨rfl,by show n.DK.DI.ID≤a.Peer;omega⟩) (fun _=>rfl) (fun k hk=>⟨hk,by have:=h.may k hk;show k.Peer≠a.Peer;omega⟩) h.dis,rfl,rfl,rfl,by simp,by simp⟩
      ·intro he;simp at he
   ·intro he;simp at he
  ·split
   ·split
    ·cases h8:Zrt n.DK.DI.SD a.Peer with
     | none=>intro he;simp at he
     | some j=>
       dsimp only
       obtain ⟨x,hx,hd⟩:=Zst h8
       rw [hx]
       dsimp only
       split
       ·rename_i h0
        intro _
        have hg:=Zjt a.Peer n.Book.Sess
        have hb:=((Zbs _).1 h.bk).len
        have h9:(Zzt n j x).DK.DI.ID=n.DK.DI.ID:=by unfold Zzt;dsimp only;split<;>rfl
        refine ⟨h.shut hx h0,h9,rfl,rfl,fun v hv=>?_,by unfold Z1u Z0u;simp only [List.length_cons,List.length_map];omega⟩
        rcases List.mem_cons.1 hv with rfl | hv
        ·exact ⟨⟨rfl,fun _=>rfl,fun q=>by have q:(7:Int)<6:=q;omega,fun _=>rfl⟩,by show (7:Int)≠1;omega⟩
        ·obtain ⟨i,_,rfl⟩:=List.mem_map.1 hv
         exact ⟨⟨rfl,fun q=>by have q:(6:Int)≤5:=q;omega,fun _=>rfl,fun _=>rfl⟩,by show (5:Int)≠1;omega⟩
       ·intro he;simp at he
    ·intro he;simp at he
   ·intro he;simp at he
theorem s_Act (n:Node) (a:Do) (h:OkN n) (ha:a.Need.length≤1000):Zel n a=some (Z4u (Z5u n a).1 (Z5u n a).2.1 (Z5u n a).2.2):=by
 have hf:=h.few
 have hok:=fun he=>actN_ok (a:=a) h he
 have bad:∀e:Int,e≠0→Z9l (Z7u n) (n.DK.DI.ID,n.DK.DI.PH,n.DK.TH,n.Book.Last,n.Book.Sess,e,n.DK.DI.SD,n.DK.Need,n.KN,[])=some (Z4u e n []):=fun e he=>Z6u n [] e (Z7u n) rfl rfl (fun q=>absurd q he) (by simp)
 have n2:∀(is:Bool) (c e:Int),Z2c is c n.DK.DI.ID n.DK.DI.PH n.DK.TH n.Book.Last e (Z7u n).1 (Z7u n).2.1 (Z7u n).2.2.2.2.2 (Z7u n).2.2.1 (Z7u n).2.2.2.1 (Z7u n).2.2.2.2.1=some (decide (Zmt is c e=0),Zmt is c e):=fun is c e=>Znt _ _ _ _ _ _ _ _ _ _ _ _ _
 have n3:∀c e,Z6c c n.DK.DI.ID n.DK.DI.PH n.DK.TH n.Book.Last e (Z7u n).1 (Z7u n).2.1 (Z7u n).2.2.2.2.2 (Z7u n).2.2.1 (Z7u n).2.2.2.1 (Z7u n).2.2.2.2.1=some (decide (Zmt false c e=0),Zmt false c e):=fun c e=>s_need3 _ _ _ _ _ _ _ _ _ _ _ _
 rw [act_begin n a hf,(Zas n).2 h,if_pos rfl]
 dsimp only [Zdl];unfold k03
 by_cases hk:a.Kind=0∨a.Kind=1∨a.Kind=2∨a.Kind=3
 ·have eA:Z5u n a=Zwt n a:=by unfold Z5u;rw [if_pos hk]
  rw [eA] at hok ⊢
  rw [DT hk,Zun,DT rfl,Zun]
  have hs:=s_sessions n a h ha
  have hs:Z5k a n.DK.DI.ID n.DK.DI.PH n.DK.TH n.Book.Last 0 (Z7u n).1 (Z7u n).2.1 (Z7u n).2.2.2.2.2 (Z7u n).2.2.1 (Z7u n).2.2.2.1 (Z7u n).2.2.2.2.1=_:=hs
  rw [hs,OB]
  by_cases he:(Zwt n a).1=0
  ·obtain ⟨h1,_,h3,h4,h5,h6⟩:=hok he
   obtain ⟨_,_,_,_,q5,_⟩:=sessN_ok h he
   have:=Z6u (Zwt n a).2.1 (Zwt n a).2.2 (Zwt n a).1 (Z7u n) h3.symm h4.symm (fun _=>h1) (by omega)
   rw [q5] at this
   exact this
  ·have e:(Zwt n a).2.1=n∧(Zwt n a).2.2=[]:=by
    revert he
    unfold Zwt
    split
    ·split
     ·split
      ·intro he;exact absurd rfl he
      ·intro _;exact ⟨rfl,rfl⟩
     ·intro _;exact ⟨rfl,rfl⟩
    ·split
     ·split
      ·intro he;exact absurd rfl he
      ·intro _;exact ⟨rfl,rfl⟩
     ·split
      ·split
       ·intro he;exact absurd rfl he
       ·intro _;exact ⟨rfl,rfl⟩
      ·split
       ·split
        ·intro he;exact absurd rfl he
        ·intro he;exact absurd rfl he
       ·intro he;exact absurd rfl he
   have:=bad (Zwt n a).1 he
   rw [e.1,e.2]
   exact this
 ·rw [DN hk,Zvn]
  unfold Z5u
  rw [if_neg hk]
  by_cases k4:a.Kind=4
  ·rw [DT k4,Zun,if_pos k4]
   have j3b:∀e:Int,e≠0→Zal n a (Z7u n) (plc (Zrt n.DK.DI.SD a.Peer)) (Zrq n.KN a.Peer) e=some (Z4u e n []):=fun e he=>by
    dsimp only [Zal]
    rw [n2,OB,Zot _ he,n2,OB,Zot _ he,DN he]
    exact bad e he
   by_cases c1:n.DK.DI.ID<a.Peer
   ·rw [DT c1,Zun,n2,OB]
    by_cases c2:a.Peer<64
    ·rw [DT c2,Zpt,if_pos ⟨c1,c2⟩]
     dsimp only [Zal]
     rw [n2,OB]
     cases h8:Zrt n.DK.DI.SD a.Peer with
     | some j=>
       rw [show plc (some j)=(j:Int) from rfl,DN (show ¬(j:Int)<0 by omega),Zqt]
       dsimp only
       rw [n2,OB,Zot _ (by omega)]
       exact bad 183 (by omega)
     | none=>
       rw [show plc none = -1 from rfl,DT (show (-1:Int)<0 by omega),Zpt]
       dsimp only
       rw [n2,OB]
       by_cases c3:Zrq n.KN a.Peer<65535
       ·have eA:Z5u n a=(0,putN n (addS n a.Peer) n.AK,[]):=by
         unfold Z5u;rw [if_neg hk,if_pos k4,if_pos ⟨c1,c2⟩,h8];dsimp only;rw [if_pos c3]
        rw [if_pos c3]
        rw [DT c3,Zpt,DT rfl,Zun]
        have h0:=epoch0 h.kup (fun k hk=>(h.kr k hk).2.2) a.Peer
        have hc:Zmi (addS n a.Peer) n.DK.DI.ID n.DK.DI.PH n.DK.TH n.Book.Last 0 (Z7u n).1 (Z7u n).2.1 (Z7u n).2.2.2.2.2 (Z7u n).2.2.1 (Z7u n).2.2.2.1 (Z7u n).2.2.2.2.1=some (putS n.DK.DI.SD (addS n a.Peer),Z1r n.KN (addS n a.Peer).Peer (addS n a.Peer).Epoch):=s_put1 (addS n a.Peer) _ _ _ _ _ _ _ _ _ _ _ h.rowS h.rowK (by have:=h.dr.din.id0;show -100000≤a.Peer∧a.Peer≤100000;omega)
        rw [show (⟨a.Peer,wr (Zrq n.KN a.Peer+1),1,true,true,false,true,false⟩:Side)=addS n a.Peer by unfold addS;rw [Zxn (by omega) (by omega)],hc,OB]
        obtain ⟨h1,_,h3,h4,h5,h6⟩:=hok (by rw [eA])
        rw [eA] at h1
        exact Z6u (putN n (addS n a.Peer) n.AK) [] 0 (Z7u n) rfl rfl (fun _=>h1) (by simp)
       ·rw [if_neg c3,DN c3,Zqt]
        dsimp only
        rw [DN (show ¬(186:Int)=0 by omega),Zvn]
        exact bad 186 (by omega)
    ·rw [DN c2,Zqt,if_neg fun q=>c2 q.2]
     exact j3b 182 (by omega)
   ·rw [DN c1,Zvn,n3,OB,Zqt,if_neg fun q=>c1 q.1]
    exact j3b 182 (by omega)
  ·rw [DN k4,Zvn,if_neg k4]
   by_cases k5:a.Kind=5
   ·rw [DT k5,Zun,if_pos k5]
    have j4b:∀e:Int,e≠0→Zcl n a (Z7u n) (plc (Zrt n.DK.DI.SD a.Peer)) e=some (Z4u e n []):=fun e he=>by
     dsimp only [Zcl]
     rw [n2,OB,Zot _ he,DN he]
     exact bad e he
    by_cases c1:n.DK.DI.ID<a.Peer
    ·rw [DT c1,Zun,n2,OB]
     by_cases c2:a.Peer<64
     ·rw [DT c2,Zpt,if_pos ⟨c1,c2⟩]
      dsimp only [Zcl]
      rw [n2,OB]
      cases h8:Zrt n.DK.DI.SD a.Peer with
      | none=>
        rw [show plc none = -1 from rfl,DN (show ¬(0:Int)≤ -1 by omega),Zqt]
        exact bad 184 (by omega)
      | some j=>
        obtain ⟨x,hx,hd⟩:=Zst h8
        rw [show plc (some j)=(j:Int) from rfl,DT (show (0:Int)≤j by omega),Zpt]
        dsimp only
        rw [DT rfl,Zun,show (Z7u n).1=n.DK.DI.SD from rfl,Zyn hx,OB,hx]
        dsimp only
        have hn:Z19 x=some (decide (x.State=0)):=rfl
        rw [hn,OB,Znt,OB]
        dsimp only [Zbl]
        by_cases h0:x.State=0
        ·rw [if_pos h0,DT h0,Zpt,DT rfl,Zun]
         have h9:=s_shut n h a.Peer j x h8 hx hd 0
         have h9:Zck a.Peer n.DK.DI.ID n.DK.DI.PH n.DK.TH n.Book.Last 0 (Z7u n).1 (Z7u n).2.1 (Z7u n).2.2.2.2.2 (Z7u n).2.2.1 (Z7u n).2.2.2.1 (Z7u n).2.2.2.2.1=_:=h9
         rw [h9,OB]
         have hg:=Zjt a.Peer n.Book.Sess
         have hb:=((Zbs _).1 h.bk).len
         exact Z6u (Zzt n j x) (Z1u n a.Peer) 0 (Z7u n) rfl rfl (fun _=>h.shut hx h0) (by unfold Z1u Z0u;simp only [List.length_cons,List.length_map];omega)
        ·rw [if_neg h0,DN h0,Zqt,DN (show ¬(185:Int)=0 by omega),Zvn]
         exact bad 185 (by omega)
     ·rw [DN c2,Zqt,if_neg fun q=>c2 q.2]
      exact j4b 182 (by omega)
    ·rw [DN c1,Zvn,n3,OB,Zqt,if_neg fun q=>c1 q.1]
     exact j4b 182 (by omega)
   ·rw [DN k5,Zvn,if_neg k5,n3,OB,Zqt]
    exact bad 188 (by omega)
theorem OkN.sides {n:Node} (h:OkN n) {S:List Side} (hc:S.map Zds=n.DK.DI.SD.map Zds) (hd:∀x∈S,x.DY=true→x.Fork=true):OkN ⟨⟨⟨n.DK.DI.ID,n.DK.DI.PH,S⟩,n.DK.TH,n.DK.Need⟩,n.Book,n.KN,n.Told,n.AK⟩:=by
 have side:∀ {x:Side},x∈S→∃y∈n.DK.DI.SD,y.Peer=x.Peer∧y.Epoch=x.Epoch∧y.State=x.State:=fun hx=>Zis hc hx
 have edis:∀ {x:Side},x∈n.DK.DI.SD→∃y∈S,y.Peer=x.Peer∧y.Epoch=x.Epoch∧y.State=x.State:=fun hx=>Zis hc.symm hx
 have hl:S.length=n.DK.DI.SD.length:=by have:=congrArg List.length hc;rwa [List.length_map,List.length_map] at this
 refine {h with
  dr:=⟨⟨h.dr.din.id0,h.dr.din.p0,h.dr.din.p2,by show S.length<64;rw [hl];exact h.dr.din.len,pw_peers (core_peers hc) h.dr.din.up,fun x hx=>?_⟩,h.dr.t0,h.dr.t2,h.dr.up,h.dr.nz,fun p hp=>?_⟩
  may:=fun k hk=>⟨fun x hx=>?_,(h.may k hk).2⟩
  sd:=fun x hx=>?_
  tin:=fun p hp=>?_
  nl:=fun x hx hn=>?_
  wt:=fun s hs h0 p hp=>?_}
 ·obtain ⟨y,hy,e1,e2,e3⟩:=side hx
  have:=h.dr.din.side y hy
  exact ⟨by rw [←e1];exact this.lo,by rw [←e1];exact this.ne,by rw [←e2];exact this.e0,by rw [←e2];exact this.e1,by rw [←e3];exact this.s0,by rw [←e3];exact this.s3,hd x hx⟩
 ·obtain ⟨x,hx,e⟩:=h.dr.has p hp
  obtain ⟨y,hy,e1,_⟩:=edis hx
  exact ⟨y,hy,by omega⟩
 ·obtain ⟨y,hy,e1,_⟩:=side hx
  rw [←e1];exact (h.may k hk).1 y hy
 ·obtain ⟨y,hy,e1,e2,e3⟩:=side hx
  have:=h.sd y hy
  rw [←e1,←e2,←e3];exact this
 ·obtain ⟨x,hx,e,e'⟩:=h.tin p hp
  obtain ⟨y,hy,e1,_,e3⟩:=edis hx
  exact ⟨y,hy,by omega,by omega⟩
 ·obtain ⟨y,hy,e1,_,e3⟩:=side hx
  rw [←e3]
  exact h.nl y hy (by rw [e1];exact hn)
 ·obtain ⟨x,hx,e,e'⟩:=h.wt s hs h0 p hp
  obtain ⟨y,hy,e1,_,e3⟩:=edis hx
  exact ⟨y,hy,by omega,by omega⟩
theorem layK_core (k:Int) (x:Side):Zds (layK k x)=Zds x:=by
 unfold layK;split
 ·rfl
 ·split
  ·rfl
  ·split<;>rfl
theorem layK_dirty (k:Int) (x:Side) (h:x.DY=true→x.Fork=true):(layK k x).DY=true→(layK k x).Fork=true:=by
 unfold layK;split
 ·exact fun _=>rfl
 ·split
  ·exact h
  ·split<;>exact h
theorem set_core {S:List Side} {j:Nat} {x y:Side} (h:S[j]?=some x) (hc:Zds y=Zds x):(S.set j y).map Zds=S.map Zds:=by
 obtain ⟨e1,e2⟩:=Zxt h y
 rw [e2]
 conv=>rhs;rw [e1]
 simp [hc]
def layN (n:Node) (j:Nat) (x:Side) (k:Int):Node:=⟨⟨⟨n.DK.DI.ID,n.DK.DI.PH,n.DK.DI.SD.set j (layK k x)⟩,n.DK.TH,n.DK.Need⟩,n.Book,n.KN,n.Told,n.AK⟩
theorem OkN.lay {n:Node} (h:OkN n) {j:Nat} {x:Side} (hx:n.DK.DI.SD[j]?=some x) (k:Int):OkN (layN n j x k):=by
 refine h.sides (set_core hx (layK_core k x)) fun z hz=>?_
 rcases (Zyt h.rowS.up hx _).1 hz with rfl | ⟨hz,_⟩
 ·exact layK_dirty k x (h.dr.din.side x (List.mem_of_getElem? hx)).df
 ·exact (h.dr.din.side z hz).df
def askN (n:Node) (k:KE):Node:=⟨n.DK,n.Book,n.KN,n.Told,n.AK++[k]⟩
theorem OkN.ask {n:Node} (h:OkN n) {k:KE} (hm:mayB n k=true) (hd:Zsq (n.AK++[k])=true):OkN (askN n k):=
 {h with
  may:=fun q hq=>by
   have hq:q∈n.AK++[k]:=hq
   rcases List.mem_append.1 hq with hq | hq
   ·exact h.may q hq
   ·simp at hq;subst hq;exact (mayB_iff n _).1 hm
  dis:=by unfold Zsq at hd;rw [decide_eq_true_eq] at hd;exact hd}
def liveN (n:Node) (j:Nat) (x:Side):Node:=⟨⟨⟨n.DK.DI.ID,n.DK.DI.PH,n.DK.DI.SD.set j {x with State:=0}⟩,n.DK.TH,n.DK.Need⟩,n.Book,n.KN,(Zwo n.Told).filter fun z=>!decide (z∈ [x.Peer]),n.AK⟩
theorem OkN.live {n:Node} (h:OkN n) {j:Nat} {x:Side} (hx:n.DK.DI.SD[j]?=some x):OkN (liveN n j x):=by
 have h6:=List.mem_of_getElem? hx
 have hm:∀ {z:Side},z∈(liveN n j x).DK.DI.SD↔z={x with State:=0}∨z∈n.DK.DI.SD∧z.Peer≠x.Peer:=fun {z}=>Zyt (z:=z) h.rowS.up hx {x with State:=0}
 refine {h with
  dr:=h.dr.state hx (by omega)
  may:=fun k hk=>⟨fun z hz=>?_,(h.may k hk).2⟩
  sd:=fun z hz=>?_
  told:=(Z1p n.Told).1.filter _
  tin:=fun p hp=>?_
  nl:=fun z hz hn=>?_
  wt:=fun s hs h0 p hp=>?_}
 ·rcases hm.1 hz with rfl | ⟨hz,_⟩
  ·exact (h.may k hk).1 x h6
  ·exact (h.may k hk).1 z hz
 ·rcases hm.1 hz with rfl | ⟨hz,_⟩
  ·have:=h.sd x h6
   exact ⟨this.1,this.2.1,this.2.2.1,fun e=>by have e:(0:Int)=1∨(0:Int)=3:=e;omega⟩
  ·exact h.sd z hz
 ·obtain ⟨h1,h2⟩:=List.mem_filter.1 hp
  obtain ⟨z,hz,e1,e⟩:=h.tin p (((Z1p n.Told).2 p).1 h1)
  refine ⟨z,hm.2 (.inr ⟨hz,fun q=>?_⟩),e1,e⟩
  rw [DT (show p∈ [x.Peer] by rw [←e,q];simp)] at h2
  simp at h2
 ·rcases hm.1 hz with rfl | ⟨hz,_⟩
  ·show (0:Int)≠3;omega
  ·exact h.nl z hz hn
 ·obtain ⟨z,hz,e0,e⟩:=h.wt s hs h0 p hp
  by_cases q:z.Peer=x.Peer
  ·exact ⟨_,hm.2 (.inl rfl),rfl,by show x.Peer=p;omega⟩
  ·exact ⟨z,hm.2 (.inr ⟨hz,q⟩),e0,e⟩
def dropN (n:Node) (p:Int):Node:=⟨⟨⟨n.DK.DI.ID,n.DK.DI.PH,n.DK.DI.SD.filter fun x=>!decide (x.Peer=p)⟩,n.DK.TH,n.DK.Need⟩,n.Book,n.KN,n.Told,n.AK⟩
theorem OkN.drop {n:Node} (h:OkN n) {x:Side} (hx:x∈n.DK.DI.SD) (h3:x.State=3):OkN (dropN n x.Peer):=by
 have hm:∀ {z:Side},z∈(dropN n x.Peer).DK.DI.SD↔z∈n.DK.DI.SD∧z.Peer≠x.Peer:=fun {z}=>by
  show z∈n.DK.DI.SD.filter _↔_
  rw [List.mem_filter];simp
 have hne:∀ {z:Side},z∈n.DK.DI.SD→z.State≠3→z.Peer≠x.Peer:=fun hz hs q=>by
  have:=up_eq h.rowS.up hz hx q
  subst this;exact hs h3
 refine {h with
  dr:=⟨⟨h.dr.din.id0,h.dr.din.p0,h.dr.din.p2,Nat.lt_of_le_of_lt (List.length_filter_le _ _) h.dr.din.len,h.dr.din.up.filter _,fun z hz=>h.dr.din.side z (hm.1 hz).1⟩,h.dr.t0,h.dr.t2,h.dr.up,h.dr.nz,fun p hp=>?_⟩
  may:=fun k hk=>⟨fun z hz=>(h.may k hk).1 z (hm.1 hz).1,(h.may k hk).2⟩
  sd:=fun z hz=>h.sd z (hm.1 hz).1
  tin:=fun p hp=>?_
  nl:=fun z hz hn=>h.nl z (hm.1 hz).1 hn
  wt:=fun s hs h0 p hp=>?_}
 ·obtain ⟨z,hz,e⟩:=h.dr.has p hp
  exact ⟨z,hm.2 ⟨hz,hne hz (h.nl z hz (by rw [e];exact hp))⟩,e⟩
 ·obtain ⟨z,hz,e1,e⟩:=h.tin p hp
  exact ⟨z,hm.2 ⟨hz,hne hz (by omega)⟩,e1,e⟩
 ·obtain ⟨z,hz,e0,e⟩:=h.wt s hs h0 p hp
  exact ⟨z,hm.2 ⟨hz,hne hz (by omega)⟩,e0,e⟩
def Z8u (n:Node) (p:Int):Option (Nat×Side):=match Zrt n.DK.DI.SD p with | none=>none | some j=>(n.DK.DI.SD[j]?).map fun x=>(j,x)
def isB (o:Option (Nat×Side)) (m:Msg) (s:Int):Bool:=match o with | none=>false | some (_,x)=>decide (x.Epoch=m.Epoch)&&decide (x.State=s)
def jO (o:Option (Nat×Side)):Nat:=match o with | none=>0 | some (j,_)=>j
def xO (o:Option (Nat×Side)):Side:=match o with | none=>side0 | some (_,x)=>x
def fitB (o:Option (Nat×Side)) (m:Msg):Bool:=match o with | none=>false | some (_,x)=>decide (x.Epoch=m.Epoch)
def k14 (m:Msg):Bool:=decide (m.Kind=1∨m.Kind=2∨m.Kind=3∨m.Kind=4)
def getN (n:Node) (p:Int) (m:Msg):Int×Node×List Event:=
 if m.Num≠0 then (187,n,[])
 else if k14 m=true then
  (if fitB (Z8u n p) m=true then (if Zmq m.Kind (xO (Z8u n p))=true then (187,n,[]) else (0,layN n (jO (Z8u n p)) (xO (Z8u n p)) m.Kind,[])) else (0,n,[]))
 else if m.Kind=5 then (if mayB n ⟨p,m.Epoch⟩=true∧Zsq (n.AK++[⟨p,m.Epoch⟩])=true then (0,askN n ⟨p,m.Epoch⟩,[]) else (187,n,[]))
 else if m.Kind=6 then (if isB (Z8u n p) m 1=true∧p∈n.Told then (0,liveN n (jO (Z8u n p)) (xO (Z8u n p)),[⟨6,n.DK.DI.ID,0,p,[]⟩]) else (187,n,[]))
 else if m.Kind=7 then (if isB (Z8u n p) m 0=true∧p<n.DK.DI.ID then (0,Zzt n (jO (Z8u n p)) (xO (Z8u n p)),Z1u n p) else (187,n,[]))
 else if m.Kind=8 then (if isB (Z8u n p) m 3=true then (0,dropN n p,[⟨8,n.DK.DI.ID,0,p,[]⟩]) else (187,n,[]))
 else (187,n,[])
theorem Z9u {n:Node} {p:Int} {j:Nat} {x:Side} (h:Z8u n p=some (j,x)):Zrt n.DK.DI.SD p=some j∧n.DK.DI.SD[j]?=some x∧x.Peer=p:=by
 unfold Z8u at h
 cases hp:Zrt n.DK.DI.SD p with
 | none=>rw [hp] at h;simp at h
 | some i=>
   obtain ⟨y,hy,e⟩:=Zst hp
   rw [hp] at h
   dsimp only at h
   rw [hy] at h
   simp only [Option.map_some,Option.some.injEq,Prod.mk.injEq] at h
   obtain ⟨rfl,rfl⟩:=h
   exact ⟨rfl,hy,e⟩
theorem Zau {n:Node} {p:Int} (h:Z8u n p=none):Zrt n.DK.DI.SD p=none:=by
 unfold Z8u at h
 cases hp:Zrt n.DK.DI.SD p with
 | none=>rfl
 | some i=>
   obtain ⟨y,hy,e⟩:=Zst hp
   rw [hp] at h
   dsimp only at h
   rw [hy] at h
   simp at h
theorem Zbu {n:Node} {p s:Int} {m:Msg} (h:isB (Z8u n p) m s=true):∃j x,Z8u n p=some (j,x)∧x.Epoch=m.Epoch∧x.State=s∧n.DK.DI.SD[j]?=some x∧x.Peer=p∧Zrt n.DK.DI.SD p=some j:=by
 cases hs:Z8u n p with
 | none=>rw [hs] at h;simp [isB] at h
 | some q=>
   obtain ⟨j,x⟩:=q
   rw [hs] at h
   unfold isB at h
   simp only [Bool.and_eq_true,decide_eq_true_eq] at h
   obtain ⟨h1,h2,h3⟩:=Z9u hs
   exact ⟨j,x,rfl,h.1,h.2,h2,h3,h1⟩
theorem getN_ok {n:Node} {p:Int} {m:Msg} (h:OkN n) (he:(getN n p m).1=0):OkN (getN n p m).2.1∧(getN n p m).2.1.DK.DI.ID=n.DK.DI.ID∧(∀v∈(getN n p m).2.2,EvOK n.DK.DI.ID v∧v.Kind≠1)∧(getN n p m).2.2.length≤1000:=by
 revert he
 unfold getN
 split
 ·intro he;simp at he
 ·split
  ·split
   ·rename_i hs
    split
    ·intro he;simp at he
    ·intro _
     refine ⟨?_,rfl,by simp,by simp⟩
     cases hq:Z8u n p with
     | none=>rw [hq] at hs;simp [fitB] at hs
     | some q=>
       obtain ⟨j,x⟩:=q
       exact h.lay (Z9u hq).2.1 _
   ·intro _;exact ⟨h,rfl,by simp,by simp⟩
  ·split
   ·split
    ·rename_i hc
     intro _;exact ⟨h.ask hc.1 hc.2,rfl,by simp,by simp⟩
    ·intro he;simp at he
   ·split
    ·split
     ·rename_i hc
      intro _
      obtain ⟨j,x,hq,_,_,hx,_,_⟩:=Zbu hc.1
      rw [hq]
      refine ⟨h.live hx,rfl,fun v hv=>?_,by simp⟩
      simp at hv;subst hv
      exact ⟨⟨rfl,fun _=>rfl,fun q=>by have q:(6:Int)<6:=q;omega,fun _=>rfl⟩,by show (6:Int)≠1;omega⟩
     ·intro he;simp at he
    ·split
     ·split
      ·rename_i hc
       intro _
       obtain ⟨j,x,hq,_,h0,hx,h6,_⟩:=Zbu hc.1
       rw [hq]
       have hg:=Zjt p n.Book.Sess
       have hb:=((Zbs _).1 h.bk).len
       have h8:(Zzt n j x).DK.DI.ID=n.DK.DI.ID:=by unfold Zzt;dsimp only;split<;>rfl
       refine ⟨h.shut hx h0,h8,fun v hv=>?_,by unfold Z1u Z0u;simp only [List.length_cons,List.length_map];omega⟩
       rcases List.mem_cons.1 hv with rfl | hv
       ·exact ⟨⟨rfl,fun _=>rfl,fun q=>by have q:(7:Int)<6:=q;omega,fun _=>rfl⟩,by show (7:Int)≠1;omega⟩
       ·obtain ⟨i,_,rfl⟩:=List.mem_map.1 hv
        exact ⟨⟨rfl,fun q=>by have q:(6:Int)≤5:=q;omega,fun _=>rfl,fun _=>rfl⟩,by show (5:Int)≠1;omega⟩
      ·intro he;simp at he
     ·split
      ·split
       ·rename_i hc
        intro _
        obtain ⟨j,x,hq,_,h3,hx,h6,_⟩:=Zbu hc
        have:=h.drop (List.mem_of_getElem? hx) h3
        rw [h6] at this
        refine ⟨this,rfl,fun v hv=>?_,by simp⟩
        simp at hv;subst hv
        exact ⟨⟨rfl,fun _=>rfl,fun q=>by have q:(8:Int)<6:=q;omega,fun _=>rfl⟩,by show (8:Int)≠1;omega⟩
       ·intro he;simp at he
      ·intro he;simp at he
theorem get_end (m:Node) (V:List Event) (e:Int) (K:List KE) (hK:K=m.KN) (h:e=0→OkN m) (hV:V.length≤100000):
  Zgl K (m.DK.DI.ID,m.DK.DI.PH,m.DK.TH,m.Book.Last,m.Book.Sess,m.Told,e,m.DK.DI.SD,m.DK.Need,m.AK,V)=some (Z4u e m V):=by
 subst hK
 dsimp only [Zgl]
 unfold Z4u
 by_cases he:e=0
 ·subst he
  rw [Z9t m (h rfl) V hV,OB,if_pos rfl]
  rfl
 ·rw [Zat _ _ _ _ e _ he,OB,if_neg he]
  rfl
theorem s_is (n:Node) (s:Int) (p:Int) (m:Msg) (x:node_node) (hx:x.Node.DK.DI.SD=n.DK.DI.SD):Z8a s (plc (Zrt n.DK.DI.SD p)) x m=some (isB (Z8u n p) m s):=by
 simp only [Z8a,Z7a,hx]
 cases hq:Z8u n p with
 | none=>rw [Zau hq];rfl
 | some q=>
   obtain ⟨j,y⟩:=q
   obtain ⟨h1,h2,h3⟩:=Z9u hq
   rw [h1,show plc (some j)=(j:Int) from rfl,DT (show (0:Int)≤j by omega),Zun,Zyn h2,OB,OB]
   unfold isB
   dsimp only
   cases decide (y.Epoch=m.Epoch)<;>rfl
theorem get_begin (n:Node) (p:Int) (m:Msg) (hf:FewN n):Znl n p m=Zll n p m n.DK.DI.SD n.DK.Need n.KN n.Told n.AK n.Book.Sess (decide (Zmt (decide (m.Num=0)) 187 (if okN n then 0 else 180)=0),Zmt (decide (m.Num=0)) 187 (if okN n then 0 else 180)) (plc (Zrt n.DK.DI.SD p)) (k14 m):=by
 have hS:=hf.sides
 unfold Znl
 rw [s_own2 n hf,OB,Zzq n hf,OB]
 dsimp only [Zml]
 rw [Znt,OB,s_place _ _ (show _≤_ by dsimp only;omega),OB]
 unfold k14
 by_cases c1:m.Kind=1
 ·simp [c1,ifb]
 ·by_cases c2:m.Kind=2
  ·simp [c2,ifb]
  ·by_cases c3:m.Kind=3
   ·simp [c3,ifb]
   ·by_cases c4:m.Kind=4
    ·simp [c4,ifb]
    ·simp [c1,c2,c3,c4,ifb]
theorem get_bad (n:Node) (p:Int) (m:Msg) (hf:FewN n) (e:Int) (he:e≠0) (z:Bool):Zll n p m n.DK.DI.SD n.DK.Need n.KN n.Told n.AK n.Book.Sess (decide (e=0),e) (plc (Zrt n.DK.DI.SD p)) z=some (Z3u,[],[],e):=by
 have hA:=hf.asked
 have hT:=hf.told
 have h6:Zgl n.KN (n.DK.DI.ID,n.DK.DI.PH,n.DK.TH,n.Book.Last,n.Book.Sess,n.Told,e,n.DK.DI.SD,n.DK.Need,n.AK,[])=some (Z3u,[],[],e):=by
  have:=get_end n [] e n.KN rfl (fun q=>absurd q he) (by simp)
  unfold Z4u at this
  rw [if_neg he] at this
  exact this
 have n2:∀(is:Bool) (c:Int),Z2c is c n.DK.DI.ID n.DK.DI.PH n.DK.TH n.Book.Last e n.DK.DI.SD n.DK.Need n.Book.Sess n.KN n.Told n.AK=some (false,e):=fun is c=>by rw [Znt,Zot is he,DN he]
 have n3:∀c,Z6c c n.DK.DI.ID n.DK.DI.PH n.DK.TH n.Book.Last e n.DK.DI.SD n.DK.Need n.Book.Sess n.KN n.Told n.AK=some (false,e):=fun c=>by rw [s_need3,Zot _ he,DN he]
 dsimp only [Zll]
 cases z with
 | true=>
   rw [Zun,DN he,Zvn]
   dsimp only [Zhl]
   rw [Zvn]
   exact h6
 | false=>
   rw [Zvn]
   cases decide (m.Kind=5) with
   | true=>
     rw [Zun,s_may n hf,OB,Zxs _ (by omega),OB,Zzn _ _ (by omega) (by simp;omega),OB,Ztq _ (by simp;omega),OB,n2,n3,OB]
     dsimp only [Zil]
     rw [Zvn,h6]
     cases mayB n ⟨p,m.Epoch⟩<;>rfl
   | false=>
     rw [Zvn]
     cases decide (m.Kind=6) with
     | true=>
       rw [Zun,s_is n 1 p m _ rfl,OB,Zzo _ _ (by omega),OB,n2,n3,OB]
       dsimp only [Zjl]
       rw [Zvn,h6]
       cases isB (Z8u n p) m 1<;>rfl
     | false=>
       rw [Zvn]
       cases decide (m.Kind=7) with
       | true=>
         rw [Zun,s_is n 0 p m _ rfl,OB,n2,n3,OB]
         dsimp only [Zkl]
         rw [Zvn,h6]
         cases isB (Z8u n p) m 0<;>rfl
       | false=>
         rw [Zvn]
         cases decide (m.Kind=8) with
         | true=>
           rw [Zun,s_is n 3 p m _ rfl,OB,n2,OB]
           exact h6
         | false=>
           rw [Zvn,n3,OB]
           exact h6
theorem s_GetBad (n:Node) (p:Int) (m:Msg) (hf:FewN n) (hk:okN n=false):Znl n p m=some (Z3u,[],[],180):=by
 rw [get_begin n p m hf,hk,if_neg (by simp),Zot _ (by omega)]
 exact get_bad n p m hf 180 (by omega) _
theorem s_Get2 (n:Node) (p:Int) (m:Msg) (h:OkN n):Znl n p m=some (Z4u (getN n p m).1 (getN n p m).2.1 (getN n p m).2.2):=by
 have hf:=h.few
 have hA:=hf.asked
 have hT:=hf.told
 have hS:=hf.sides
 have hN:=hf.need
 rw [get_begin n p m hf,(Zas n).2 h,if_pos rfl]
 have hok:=fun he=>getN_ok (p:=p) (m:=m) h he
 by_cases hn:m.Num=0
 ·have eG:getN n p m=_:=rfl
  have h6:∀(r:Node) (V:List Event) (e:Int),n.KN=r.KN→r.DK.DI.ID=r.DK.DI.ID→(e=0→OkN r)→V.length≤100000→Zgl n.KN (r.DK.DI.ID,r.DK.DI.PH,r.DK.TH,r.Book.Last,r.Book.Sess,r.Told,e,r.DK.DI.SD,r.DK.Need,r.AK,V)=some (Z4u e r V):=fun r V e hK _ h1 hV=>get_end r V e n.KN hK h1 hV
  have bad:∀e:Int,e≠0→Zgl n.KN (n.DK.DI.ID,n.DK.DI.PH,n.DK.TH,n.Book.Last,n.Book.Sess,n.Told,e,n.DK.DI.SD,n.DK.Need,n.AK,[])=some (Z4u e n []):=fun e he=>h6 n [] e rfl rfl (fun q=>absurd q he) (by simp)
  have n2:∀(is:Bool) (c:Int),Z2c is c n.DK.DI.ID n.DK.DI.PH n.DK.TH n.Book.Last 0 n.DK.DI.SD n.DK.Need n.Book.Sess n.KN n.Told n.AK=some (decide (Zmt is c 0=0),Zmt is c 0):=fun is c=>Znt _ _ _ _ _ _ _ _ _ _ _ _ _
  have n3:∀c,Z6c c n.DK.DI.ID n.DK.DI.PH n.DK.TH n.Book.Last 0 n.DK.DI.SD n.DK.Need n.Book.Sess n.KN n.Told n.AK=some (decide (c=0),c):=fun c=>s_need3 _ _ _ _ _ _ _ _ _ _ _ _
  rw [DT hn,Zpt,DT rfl]
  unfold getN at hok ⊢
  rw [if_neg fun q=>q hn] at hok ⊢
  dsimp only [Zll]
  cases hk:k14 m with
  | true=>
    rw [Zun,DT rfl,Zun,if_pos rfl]
    rw [hk,if_pos rfl] at hok
    have j4f:Zhl n p m n.DK.DI.SD n.DK.Need n.KN n.Told n.AK n.Book.Sess (true,0) false=some (Z4u 0 n []):=by
     dsimp only [Zhl]
     rw [Zvn]
     exact h6 n [] 0 rfl rfl (fun _=>h) (by simp)
    cases hq:Z8u n p with
    | none=>
      rw [Zau hq,show plc none = -1 from rfl,DN (show ¬(0:Int)≤ -1 by omega),Zvn,if_neg (by simp [fitB])]
      exact j4f
    | some q=>
      obtain ⟨j,x⟩:=q
      obtain ⟨h1,h2,h3⟩:=Z9u hq
      rw [h1,show plc (some j)=(j:Int) from rfl,DT (show (0:Int)≤j by omega),Zun,Zyn h2,OB]
      have ex:xO (some (j,x))=x:=rfl
      have ej:jO (some (j,x))=j:=rfl
      rw [ex,ej]
      rw [hq,ex,ej] at hok
      by_cases h8:x.Epoch=m.Epoch
      ·rw [DT h8,if_pos (show fitB (some (j,x)) m=true from DT h8)]
       rw [if_pos (show fitB (some (j,x)) m=true from DT h8)] at hok
       have hw:n.DK.DI.SD.findIdx? (fun x=>decide (x.Peer=p)&&decide (x.Epoch=m.Epoch))=some j:=by
        obtain ⟨g1,g2,g3⟩:=List.findIdx?_eq_some_iff_getElem.1 h1
        obtain ⟨_,hB⟩:=List.getElem?_eq_some_iff.1 h2
        rw [List.findIdx?_eq_some_iff_getElem]
        refine ⟨g1,?_,fun i hi=>?_⟩
        ·rw [hB,DT h3,DT h8];rfl
        ·have:=g3 i hi
         simp only [decide_eq_true_eq] at this
         rw [DN this];simp
       have hC:1≤m.Kind∧m.Kind≤4:=by
        unfold k14 at hk;rw [decide_eq_true_eq] at hk;omega
       have hg:=s_drGet n.DK p m ((Z8s _).2 h.dr) (by omega) hw h2 hn hC
       dsimp only [Zhl,Zok]
       rw [Zun,hg,OB]
       dsimp only [Znk,Zmk]
       by_cases hl:Zmq m.Kind x=true
       ·simp only [if_pos hl]
        rw [n2,OB]
        exact bad 187 (by omega)
       ·rw [if_neg hl] at hok
        simp only [if_neg hl]
        rw [n2,OB]
        exact h6 (layN n j x m.Kind) [] 0 rfl rfl (fun _=>(hok rfl).1) (by simp)
      ·rw [DN h8,if_neg (show ¬fitB (some (j,x)) m=true from fun q=>h8 (of_decide_eq_true q))]
       exact j4f
  | false=>
    rw [Zvn,if_neg (by simp)]
    rw [hk,if_neg (by simp)] at hok
    by_cases k5:m.Kind=5
    ·rw [DT k5,Zun,if_pos k5,s_may n hf,OB]
     rw [if_pos k5] at hok
     have j5f:Zil n p m n.DK.DI.SD n.DK.Need n.KN n.Told n.AK n.Book.Sess (false,187)=some (Z4u 187 n []):=by
      dsimp only [Zil]
      rw [Zvn]
      exact bad 187 (by omega)
     cases hm:mayB n ⟨p,m.Epoch⟩ with
     | false=>
       rw [Zvn,n3,OB,if_neg (by simp),DN (show ¬(187:Int)=0 by omega)]
       exact j5f
     | true=>
       rw [Zun,Zxs _ (by omega),OB,Zzn _ _ (by omega) (by simp;omega),OB,Ztq _ (by simp;omega),OB,n2,OB]
       cases hd:Zsq (n.AK++[⟨p,m.Epoch⟩]) with
       | false=>
         rw [Zqt,DN (show ¬(187:Int)=0 by omega),if_neg (by simp)]
         exact j5f
       | true=>
         rw [Zpt,DT rfl,if_pos ⟨rfl,rfl⟩]
         dsimp only [Zil]
         rw [Zun,Zzn _ _ (by omega) (by simp;omega),OB]
         exact h6 (askN n ⟨p,m.Epoch⟩) [] 0 rfl rfl (fun _=>h.ask hm hd) (by simp)
    ·rw [DN k5,Zvn,if_neg k5]
     rw [if_neg k5] at hok
     by_cases k6:m.Kind=6
     ·rw [DT k6,Zun,if_pos k6,s_is n 1 p m _ rfl,OB]
      have j6f:Zjl n p n.DK.DI.SD n.DK.Need n.KN n.Told n.AK n.Book.Sess (plc (Zrt n.DK.DI.SD p)) (false,187)=some (Z4u 187 n []):=by
       dsimp only [Zjl]
       rw [Zvn]
       exact bad 187 (by omega)
      cases hi:isB (Z8u n p) m 1 with
      | false=>
        rw [Zvn,n3,OB,if_neg (by simp),DN (show ¬(187:Int)=0 by omega)]
        exact j6f
      | true=>
        rw [Zun,Zzo _ _ (by omega),OB,n2,OB]
        by_cases ht:p∈n.Told
        ·obtain ⟨j,x,hq,_,_,hx,hc,ho⟩:=Zbu hi
         rw [DT ht,Zpt,DT rfl,if_pos ⟨rfl,ht⟩,hq,ho]
         dsimp only [Zjl,xO,jO]
         rw [Zun,show plc (some j)=(j:Int) from rfl,Zyn hx,OB,s_Del _ _ (by omega),OB,Int.toNat_natCast]
         have h9:∀(S:List Side) (T:List Int) (e:Int),Z0d 6 p n.DK.DI.ID n.DK.DI.PH n.DK.TH n.Book.Last T e S n.DK.Need n.Book.Sess n.KN n.AK=some [⟨6,n.DK.DI.ID,0,p,[]⟩]:=fun S T e=>by
          simp only [Z0d]
          rw [Zzn _ _ (by omega) (by simp),OB];rfl
         rw [h9,OB]
         have:=h6 (liveN n j x) [⟨6,n.DK.DI.ID,0,p,[]⟩] 0 rfl rfl (fun _=>h.live hx) (by simp)
         subst hc
         exact this
        ·rw [DN ht,Zqt,DN (show ¬(187:Int)=0 by omega),if_neg fun q=>ht q.2]
         exact j6f
     ·rw [DN k6,Zvn,if_neg k6]
      rw [if_neg k6] at hok
      by_cases k7:m.Kind=7
      ·rw [DT k7,Zun,if_pos k7,s_is n 0 p m _ rfl,OB]
       have j7f:Zkl n p n.DK.DI.SD n.DK.Need n.KN n.Told n.AK n.Book.Sess (false,187)=some (Z4u 187 n []):=by
        dsimp only [Zkl]
        rw [Zvn]
        exact bad 187 (by omega)
       cases hi:isB (Z8u n p) m 0 with
       | false=>
         rw [Zvn,n3,OB,if_neg (by simp),DN (show ¬(187:Int)=0 by omega)]
         exact j7f
       | true=>
         rw [Zun,n2,OB]
         by_cases hp:p<n.DK.DI.ID
         ·obtain ⟨j,x,hq,_,h0,hx,hc,ho⟩:=Zbu hi
          have hg:=Zjt p n.Book.Sess
          have hb:=((Zbs _).1 h.bk).len
          rw [DT hp,Zpt,DT rfl,if_pos ⟨rfl,hp⟩,hq]
          dsimp only [Zkl,xO,jO]
          rw [Zun,s_shut n h p j x ho hx hc 0,OB]
          exact h6 (Zzt n j x) (Z1u n p) 0 rfl rfl (fun _=>h.shut hx h0) (by unfold Z1u Z0u;simp only [List.length_cons,List.length_map];omega)
         ·rw [DN hp,Zqt,DN (show ¬(187:Int)=0 by omega),if_neg fun q=>hp q.2]
          exact j7f
      ·rw [DN k7,Zvn,if_neg k7]
       rw [if_neg k7] at hok
       by_cases k8:m.Kind=8
       ·rw [DT k8,Zun,if_pos k8,s_is n 3 p m _ rfl,OB,n2,OB]
        cases hi:isB (Z8u n p) m 3 with
        | false=>
          rw [Zqt]
          dsimp only
          rw [DN (show ¬(187:Int)=0 by omega),Zvn,if_neg (by simp)]
          exact bad 187 (by omega)
        | true=>
          obtain ⟨j,x,hq,_,h3,hx,hc,ho⟩:=Zbu hi
          rw [Zpt]
          dsimp only
          rw [DT rfl,Zun,if_pos rfl]
          have hD:Z7g p n.DK.DI.ID n.DK.DI.PH n.DK.TH n.Book.Last 0 n.DK.DI.SD n.DK.Need n.Book.Sess n.KN n.Told n.AK=some (n.DK.DI.SD.filter fun x=>!decide (x.Peer=p)):=by
           simp only [Z7g,Zcr n.DK.DI.SD (fun z=>Zm9 z p) (fun x=>decide (x.Peer=p)) (by omega) (fun _ _=>rfl),OB]
          have h9:∀(S:List Side),Zac 8 p n.DK.DI.ID n.DK.DI.PH n.DK.TH n.Book.Last 0 S n.DK.Need n.Book.Sess n.KN n.Told n.AK=some [⟨8,n.DK.DI.ID,0,p,[]⟩]:=fun S=>by
           simp only [Zac]
           rw [Zzn _ _ (by omega) (by simp),OB];rfl
          rw [hD,OB,h9,OB]
          have:=h.drop (List.mem_of_getElem? hx) h3
          rw [hc] at this
          exact h6 (dropN n p) [⟨8,n.DK.DI.ID,0,p,[]⟩] 0 rfl rfl (fun _=>this) (by simp)
       ·rw [DN k8,Zvn,if_neg k8,n3,OB]
        exact bad 187 (by omega)
 ·rw [DN hn,Zqt]
  have:=get_bad n p m hf 187 (by omega) (k14 m)
  rw [this]
  unfold getN
  rw [if_pos hn]
  rfl
theorem Zcu (n:Node) (h:FewN n):Z7f n=some n:=by
 have h1:=h.sides
 have h2:=h.need
 have h3:=h.told
 have h4:=h.known
 have h5:=h.asked
 have h6:=h.book
 have hb:Zea n.Book=some n.Book:=by
  unfold Zea
  refine Zbo n.Book.Sess _ (fun pre=>((pre.length:Int),pre)) _ (fun pre x post h0=>?_) ?_
  ·have hx:=Zco h0
   have hm:=Zdo h0
   have hN:=h.needs x (Zeo h0)
   dsimp only [Zda]
   rw [Z0o hx,Zun,Zyn hx,OB,Zzn _ _ (by omega) (by simp;omega),OB,List.nil_append,Zzn _ _ (by omega) (by simp;omega),OB,Z2o (by omega),Zho]
  ·dsimp only [Zda,Zca]
   rw [Z1o,Zvn];rfl
 simp only [Z7f,Z2d,Zaa,hb]
 rw [Zzn _ _ (by omega) (by simp;omega),OB,Zzn _ _ (by omega) (by simp;omega),OB,OB,OB,Zzn _ _ (by omega) (by simp;omega),OB,Zzn _ _ (by omega) (by simp;omega),OB,Zzn _ _ (by omega) (by simp;omega),OB]
 rfl
def fewB17 (b:Book):Bool:=decide (b.Sess.length≤12)&&b.Sess.all fun s=>decide (s.Need.length≤70)
theorem s_Few17 (b:Book):∃z,Zja b=some z∧(z=true→fewB17 b=true):=by
 unfold Zja
 have key:∀(post pre:List Sess),b.Sess=pre++post→(∀s∈pre,s.Need.length≤70)→∃z,loop (Zia b) (pre.length:Int)=some z∧(z=true→fewB17 b=true):=by
  intro post
  induction post with
  | nil=>
    intro pre h hp
    have h:pre=b.Sess:=by simpa using h.symm
    rw [loop_eq]
    dsimp only [Zia,Zha,Zga]
    rw [h,Z1o,Zvn,Zvn]
    refine ⟨_,rfl,fun hz=>?_⟩
    rw [decide_eq_true_eq] at hz
    unfold fewB17
    rw [Bool.and_eq_true,decide_eq_true_eq,List.all_eq_true]
    rw [ln_eq] at hz
    exact ⟨by omega,fun s hs=>DT (hp s (by rw [h];exact hs))⟩
  | cons x post ih=>
    intro pre h hp
    have hx:=Zco h
    have hm:=Zdo h
    rw [loop_eq]
    dsimp only [Zia,Zha]
    rw [Z0o hx,Zun]
    by_cases h6:(pre.length:Int)<13
    ·rw [DT h6,Zun,Zyn hx,OB,ln_eq]
     by_cases h8:(70:Int)<x.Need.length
     ·rw [DT h8,Zun]
      exact ⟨false,rfl,by simp⟩
     ·rw [DN h8,Zvn,Z2o (by omega)]
      have:=ih (pre++[x]) (by simpa using h) fun s hs=>by
       rcases List.mem_append.1 hs with hs | hs
       ·exact hp s hs
       ·simp at hs;subst hs;omega
      rw [Zho] at this
      exact this
    ·rw [DN h6,Zvn]
     refine ⟨_,rfl,fun hz=>?_⟩
     rw [decide_eq_true_eq,ln_eq] at hz
     omega
 exact key b.Sess [] rfl (by simp)
theorem Zdu (n:Node):∃z,Z5d n=some z∧(z=true→FewN n):=by
 obtain ⟨z,hz,hf⟩:=s_Few17 n.Book
 simp only [Z5d,Z4d,hz,OB,ln_eq]
 by_cases h1:(n.DK.DI.SD.length:Int)≤70
 ·by_cases h2:(n.DK.Need.length:Int)≤70
  ·by_cases h3:(n.KN.length:Int)≤70
   ·by_cases h4:(n.Told.length:Int)≤70
    ·by_cases h5:(n.AK.length:Int)≤70
     ·rw [DT h1,DT h2,DT h3,DT h4,DT h5]
      refine ⟨z,rfl,fun e=>?_⟩
      have:=hf e
      unfold fewB17 at this
      rw [Bool.and_eq_true,decide_eq_true_eq,List.all_eq_true] at this
      exact ⟨by omega,by omega,by omega,fun s hs=>by have:=of_decide_eq_true (this.2 s hs);omega,by omega,by omega,by omega⟩
     ·exact ⟨false,by rw [DT h1,DT h2,DT h3,DT h4,DN h5];rfl,by simp⟩
    ·exact ⟨false,by rw [DT h1,DT h2,DT h3,DN h4];rfl,by simp⟩
   ·exact ⟨false,by rw [DT h1,DT h2,DN h3];rfl,by simp⟩
  ·exact ⟨false,by rw [DT h1,DN h2];rfl,by simp⟩
 ·exact ⟨false,by rw [DN h1];rfl,by simp⟩
theorem Zeu (l m:List KE) (hl:l.length≤1000000):Zjm l m=some (decide (l=m)):=by
 simp only [Zjm,Zlo]
 by_cases h:l.length=m.length
 ·simp only [h,decide_true,Bool.not_true,Zvn]
  rw [Zio l m _ (fun x y=>decide (x=y)) h (by omega) (fun k x y hx hy=>by
   simp only [Zim,Z0o hx,Zun,Zyn hx,Zyn hy,OB,Known_eqB,Z3o hx (show l.length≤4000000000000000000 by omega),Zwn]
   cases decide (x=y)<;>rfl) (by simp only [Zim,Z1o,Zvn,Zhm,Option.map_some]),Zjo l m h]
 ·simp [h,Zko h]
theorem s_r15Same (a b:DK) (hs:a.DI.SD.length≤1000000) (hn:a.Need.length≤1000000):Z8m a b=some (decide (a=b)):=by
 obtain ⟨d,t,n⟩:=a
 obtain ⟨d',t',n'⟩:=b
 simp only at hs hn
 simp only [Z8m,Z7m,s_r12SameOne d d' hs,Zxo n n' hn,OB,DK.mk.injEq]
 by_cases h1:d=d'<;>by_cases h2:t=t'<;>by_cases h3:n=n'<;>simp [h1,h2,h3]
theorem s_r17Same (b c:Book) (hb:Z7p b):Zfm b c=some (decide (b=c)):=by
 obtain ⟨L,l⟩:=b;obtain ⟨L',m⟩:=c
 have h1:l.length≤1000000:=hb.1
 have h2:∀s∈l,s.Need.length≤1000000:=hb.2
 simp only [Zfm,Zem,Zlo,Book.mk.injEq]
 by_cases q1:L=L'
 ·by_cases h:l.length=m.length
  ·simp only [q1,h,decide_true,Bool.not_true,Zvn,true_and]
   rw [Zio l m _ (fun x y=>decide (x=y)) h (by omega) (fun k x y hx hy=>by
    have hm:=h2 x (List.mem_of_getElem? hx)
    have e:(⟨L',l⟩:Book).Sess=l:=rfl
    simp only [Zdm,Zcm,Zbm,Z0o hx,Zun,Zyn hx,Zyn hy,OB,Zxo x.Need y.Need hm,Z3o hx (show l.length≤4000000000000000000 by omega),Zwn]
    obtain ⟨i,n,s,a⟩:=x;obtain ⟨i',n',s',a'⟩:=y
    simp only [Sess.mk.injEq]
    by_cases g1:i=i'<;>by_cases g2:s=s'<;>by_cases g3:a=a'<;>by_cases g4:n=n'<;>simp [g1,g2,g3,g4,ifb]) (by simp only [Zdm,Z1o,Zvn,Zam,Option.map_some]),Zjo l m h]
  ·have hne:l≠m:=of_decide_eq_false (Zko h)
   simp [q1,h,hne]
 ·simp [q1]
theorem Zfu (a b:Node) (h:FewN a):Zmm a b=some (decide (a=b)):=by
 have h1:=h.sides
 have h2:=h.need
 have h3:=h.told
 have h4:=h.known
 have h5:=h.asked
 obtain ⟨d,k,K,T,A⟩:=a
 obtain ⟨d',k',K',T',A'⟩:=b
 simp only at h1 h2 h3 h4 h5
 simp only [Zmm,Zlm,s_r15Same d d' (by omega) (by omega),s_r17Same k k' h.bk,Zeu K K' (by omega),Zeu A A' (by omega),Zxo T T' (by omega),OB,Node.mk.injEq]
 by_cases q1:d=d'<;>by_cases q2:k=k'<;>by_cases q3:K=K'<;>by_cases q4:T=T'<;>by_cases q5:A=A'<;>simp [q1,q2,q3,q4,q5]
theorem few0:FewN Z3u:=⟨by simp [Z3u],by simp [Z3u],by simp [Z3u],by simp [Z3u],by simp [Z3u],by simp [Z3u],by simp [Z3u]⟩
theorem setL_nil:Zwo []=[]:=setL_pw .nil
theorem setL_one (p:Int):Zwo [p]=[p]:=setL_pw (by simp)
def nO:Node:=⟨⟨⟨1,0,[]⟩,0,[]⟩,⟨0,[]⟩,[],[],[]⟩
def mA:Node:=⟨⟨⟨1,0,[]⟩,0,[]⟩,⟨4,[⟨4,[],0,0⟩]⟩,[],[],[]⟩
def nA:Node:=⟨⟨⟨1,0,[]⟩,2,[]⟩,⟨4,[⟨4,[],1,0⟩]⟩,[],[],[]⟩
def xB:Side:=⟨2,1,1,true,true,false,true,false⟩
def mB:Node:=⟨⟨⟨1,0,[xB]⟩,2,[]⟩,⟨4,[⟨4,[],1,0⟩]⟩,[⟨2,1⟩],[],[]⟩
def nB0:Node:=⟨⟨⟨1,2,[xB]⟩,2,[]⟩,⟨4,[⟨4,[],1,0⟩]⟩,[⟨2,1⟩],[],[]⟩
def nB:Node:=⟨⟨⟨1,2,[xB]⟩,2,[]⟩,⟨4,[⟨4,[],1,0⟩]⟩,[⟨2,1⟩],[2],[]⟩
def xC:Side:=⟨2,1,0,true,true,false,true,false⟩
def mC:Node:=⟨⟨⟨1,2,[xC]⟩,2,[]⟩,⟨4,[⟨4,[],1,0⟩]⟩,[⟨2,1⟩],[],[]⟩
def nC:Node:=⟨⟨⟨1,0,[xC]⟩,2,[]⟩,⟨4,[⟨4,[],1,0⟩]⟩,[⟨2,1⟩],[],[]⟩
theorem okNO:OkN nO:=(Zas _).1 (by decide)
theorem okNA:OkN nA:=(Zas _).1 (by decide)
theorem okNB:OkN nB:=(Zas _).1 (by decide)
theorem okNC:OkN nC:=(Zas _).1 (by decide)
theorem restA:Z5t mA [] [⟨0,1,4,0,[]⟩]=(nA,[],[⟨0,1,4,0,[]⟩,⟨1,1,4,0,[]⟩]):=by decide
theorem restC:Z5t mC [] [⟨6,1,0,2,[]⟩]=(nC,[],[⟨6,1,0,2,[]⟩]):=by decide
theorem onceB:Zzr mB=nB∧Z0s mB=[⟨1,2,⟨5,1,0⟩⟩]∧Z1s mB=[]:=by
 have e1:Zyr mB=nB0:=by decide
 have e2:Ztr nB0=nB0:=by decide
 have e3:Zur nB0=([2],[⟨1,2,⟨5,1,0⟩⟩]):=by
  unfold Zur
  rw [if_pos (show nB0.DK.DI.PH=2 from rfl)]
  show Zbr 1 [xB] [] []=_
  unfold Zbr
  rw [show Zar [] xB=true by decide,if_pos rfl]
  show Zbr 1 [] (Zwo [2]) _=_
  rw [setL_one];rfl
 have e4:Zvr nB0=nB:=by unfold Zvr;rw [e3];rfl
 have e5:leaN nB=nB:=by decide
 have e6:Zwr nB=[]:=by decide
 have e7:(Zeq (Zxr mB).DK).2=[]:=by decide
 have e8:ansNM mB=[]:=by decide
 have e9:Z1s mB=[]:=by decide
 unfold Zzr Z0s
 rw [e1,e2,e4,e3,e5,e6,e7,e8]
 exact ⟨rfl,rfl,e9⟩
theorem restB:Z5t mB [] []=(nB,[⟨1,2,⟨5,1,0⟩⟩],[]):=by
 obtain ⟨e1,e2,e3⟩:=onceB
 have h:Zzr nB=nB:=by decide
 unfold Z5t
 rw [Z4t,e1,e2,e3,if_neg (by decide),Z4t,h,if_pos rfl]
 rfl
theorem Zgu:Zpl=some true:=by
 have e1:Z5l ⟨⟨1,0,[]⟩,0,[]⟩=some (nO,0):=by
  unfold Z5l
  rw [loop_eq]
  dsimp only [Z4l]
  have hc:Zkk ⟨⟨⟨1,0,[]⟩,0,[]⟩,⟨0,[]⟩,[],[],[]⟩=some 0:=by
   have:=Zzq nO okNO.few
   rw [(Zas nO).2 okNO,if_pos rfl] at this
   exact this
  have ho:Zdf 1 0 [] 0 [] 0 []=some ([],[],[],[],[],[]):=by
   dsimp only [Zdf,Zcf,Zbf]
   rw [Znp _ (by simp),OB,Zap _ (by simp),OB,Zxs _ (by simp),OB,OB,OB,Zbp _ (by simp),OB,loop_eq]
   rfl
  have hj:Z3l ⟨⟨1,0,[]⟩,0,[]⟩ []=some (nO,0):=by
   dsimp only [Z3l]
   rw [hc,OB,ho];rfl
  rw [hj];rfl
 have a2:Z5u nO ⟨0,4,0,0,[]⟩=(0,mA,[⟨0,1,4,0,[]⟩]):=by
  unfold Z5u Zwt openP
  rw [setL_nil]
  decide
 have e2:Zel nO ⟨0,4,0,0,[]⟩=some (nA,[],[⟨0,1,4,0,[]⟩,⟨1,1,4,0,[]⟩],0):=by
  rw [s_Act nO _ okNO (by simp),a2]
  unfold Z4u
  rw [if_pos rfl,restA]
 have a3:Z5u nA ⟨4,0,2,0,[]⟩=(0,mB,[]):=by decide
 have e3:Zel nA ⟨4,0,2,0,[]⟩=some (nB,[⟨1,2,⟨5,1,0⟩⟩],[],0):=by
  rw [s_Act nA _ okNA (by simp),a3]
  unfold Z4u
  rw [if_pos rfl,restB]
 have a4:getN nB 2 ⟨6,1,0⟩=(0,mC,[⟨6,1,0,2,[]⟩]):=by
  unfold getN liveN
  rw [show nB.Told=[2] from rfl,setL_one]
  decide
 have e4:Znl nB 2 ⟨6,1,0⟩=some (nC,[],[⟨6,1,0,2,[]⟩],0):=by
  rw [s_Get2 nB _ _ okNB,a4]
  unfold Z4u
  rw [if_pos rfl,restC]
 have a5:(Z5u nC ⟨4,0,2,0,[]⟩).1=183:=by decide
 have e5:∃x y z,Zel nC ⟨4,0,2,0,[]⟩=some (x,y,z,183):=by
  rw [s_Act nC _ okNC (by simp),a5]
  exact ⟨_,_,_,rfl⟩
 obtain ⟨x,y,z,e5⟩:=e5
 have e6:Zjb nC=some [2]:=by rw [s_Live nC okNC.few];decide
 have e7:Zkk nC=some 0:=by rw [Zzq nC okNC.few,(Zas nC).2 okNC];rfl
 have e8:Zyf nC nC=some true:=by rw [s_nSame nC nC okNC.few,DT rfl]
 have e9:Zyf nC nB=some false:=by rw [s_nSame nC nB okNC.few];decide
 have e10:Zu7 [2] [2]=some true:=by rw [Zxo _ _ (by simp),DT rfl]
 have e11:Zef [⟨0,1,4,0,[]⟩,⟨1,1,4,0,[]⟩] [⟨6,1,0,2,[]⟩]=some false:=rfl
 unfold Zpl
 rw [e1,OB,e2,OB,e3,OB,e4,OB,e5,OB]
 dsimp only
 rw [e6,OB,e10,OB,e7,OB,e8,OB,e9,OB,e11,OB]
 rfl
structure Good (n m:Node) (V:List Event):Prop where
 okn:OkN n
 ok:OkN m
 id:m.DK.DI.ID=n.DK.DI.ID
 ev:∀v∈V,EvOK n.DK.DI.ID v∧v.Kind≠1
 len:V.length≤1000
theorem act_out (n:Node) (a:Do) (hf:FewN n) (ha:a.Need.length≤1000):∃e m V,Zel n a=some (Z4u e m V)∧(e=0→Good n m V):=by
 cases hk:okN n with
 | false=>exact ⟨180,Z3u,[],by rw [s_ActBad n a hf hk];rfl,fun e=>by omega⟩
 | true=>
   have h:=(Zas n).1 hk
   refine ⟨_,_,_,s_Act n a h ha,fun he=>?_⟩
   obtain ⟨h1,h2,_,_,h5,h6⟩:=actN_ok h he
   exact ⟨h,h1,h2,h5,h6⟩
theorem get_out (n:Node) (p:Int) (m:Msg) (hf:FewN n):∃e r V,Znl n p m=some (Z4u e r V)∧(e=0→Good n r V):=by
 cases hk:okN n with
 | false=>exact ⟨180,Z3u,[],by rw [s_GetBad n p m hf hk];rfl,fun e=>by omega⟩
 | true=>
   have h:=(Zas n).1 hk
   refine ⟨_,_,_,s_Get2 n p m h,fun he=>?_⟩
   obtain ⟨h1,h2,h5,h6⟩:=getN_ok h he
   exact ⟨h,h1,h2,h5,h6⟩
theorem Zmu (e:Int) (m:Node) (V:List Event):(Z4u e m V).2.2.2=e:=by unfold Z4u;split<;>simp_all
theorem Znu (m:Node) (V:List Event):Z4u 0 m V=((Z5t m [] V).1,(Z5t m [] V).2.1,(Z5t m [] V).2.2,0):=rfl
theorem Zou {e:Int} (h:e≠0) (m:Node) (V:List Event):Z4u e m V=(Z3u,[],[],e):=by unfold Z4u;rw [if_neg h]
theorem get_stale (n:Node) (p:Int) (m:Msg) (h:OkN n) (hk:k14 m=true) (h0:m.Num=0) (hs:fitB (Z8u n p) m=false):Znl n p m=some (Z4u 0 n []):=by
 have:getN n p m=(0,n,[]):=by
  unfold getN
  rw [if_neg (fun q=>q h0),if_pos hk,if_neg (by rw [hs];simp)]
 rw [s_Get2 n p m h,this]
theorem get_own (n:Node) (h:OkN n):Znl n n.DK.DI.ID ⟨1,0,0⟩=some (Z4u 0 n []):=by
 refine get_stale n _ _ h rfl rfl ?_
 cases hq:Z8u n n.DK.DI.ID with
 | none=>rfl
 | some q=>
   obtain ⟨j,x⟩:=q
   obtain ⟨_,h2,h3⟩:=Z9u hq
   exact absurd h3 (h.peer0 (List.mem_of_getElem? h2)).2.2
theorem s_still {x:Node} (h:OkN x) (hq:Quiet x):Zan x=some true:=by
 unfold Zan
 rw [Zcu x h.few,OB,get_own x h,OB,Znu,rest_calm h hq]
 dsimp only [Z9n,Z8n]
 rw [Zfu x x h.few,OB,DT rfl]
 rfl
theorem s_Check0 {x:Node} (h:OkN x):Zkk x=some 0:=by rw [Zzq x h.few,(Zas x).2 h];rfl
theorem Zru (n:Node) (a:Do) (p:Int) (m:Msg):Zhn n a p m=some true:=by
 have j1t:Zgn n a p m true=some true:=by
  dsimp only [Zgn]
  rw [Zun,Zgu];rfl
 obtain ⟨z,hz,hF⟩:=Zdu n
 unfold Zhn
 rw [Zgu,OB,Bool.not_true,Zvn,hz,OB,j1t]
 cases z with
 | false=>rfl
 | true=>
   have hf:=hF rfl
   rw [Bool.not_true,Zvn,ln_eq]
   by_cases ha:(70:Int)<a.Need.length
   ·rw [DT ha];exact j1t
   ·rw [DN ha]
    obtain ⟨e,x,V,he,hg⟩:=act_out n a hf (by omega)
    obtain ⟨f,y,W,h6,h8⟩:=get_out n p m hf
    dsimp only [Zgn]
    rw [Zvn,Zcu n hf,OB,he,OB]
    dsimp only [Zfn]
    rw [Zcu n hf,OB,h6,OB]
    dsimp only [Zen]
    rw [Zmu,Zmu]
    have n0:Zmm Z3u Z3u=some true:=by rw [Zfu Z3u Z3u few0,DT rfl]
    have z0:(⟨⟨⟨0,0,[]⟩,0,[]⟩,⟨0,[]⟩,[],[],[]⟩:Node)=Z3u:=rfl
    have j4:Zdn e (Z4u e x V).1 f (Z4u f y W).1 false=some true:=by
     dsimp only [Zdn,Zcn]
     rw [Zvn,z0]
     by_cases e0:e=0
     ·rw [DT e0,Zun]
      by_cases f0:f=0
      ·rw [DT f0,Zun]
      ·rw [DN f0,Zvn,Zou f0,n0];rfl
     ·rw [DN e0,Zvn,Zou e0]
      dsimp only
      rw [n0,OB,Zun]
      by_cases f0:f=0
      ·rw [DT f0,Zun]
      ·rw [DN f0,Zvn,Zou f0,n0];rfl
    have fin:(ifb (decide (f=0)) ((Z7f (Z4u f y W).1).bind fun x24=>(Zkk x24).bind fun x25=>ifb (!decide (x25=0)) (Zdn e (Z4u e x V).1 f (Z4u f y W).1 true) ((Zan (Z4u f y W).1).bind fun x26=>Zdn e (Z4u e x V).1 f (Z4u f y W).1 (!x26))) (Zdn e (Z4u e x V).1 f (Z4u f y W).1 false))=some true:=by
     by_cases f0:f=0
     ·subst f0
      have hy:=(h8 rfl).ok
      have hr:=Zdt hy [] W
      rw [DT rfl,Zun]
      rw [Znu] at j4 ⊢
      dsimp only at j4 ⊢
      rw [Zcu _ hr.few,OB,s_Check0 hr,OB,s_still hr (Zft hy [] W),OB]
      exact j4
     ·rw [DN f0,Zvn];exact j4
    by_cases e0:e=0
    ·have hx:=(hg e0).ok
     have hr:=Zdt hx [] V
     rw [DT e0,Zun]
     subst e0
     have q1:(Z4u 0 x V).1=(Z5t x [] V).1:=rfl
     rw [q1] at fin ⊢
     rw [Zcu _ hr.few,OB,s_Check0 hr,OB,s_still hr (Zft hx [] V),OB]
     exact fin
    ·rw [DN e0,Zvn]
     exact fin
end NX
end Go.Proofs.YtdjkbodnjhgbcaaGreat
namespace Go.Proofs.YtdjkbodnjhgbcaaGreat
namespace NX
open Go Go.ChangeShapes Go.WideShapes Go.ChangeAt Go.RowKit
theorem Zsu:Opn Tryz.prog 65 Side.row:=by
 intro H enc w base sp h6 fuel cs x h
 obtain ⟨xs,n,_,_,hl,h8,hf⟩:=DataW.trod_struct Tryz.underlying65 h
 rw [show Tryz.prog.cellsOf 65=8 from by kernel_rfl] at hl
 have c0:DataW.trod enc Tryz.prog w base sp h6 n 3 ((cs.drop 0).take (Tryz.prog.cellsOf 3))=xs[0]?:=hf 0 _ rfl
 rw [show Tryz.prog.cellsOf 3=1 from by kernel_rfl] at c0
 have h9:0<xs.length:=by rw [h8];decide
 obtain ⟨y0,hB⟩:∃y,xs[0]?=some y:=⟨_,List.getElem?_eq_getElem h9⟩
 obtain ⟨v0,k0⟩:=(opn_int Tryz.underlying3) enc w _ _ _ _ _ _ (c0.trans hB)
 have c1:DataW.trod enc Tryz.prog w base sp h6 n 3 ((cs.drop 1).take (Tryz.prog.cellsOf 3))=xs[1]?:=hf 1 _ rfl
 rw [show Tryz.prog.cellsOf 3=1 from by kernel_rfl] at c1
 have hc:1<xs.length:=by rw [h8];decide
 obtain ⟨y1,hy1⟩:∃y,xs[1]?=some y:=⟨_,List.getElem?_eq_getElem hc⟩
 obtain ⟨v1,k1⟩:=(opn_int Tryz.underlying3) enc w _ _ _ _ _ _ (c1.trans hy1)
 have c2:DataW.trod enc Tryz.prog w base sp h6 n 63 ((cs.drop 2).take (Tryz.prog.cellsOf 63))=xs[2]?:=hf 2 _ rfl
 rw [show Tryz.prog.cellsOf 63=1 from by kernel_rfl] at c2
 have hd:2<xs.length:=by rw [h8];decide
 obtain ⟨y2,hC⟩:∃y,xs[2]?=some y:=⟨_,List.getElem?_eq_getElem hd⟩
 obtain ⟨v2,k2⟩:=(opn_int Tryz.underlying63) enc w _ _ _ _ _ _ (c2.trans hC)
 have c3:DataW.trod enc Tryz.prog w base sp h6 n 4 ((cs.drop 3).take (Tryz.prog.cellsOf 4))=xs[3]?:=hf 3 _ rfl
 rw [show Tryz.prog.cellsOf 4=1 from by kernel_rfl] at c3
 have he:3<xs.length:=by rw [h8];decide
 obtain ⟨y3,hD⟩:∃y,xs[3]?=some y:=⟨_,List.getElem?_eq_getElem he⟩
 obtain ⟨v3,k3⟩:=(opn_bool Tryz.underlying4) enc w _ _ _ _ _ _ (c3.trans hD)
 have c4:DataW.trod enc Tryz.prog w base sp h6 n 4 ((cs.drop 4).take (Tryz.prog.cellsOf 4))=xs[4]?:=hf 4 _ rfl
 rw [show Tryz.prog.cellsOf 4=1 from by kernel_rfl] at c4
 have hn:4<xs.length:=by rw [h8];decide
 obtain ⟨y4,hE⟩:∃y,xs[4]?=some y:=⟨_,List.getElem?_eq_getElem hn⟩
 obtain ⟨v4,k4⟩:=(opn_bool Tryz.underlying4) enc w _ _ _ _ _ _ (c4.trans hE)
 have c5:DataW.trod enc Tryz.prog w base sp h6 n 4 ((cs.drop 5).take (Tryz.prog.cellsOf 4))=xs[5]?:=hf 5 _ rfl
 rw [show Tryz.prog.cellsOf 4=1 from by kernel_rfl] at c5
 have ho:5<xs.length:=by rw [h8];decide
 obtain ⟨y5,hG⟩:∃y,xs[5]?=some y:=⟨_,List.getElem?_eq_getElem ho⟩
 obtain ⟨v5,k5⟩:=(opn_bool Tryz.underlying4) enc w _ _ _ _ _ _ (c5.trans hG)
 have c6:DataW.trod enc Tryz.prog w base sp h6 n 4 ((cs.drop 6).take (Tryz.prog.cellsOf 4))=xs[6]?:=hf 6 _ rfl
 rw [show Tryz.prog.cellsOf 4=1 from by kernel_rfl] at c6
 have hw:6<xs.length:=by rw [h8];decide
 obtain ⟨y6,hI⟩:∃y,xs[6]?=some y:=⟨_,List.getElem?_eq_getElem hw⟩
 obtain ⟨v6,k6⟩:=(opn_bool Tryz.underlying4) enc w _ _ _ _ _ _ (c6.trans hI)
 have c7:DataW.trod enc Tryz.prog w base sp h6 n 4 ((cs.drop 7).take (Tryz.prog.cellsOf 4))=xs[7]?:=hf 7 _ rfl
 rw [show Tryz.prog.cellsOf 4=1 from by kernel_rfl] at c7
 have hA:7<xs.length:=by rw [h8];decide
 obtain ⟨y7,hJ⟩:∃y,xs[7]?=some y:=⟨_,List.getElem?_eq_getElem hA⟩
 obtain ⟨v7,k7⟩:=(opn_bool Tryz.underlying4) enc w _ _ _ _ _ _ (c7.trans hJ)
 have e:cs=(cs.drop 0).take 1++(cs.drop 1).take 1++(cs.drop 2).take 1++(cs.drop 3).take 1++(cs.drop 4).take 1++(cs.drop 5).take 1++(cs.drop 6).take 1++(cs.drop 7).take 1:=by
  match cs,hl with
  | [a0,a1,a2,a3,a4,a5,a6,a7],_=>rfl
 rw [e]
 exact ⟨⟨v0,v1,v2,v3,v4,v5,v6,v7⟩,(Zk1 (Zk1 (Zk1 (Zk1 (Zk1 (Zk1 (Zk1 k0 k1) k2) k3) k4) k5) k6) k7)⟩
theorem Ztu:Opn Tryz.prog 23 (Z15 8 Side.row):=opn_slice (n:=8) (row:=Side.row) Tryz.underlying23 (by kernel_rfl) (by decide) (fun _=>⟨rfl,rfl,rfl⟩) Zsu
theorem Zuu:Opn Tryz.prog 25 DI.row:=by
 intro H enc w base sp h6 fuel cs x h
 obtain ⟨xs,n,_,_,hl,h8,hf⟩:=DataW.trod_struct Tryz.underlying25 h
 rw [show Tryz.prog.cellsOf 25=3 from by kernel_rfl] at hl
 have c0:DataW.trod enc Tryz.prog w base sp h6 n 3 ((cs.drop 0).take (Tryz.prog.cellsOf 3))=xs[0]?:=hf 0 _ rfl
 rw [show Tryz.prog.cellsOf 3=1 from by kernel_rfl] at c0
 have h9:0<xs.length:=by rw [h8];decide
 obtain ⟨y0,he⟩:∃y,xs[0]?=some y:=⟨_,List.getElem?_eq_getElem h9⟩
 obtain ⟨v0,k0⟩:=(opn_int Tryz.underlying3) enc w _ _ _ _ _ _ (c0.trans he)
 have c1:DataW.trod enc Tryz.prog w base sp h6 n 22 ((cs.drop 1).take (Tryz.prog.cellsOf 22))=xs[1]?:=hf 1 _ rfl
 rw [show Tryz.prog.cellsOf 22=1 from by kernel_rfl] at c1
 have hc:1<xs.length:=by rw [h8];decide
 obtain ⟨y1,hy1⟩:∃y,xs[1]?=some y:=⟨_,List.getElem?_eq_getElem hc⟩
 obtain ⟨v1,k1⟩:=(opn_int Tryz.underlying22) enc w _ _ _ _ _ _ (c1.trans hy1)
 have c2:DataW.trod enc Tryz.prog w base sp h6 n 23 ((cs.drop 2).take (Tryz.prog.cellsOf 23))=xs[2]?:=hf 2 _ rfl
 rw [show Tryz.prog.cellsOf 23=1 from by kernel_rfl] at c2
 have hd:2<xs.length:=by rw [h8];decide
 obtain ⟨y2,hn⟩:∃y,xs[2]?=some y:=⟨_,List.getElem?_eq_getElem hd⟩
 obtain ⟨v2,k2⟩:=Ztu enc w _ _ _ _ _ _ (c2.trans hn)
 have e:cs=(cs.drop 0).take 1++(cs.drop 1).take 1++(cs.drop 2).take 1:=by
  match cs,hl with
  | [a0,a1,a2],_=>rfl
 rw [e]
 exact ⟨⟨v0,v1,v2⟩,(Zk1 (Zk1 k0 k1) k2)⟩
theorem Zvu:Opn Tryz.prog 27 (Z15 1 Z05):=opn_slice (n:=1) (row:=Z05) Tryz.underlying27 (by kernel_rfl) (by decide) (fun _=>⟨rfl,rfl,rfl⟩) (opn_int Tryz.underlying3)
theorem Zwu:Opn Tryz.prog 29 DK.row:=by
 intro H enc w base sp h6 fuel cs x h
 obtain ⟨xs,n,_,_,hl,h8,hf⟩:=DataW.trod_struct Tryz.underlying29 h
 rw [show Tryz.prog.cellsOf 29=5 from by kernel_rfl] at hl
 have c0:DataW.trod enc Tryz.prog w base sp h6 n 25 ((cs.drop 0).take (Tryz.prog.cellsOf 25))=xs[0]?:=hf 0 _ rfl
 rw [show Tryz.prog.cellsOf 25=3 from by kernel_rfl] at c0
 have h9:0<xs.length:=by rw [h8];decide
 obtain ⟨y0,he⟩:∃y,xs[0]?=some y:=⟨_,List.getElem?_eq_getElem h9⟩
 obtain ⟨v0,k0⟩:=Zuu enc w _ _ _ _ _ _ (c0.trans he)
 have c1:DataW.trod enc Tryz.prog w base sp h6 n 26 ((cs.drop 3).take (Tryz.prog.cellsOf 26))=xs[1]?:=hf 1 _ rfl
 rw [show Tryz.prog.cellsOf 26=1 from by kernel_rfl] at c1
 have hc:1<xs.length:=by rw [h8];decide
 obtain ⟨y1,hy1⟩:∃y,xs[1]?=some y:=⟨_,List.getElem?_eq_getElem hc⟩
 obtain ⟨v1,k1⟩:=(opn_int Tryz.underlying26) enc w _ _ _ _ _ _ (c1.trans hy1)
 have c2:DataW.trod enc Tryz.prog w base sp h6 n 27 ((cs.drop 4).take (Tryz.prog.cellsOf 27))=xs[2]?:=hf 2 _ rfl
 rw [show Tryz.prog.cellsOf 27=1 from by kernel_rfl] at c2
 have hd:2<xs.length:=by rw [h8];decide
 obtain ⟨y2,hn⟩:∃y,xs[2]?=some y:=⟨_,List.getElem?_eq_getElem hd⟩
 obtain ⟨v2,k2⟩:=Zvu enc w _ _ _ _ _ _ (c2.trans hn)
 have e:cs=(cs.drop 0).take 3++(cs.drop 3).take 1++(cs.drop 4).take 1:=by
  match cs,hl with
  | [a0,a1,a2,a3,a4],_=>rfl
 rw [e]
 exact ⟨⟨v0,v1,v2⟩,(Zk1 (Zk1 k0 k1) k2)⟩
theorem Zxu:Opn Tryz.prog 60 Sess.row:=by
 intro H enc w base sp h6 fuel cs x h
 obtain ⟨xs,n,_,_,hl,h8,hf⟩:=DataW.trod_struct Tryz.underlying60 h
 rw [show Tryz.prog.cellsOf 60=4 from by kernel_rfl] at hl
 have c0:DataW.trod enc Tryz.prog w base sp h6 n 3 ((cs.drop 0).take (Tryz.prog.cellsOf 3))=xs[0]?:=hf 0 _ rfl
 rw [show Tryz.prog.cellsOf 3=1 from by kernel_rfl] at c0
 have h9:0<xs.length:=by rw [h8];decide
 obtain ⟨y0,hn⟩:∃y,xs[0]?=some y:=⟨_,List.getElem?_eq_getElem h9⟩
 obtain ⟨v0,k0⟩:=(opn_int Tryz.underlying3) enc w _ _ _ _ _ _ (c0.trans hn)
 have c1:DataW.trod enc Tryz.prog w base sp h6 n 27 ((cs.drop 1).take (Tryz.prog.cellsOf 27))=xs[1]?:=hf 1 _ rfl
 rw [show Tryz.prog.cellsOf 27=1 from by kernel_rfl] at c1
 have hc:1<xs.length:=by rw [h8];decide
 obtain ⟨y1,hy1⟩:∃y,xs[1]?=some y:=⟨_,List.getElem?_eq_getElem hc⟩
 obtain ⟨v1,k1⟩:=Zvu enc w _ _ _ _ _ _ (c1.trans hy1)
 have c2:DataW.trod enc Tryz.prog w base sp h6 n 58 ((cs.drop 2).take (Tryz.prog.cellsOf 58))=xs[2]?:=hf 2 _ rfl
 rw [show Tryz.prog.cellsOf 58=1 from by kernel_rfl] at c2
 have hd:2<xs.length:=by rw [h8];decide
 obtain ⟨y2,ho⟩:∃y,xs[2]?=some y:=⟨_,List.getElem?_eq_getElem hd⟩
 obtain ⟨v2,k2⟩:=(opn_int Tryz.underlying58) enc w _ _ _ _ _ _ (c2.trans ho)
 have c3:DataW.trod enc Tryz.prog w base sp h6 n 3 ((cs.drop 3).take (Tryz.prog.cellsOf 3))=xs[3]?:=hf 3 _ rfl
 rw [show Tryz.prog.cellsOf 3=1 from by kernel_rfl] at c3
 have he:3<xs.length:=by rw [h8];decide
 obtain ⟨y3,hw⟩:∃y,xs[3]?=some y:=⟨_,List.getElem?_eq_getElem he⟩
 obtain ⟨v3,k3⟩:=(opn_int Tryz.underlying3) enc w _ _ _ _ _ _ (c3.trans hw)
 have e:cs=(cs.drop 0).take 1++(cs.drop 1).take 1++(cs.drop 2).take 1++(cs.drop 3).take 1:=by
  match cs,hl with
  | [a0,a1,a2,a3],_=>rfl
 rw [e]
 exact ⟨⟨v0,v1,v2,v3⟩,(Zk1 (Zk1 (Zk1 k0 k1) k2) k3)⟩
theorem Zyu:Opn Tryz.prog 30 (Z15 4 Sess.row):=opn_slice (n:=4) (row:=Sess.row) Tryz.underlying30 (by kernel_rfl) (by decide) (fun _=>⟨rfl,rfl,rfl⟩) Zxu
theorem Zzu:Opn Tryz.prog 32 Book.row:=by
 intro H enc w base sp h6 fuel cs x h
 obtain ⟨xs,n,_,_,hl,h8,hf⟩:=DataW.trod_struct Tryz.underlying32 h
 rw [show Tryz.prog.cellsOf 32=2 from by kernel_rfl] at hl
 have c0:DataW.trod enc Tryz.prog w base sp h6 n 3 ((cs.drop 0).take (Tryz.prog.cellsOf 3))=xs[0]?:=hf 0 _ rfl
 rw [show Tryz.prog.cellsOf 3=1 from by kernel_rfl] at c0
 have h9:0<xs.length:=by rw [h8];decide
 obtain ⟨y0,hd⟩:∃y,xs[0]?=some y:=⟨_,List.getElem?_eq_getElem h9⟩
 obtain ⟨v0,k0⟩:=(opn_int Tryz.underlying3) enc w _ _ _ _ _ _ (c0.trans hd)
 have c1:DataW.trod enc Tryz.prog w base sp h6 n 30 ((cs.drop 1).take (Tryz.prog.cellsOf 30))=xs[1]?:=hf 1 _ rfl
 rw [show Tryz.prog.cellsOf 30=1 from by kernel_rfl] at c1
 have hc:1<xs.length:=by rw [h8];decide
 obtain ⟨y1,hy1⟩:∃y,xs[1]?=some y:=⟨_,List.getElem?_eq_getElem hc⟩
 obtain ⟨v1,k1⟩:=Zyu enc w _ _ _ _ _ _ (c1.trans hy1)
 have e:cs=(cs.drop 0).take 1++(cs.drop 1).take 1:=by
  match cs,hl with
  | [a0,a1],_=>rfl
 rw [e]
 exact ⟨⟨v0,v1⟩,(Zk1 k0 k1)⟩
theorem Z0v:Opn Tryz.prog 95 KE.row:=by
 intro H enc w base sp h6 fuel cs x h
 obtain ⟨xs,n,_,_,hl,h8,hf⟩:=DataW.trod_struct Tryz.underlying95 h
 rw [show Tryz.prog.cellsOf 95=2 from by kernel_rfl] at hl
 have c0:DataW.trod enc Tryz.prog w base sp h6 n 3 ((cs.drop 0).take (Tryz.prog.cellsOf 3))=xs[0]?:=hf 0 _ rfl
 rw [show Tryz.prog.cellsOf 3=1 from by kernel_rfl] at c0
 have h9:0<xs.length:=by rw [h8];decide
 obtain ⟨y0,hd⟩:∃y,xs[0]?=some y:=⟨_,List.getElem?_eq_getElem h9⟩
 obtain ⟨v0,k0⟩:=(opn_int Tryz.underlying3) enc w _ _ _ _ _ _ (c0.trans hd)
 have c1:DataW.trod enc Tryz.prog w base sp h6 n 3 ((cs.drop 1).take (Tryz.prog.cellsOf 3))=xs[1]?:=hf 1 _ rfl
 rw [show Tryz.prog.cellsOf 3=1 from by kernel_rfl] at c1
 have hc:1<xs.length:=by rw [h8];decide
 obtain ⟨y1,hy1⟩:∃y,xs[1]?=some y:=⟨_,List.getElem?_eq_getElem hc⟩
 obtain ⟨v1,k1⟩:=(opn_int Tryz.underlying3) enc w _ _ _ _ _ _ (c1.trans hy1)
 have e:cs=(cs.drop 0).take 1++(cs.drop 1).take 1:=by
  match cs,hl with
  | [a0,a1],_=>rfl
 rw [e]
 exact ⟨⟨v0,v1⟩,(Zk1 k0 k1)⟩
theorem Z1v:Opn Tryz.prog 33 (Z15 2 KE.row):=opn_slice (n:=2) (row:=KE.row) Tryz.underlying33 (by kernel_rfl) (by decide) (fun _=>⟨rfl,rfl,rfl⟩) Z0v
theorem Z2v:Opn Tryz.prog 35 Node.row:=by
 intro H enc w base sp h6 fuel cs x h
 obtain ⟨xs,n,_,_,hl,h8,hf⟩:=DataW.trod_struct Tryz.underlying35 h
 rw [show Tryz.prog.cellsOf 35=10 from by kernel_rfl] at hl
 have c0:DataW.trod enc Tryz.prog w base sp h6 n 29 ((cs.drop 0).take (Tryz.prog.cellsOf 29))=xs[0]?:=hf 0 _ rfl
 rw [show Tryz.prog.cellsOf 29=5 from by kernel_rfl] at c0
 have h9:0<xs.length:=by rw [h8];decide
 obtain ⟨y0,ho⟩:∃y,xs[0]?=some y:=⟨_,List.getElem?_eq_getElem h9⟩
 obtain ⟨v0,k0⟩:=Zwu enc w _ _ _ _ _ _ (c0.trans ho)
 have c1:DataW.trod enc Tryz.prog w base sp h6 n 32 ((cs.drop 5).take (Tryz.prog.cellsOf 32))=xs[1]?:=hf 1 _ rfl
 rw [show Tryz.prog.cellsOf 32=2 from by kernel_rfl] at c1
 have hc:1<xs.length:=by rw [h8];decide
 obtain ⟨y1,hy1⟩:∃y,xs[1]?=some y:=⟨_,List.getElem?_eq_getElem hc⟩
 obtain ⟨v1,k1⟩:=Zzu enc w _ _ _ _ _ _ (c1.trans hy1)
 have c2:DataW.trod enc Tryz.prog w base sp h6 n 33 ((cs.drop 7).take (Tryz.prog.cellsOf 33))=xs[2]?:=hf 2 _ rfl
 rw [show Tryz.prog.cellsOf 33=1 from by kernel_rfl] at c2
 have hd:2<xs.length:=by rw [h8];decide
 obtain ⟨y2,hw⟩:∃y,xs[2]?=some y:=⟨_,List.getElem?_eq_getElem hd⟩
 obtain ⟨v2,k2⟩:=Z1v enc w _ _ _ _ _ _ (c2.trans hw)
 have c3:DataW.trod enc Tryz.prog w base sp h6 n 27 ((cs.drop 8).take (Tryz.prog.cellsOf 27))=xs[3]?:=hf 3 _ rfl
 rw [show Tryz.prog.cellsOf 27=1 from by kernel_rfl] at c3
 have he:3<xs.length:=by rw [h8];decide
 obtain ⟨y3,hA⟩:∃y,xs[3]?=some y:=⟨_,List.getElem?_eq_getElem he⟩
 obtain ⟨v3,k3⟩:=Zvu enc w _ _ _ _ _ _ (c3.trans hA)
 have c4:DataW.trod enc Tryz.prog w base sp h6 n 33 ((cs.drop 9).take (Tryz.prog.cellsOf 33))=xs[4]?:=hf 4 _ rfl
 rw [show Tryz.prog.cellsOf 33=1 from by kernel_rfl] at c4
 have hn:4<xs.length:=by rw [h8];decide
 obtain ⟨y4,hB⟩:∃y,xs[4]?=some y:=⟨_,List.getElem?_eq_getElem hn⟩
 obtain ⟨v4,k4⟩:=Z1v enc w _ _ _ _ _ _ (c4.trans hB)
 have e:cs=(cs.drop 0).take 5++(cs.drop 5).take 2++(cs.drop 7).take 1++(cs.drop 8).take 1++(cs.drop 9).take 1:=by
  match cs,hl with
  | [a0,a1,a2,a3,a4,a5,a6,a7,a8,a9],_=>rfl
 rw [e]
 exact ⟨⟨v0,v1,v2,v3,v4⟩,(Zk1 (Zk1 (Zk1 (Zk1 k0 k1) k2) k3) k4)⟩
theorem Z3v:Opn Tryz.prog 38 Do.row:=by
 intro H enc w base sp h6 fuel cs x h
 obtain ⟨xs,n,_,_,hl,h8,hf⟩:=DataW.trod_struct Tryz.underlying38 h
 rw [show Tryz.prog.cellsOf 38=5 from by kernel_rfl] at hl
 have c0:DataW.trod enc Tryz.prog w base sp h6 n 36 ((cs.drop 0).take (Tryz.prog.cellsOf 36))=xs[0]?:=hf 0 _ rfl
 rw [show Tryz.prog.cellsOf 36=1 from by kernel_rfl] at c0
 have h9:0<xs.length:=by rw [h8];decide
 obtain ⟨y0,ho⟩:∃y,xs[0]?=some y:=⟨_,List.getElem?_eq_getElem h9⟩
 obtain ⟨v0,k0⟩:=(opn_int Tryz.underlying36) enc w _ _ _ _ _ _ (c0.trans ho)
 have c1:DataW.trod enc Tryz.prog w base sp h6 n 3 ((cs.drop 1).take (Tryz.prog.cellsOf 3))=xs[1]?:=hf 1 _ rfl
 rw [show Tryz.prog.cellsOf 3=1 from by kernel_rfl] at c1
 have hc:1<xs.length:=by rw [h8];decide
 obtain ⟨y1,hy1⟩:∃y,xs[1]?=some y:=⟨_,List.getElem?_eq_getElem hc⟩
 obtain ⟨v1,k1⟩:=(opn_int Tryz.underlying3) enc w _ _ _ _ _ _ (c1.trans hy1)
 have c2:DataW.trod enc Tryz.prog w base sp h6 n 3 ((cs.drop 2).take (Tryz.prog.cellsOf 3))=xs[2]?:=hf 2 _ rfl
 rw [show Tryz.prog.cellsOf 3=1 from by kernel_rfl] at c2
 have hd:2<xs.length:=by rw [h8];decide
 obtain ⟨y2,hw⟩:∃y,xs[2]?=some y:=⟨_,List.getElem?_eq_getElem hd⟩
 obtain ⟨v2,k2⟩:=(opn_int Tryz.underlying3) enc w _ _ _ _ _ _ (c2.trans hw)
 have c3:DataW.trod enc Tryz.prog w base sp h6 n 3 ((cs.drop 3).take (Tryz.prog.cellsOf 3))=xs[3]?:=hf 3 _ rfl
 rw [show Tryz.prog.cellsOf 3=1 from by kernel_rfl] at c3
 have he:3<xs.length:=by rw [h8];decide
 obtain ⟨y3,hA⟩:∃y,xs[3]?=some y:=⟨_,List.getElem?_eq_getElem he⟩
 obtain ⟨v3,k3⟩:=(opn_int Tryz.underlying3) enc w _ _ _ _ _ _ (c3.trans hA)
 have c4:DataW.trod enc Tryz.prog w base sp h6 n 27 ((cs.drop 4).take (Tryz.prog.cellsOf 27))=xs[4]?:=hf 4 _ rfl
 rw [show Tryz.prog.cellsOf 27=1 from by kernel_rfl] at c4
 have hn:4<xs.length:=by rw [h8];decide
 obtain ⟨y4,hB⟩:∃y,xs[4]?=some y:=⟨_,List.getElem?_eq_getElem hn⟩
 obtain ⟨v4,k4⟩:=Zvu enc w _ _ _ _ _ _ (c4.trans hB)
 have e:cs=(cs.drop 0).take 1++(cs.drop 1).take 1++(cs.drop 2).take 1++(cs.drop 3).take 1++(cs.drop 4).take 1:=by
  match cs,hl with
  | [a0,a1,a2,a3,a4],_=>rfl
 rw [e]
 exact ⟨⟨v0,v1,v2,v3,v4⟩,(Zk1 (Zk1 (Zk1 (Zk1 k0 k1) k2) k3) k4)⟩
theorem Z4v:Opn Tryz.prog 41 Msg.row:=by
 intro H enc w base sp h6 fuel cs x h
 obtain ⟨xs,n,_,_,hl,h8,hf⟩:=DataW.trod_struct Tryz.underlying41 h
 rw [show Tryz.prog.cellsOf 41=3 from by kernel_rfl] at hl
 have c0:DataW.trod enc Tryz.prog w base sp h6 n 39 ((cs.drop 0).take (Tryz.prog.cellsOf 39))=xs[0]?:=hf 0 _ rfl
 rw [show Tryz.prog.cellsOf 39=1 from by kernel_rfl] at c0
 have h9:0<xs.length:=by rw [h8];decide
 obtain ⟨y0,he⟩:∃y,xs[0]?=some y:=⟨_,List.getElem?_eq_getElem h9⟩
 obtain ⟨v0,k0⟩:=(opn_int Tryz.underlying39) enc w _ _ _ _ _ _ (c0.trans he)
 have c1:DataW.trod enc Tryz.prog w base sp h6 n 3 ((cs.drop 1).take (Tryz.prog.cellsOf 3))=xs[1]?:=hf 1 _ rfl
 rw [show Tryz.prog.cellsOf 3=1 from by kernel_rfl] at c1
 have hc:1<xs.length:=by rw [h8];decide
 obtain ⟨y1,hy1⟩:∃y,xs[1]?=some y:=⟨_,List.getElem?_eq_getElem hc⟩
 obtain ⟨v1,k1⟩:=(opn_int Tryz.underlying3) enc w _ _ _ _ _ _ (c1.trans hy1)
 have c2:DataW.trod enc Tryz.prog w base sp h6 n 3 ((cs.drop 2).take (Tryz.prog.cellsOf 3))=xs[2]?:=hf 2 _ rfl
 rw [show Tryz.prog.cellsOf 3=1 from by kernel_rfl] at c2
 have hd:2<xs.length:=by rw [h8];decide
 obtain ⟨y2,hn⟩:∃y,xs[2]?=some y:=⟨_,List.getElem?_eq_getElem hd⟩
 obtain ⟨v2,k2⟩:=(opn_int Tryz.underlying3) enc w _ _ _ _ _ _ (c2.trans hn)
 have e:cs=(cs.drop 0).take 1++(cs.drop 1).take 1++(cs.drop 2).take 1:=by
  match cs,hl with
  | [a0,a1,a2],_=>rfl
 rw [e]
 exact ⟨⟨v0,v1,v2⟩,(Zk1 (Zk1 k0 k1) k2)⟩
theorem Z5v:laidOutB Tryz.prog=true:=by kernel_rfl
theorem own_nodeStill:ownKnob Tryz.prog.godebug=none:=by kernel_rfl
theorem Z6v (H:Type) (enc:TypeId×Value→H) (W:World) (base:Nat) (args:Array Value) (ds gs:List (DataW H)) (before:List MemPlace)
  (h6:∀(j:Nat) t v,Tryz.f3.params[j]?=some t→args[j]?=some v→Value.okWide Tryz.prog W .any base t v)
  (hW:DataW.Whole enc Tryz.prog Tryz.f3.params.toList Rows.nodeStillSpec.vars false W args.toList ds gs before):
  Calls Tryz.prog 3 args W fun e W'=>∃v,e = .returned v∧Rows.nodeStillSpec.post enc Tryz.prog Tryz.f3 false true false false W args v W':=by
 have h8:=hW
 obtain ⟨p,q,h9,hV,rfl,hn,ho⟩:=hW
 have hA:DataW.TrodAll enc Tryz.prog W 0 (fun _=>true) true Tryz.f3.params.toList args.toList ds p:=h9
 rw [Tryz.params3] at hA h6
 obtain ⟨v0,vs0,d0,ds0,p0,q0,hc,rfl,rfl,h0,r0⟩:=trodAll_cons hA
 obtain ⟨v1,vs1,d1,ds1,p1,q1,hd,rfl,rfl,h1,r1⟩:=trodAll_cons r0
 obtain ⟨v2,vs2,d2,ds2,p2,q2,he,rfl,rfl,h2,r2⟩:=trodAll_cons r1
 obtain ⟨v3,vs3,d3,ds3,p3,q3,hf,rfl,rfl,h3,r3⟩:=trodAll_cons r2
 obtain ⟨hz,rfl,rfl⟩:=trodAll_nil r3
 obtain rfl:args = #[v0,v1,v2,v3]:=by cases args;simp_all
 obtain ⟨x1,k0⟩:=arg_agg Z2v Tryz.underlying35 (h6 0 35 v0 rfl rfl) h0
 obtain ⟨x2,k1⟩:=arg_agg Z3v Tryz.underlying38 (h6 1 38 v1 rfl rfl) h1
 obtain ⟨x3,k2⟩:=arg_int Tryz.underlying3 (h6 2 3 v2 rfl rfl) h2
 obtain ⟨x4,k3⟩:=arg_agg Z4v Tryz.underlying41 (h6 3 41 v3 rfl rfl) h3
 refine (Zin x1 x2 x3 x4 true (Zru x1 x2 x3 x4) (fun k=>W.heap[k]?) W [v0,v1,v2,v3] (fun _ _ h=>h) (fun _ hs=>absurd hs List.not_mem_nil) ⟨v0,_,rfl,k0,⟨v1,_,rfl,k1,⟨v2,_,rfl,k2,⟨v3,_,rfl,k3,rfl⟩⟩⟩⟩).mono ?_
 rintro e W' ⟨v,H',rfl,hB,_,_,hv⟩
 have hv:v = .bool true:=hv
 subst hv
 exact ⟨_,rfl,law_post Z5v (by kernel_rfl) rfl (rfl:Tryz.f3.resultTypes = #[4]) Tryz.underlying4 (fun _=>rfl) h8 hB⟩
theorem Z7v (os:Os) (started:os.Started) (H:Type) (enc:TypeId×Value→H):
  ReturnsInHanded {} Tryz.checked os 3 .any (Rows.nodeStillSpec.pre6 enc Tryz.prog Tryz.f3 Rows.nodeStillRow.domain false) (Rows.nodeStillSpec.post enc Tryz.prog Tryz.f3 false true false false):=by
 refine returnsInHanded_of_change (C:=Tryz.checked) own_nodeStill started (by kernel_rfl) Tryz.func3
  (ChangeSpec.witness6 (enc:=enc) (C:=Tryz.checked) false ⟨#[], #[.agg #[.int .i64 0,.int .i64 0,.slice none 0 0,.int .i64 0,.slice none 0 0,.int .i64 0,.slice none 0 0,.slice none 0 0,.slice none 0 0,.slice none 0 0],.agg #[.int .i64 0,.int .i64 0,.int .i64 0,.int .i64 0,.slice none 0 0],.int .i64 0,.agg #[.int .i64 0,.int .i64 0,.int .i64 0]],[]⟩ 8 (by kernel_rfl) (by kernel_rfl) (by kernel_rfl) (by kernel_rfl)) ?_
 intro W base args ds gs before h6 hW _ _
 exact Z6v H enc W base args ds gs before h6 hW
theorem nodeStill_holds:Rows.NodeStillSaid:=
 OpenClaim.holds_of_wide 3 Tryz.f3 rfl rfl rfl rfl rfl rfl rfl ⟨rfl,rfl,rfl,rfl,rfl⟩ rfl rfl rfl rfl rfl (by kernel_rfl) Tryz.func3 (by kernel_rfl)
  (of_decide_eq_true (by kernel_rfl)) (by unfold Func.isWrapper;first | (rw [if_pos (by decide +kernel)];kernel_rfl) | (rw [if_neg (by decide +kernel)];exact ⟨rfl,rfl⟩))
  (fun os started H enc _=>Z7v os started H enc)
#print axioms nodeStill_holds
end NX
end Go.Proofs.YtdjkbodnjhgbcaaGreat
