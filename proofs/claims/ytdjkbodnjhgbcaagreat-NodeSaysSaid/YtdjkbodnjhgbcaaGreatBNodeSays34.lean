/-
  Plain laws: what is done with a node. No statement of the seat is proved here.
-/
import Derived.Test.YtdjkbodnjhgbcaaGreatRows
import Derived.Test.YtdjkbodnjhgbcaaGreatBNodeSays33
set_option maxRecDepth 100000
set_option maxHeartbeats 4000000
namespace Go.Proofs.YtdjkbodnjhgbcaaGreat
namespace NX
open Go
def Z8u (n:Node):List Side×List Int×List KE×List Int×List KE×List Sess:=(n.DK.DI.SD,n.DK.Need,n.KN,n.Told,n.AK,n.Book.Sess)
def k03 (a:Do):Bool:=decide (a.Kind=0∨a.Kind=1∨a.Kind=2∨a.Kind=3)
theorem act_begin (n:Node) (a:Do) (hf:FewN n):Zfl n a=Zel n a (Z8u n) (if okN n then 0 else 180) (plc (Zst n.DK.DI.SD a.Peer)) (Zsq n.KN a.Peer) (k03 a):=by
 have hS:=hf.sides
 unfold Zfl
 rw [s_own2 n hf,OB,Z0r n hf,OB,s_place _ _ (show _≤_ by dsimp only;omega),OB,s_epoch n hf,OB]
 unfold k03 Z8u
 by_cases c0:a.Kind=0
 ·simp [c0,ifb]
 ·by_cases c1:a.Kind=1
  ·simp [c1,ifb]
  ·by_cases c2:a.Kind=2
   ·simp [c2,ifb]
   ·by_cases c3:a.Kind=3
    ·simp [c3,ifb]
    ·simp [c0,c1,c2,c3,ifb]
theorem s_ActBad (n:Node) (a:Do) (hf:FewN n) (hk:okN n=false):Zfl n a=some (Z4u,[],[],180):=by
 have h6:Zal (Z8u n) (n.DK.DI.ID,n.DK.DI.PH,n.DK.TH,n.Book.Last,n.Book.Sess,180,n.DK.DI.SD,n.DK.Need,n.KN,[])=some (Z4u,[],[],180):=Z7u n [] 180 (Z8u n) rfl rfl (fun e=>by omega) (by simp)
 have hn:∀(is:Bool) (c:Int),Znt is c 180=180:=fun is c=>Zpt is (by omega)
 rw [act_begin n a hf,hk]
 dsimp only [Zel]
 rw [if_neg (by simp)]
 cases k03 a with
 | true=>exact h6
 | false=>
   rw [Zwn]
   have j3:Zbl n a (Z8u n) (plc (Zst n.DK.DI.SD a.Peer)) (Zsq n.KN a.Peer) 180=some (Z4u,[],[],180):=by
    dsimp only [Zbl]
    rw [Zot,OB,hn,Zot,OB,hn]
    exact h6
   have j4:Zdl n a (Z8u n) (plc (Zst n.DK.DI.SD a.Peer)) 180=some (Z4u,[],[],180):=by
    dsimp only [Zdl]
    rw [Zot,OB,hn]
    exact h6
   have n2:∀(is:Bool),Z3c is 182 n.DK.DI.ID n.DK.DI.PH n.DK.TH n.Book.Last 180 (Z8u n).1 (Z8u n).2.1 (Z8u n).2.2.2.2.2 (Z8u n).2.2.1 (Z8u n).2.2.2.1 (Z8u n).2.2.2.2.1=some (false,180):=fun is=>by rw [Zot,hn];rfl
   have n3:∀c,Z7c c n.DK.DI.ID n.DK.DI.PH n.DK.TH n.Book.Last 180 (Z8u n).1 (Z8u n).2.1 (Z8u n).2.2.2.2.2 (Z8u n).2.2.1 (Z8u n).2.2.2.1 (Z8u n).2.2.2.2.1=some (false,180):=fun c=>by rw [s_need3,hn];rfl
   cases decide (a.Kind=4) with
   | true=>
     rw [Zvn,n2,n3,OB,j3]
     cases decide (n.DK.DI.ID<a.Peer)<;>rfl
   | false=>
     rw [Zwn]
     cases decide (a.Kind=5) with
     | true=>
       rw [Zvn,n2,n3,OB,j4]
       cases decide (n.DK.DI.ID<a.Peer)<;>rfl
     | false=>
       rw [Zwn,n3,OB]
       exact h6
theorem actN_ok {n:Node} {a:Do} (h:OkN n) (he:(Z6u n a).1=0):OkN (Z6u n a).2.1∧(Z6u n a).2.1.DK.DI.ID=n.DK.DI.ID∧(Z6u n a).2.1.Told=n.Told∧(Z6u n a).2.1.AK=n.AK∧(∀v∈(Z6u n a).2.2,EvOK n.DK.DI.ID v∧v.Kind≠1)∧(Z6u n a).2.2.length≤1000:=by
 revert he
 unfold Z6u
 split
 ·intro he
  obtain ⟨h1,h2,h3,h4,h5,h6,h7⟩:=sessN_ok h he
  exact ⟨h1,by rw [h2],h3,h4,h6,by omega⟩
 ·split
  ·split
   ·rename_i hp
    cases h8:Zst n.DK.DI.SD a.Peer with
    | some j=>intro he;simp at he
    | none=>
      dsimp only
      split
      ·rename_i hq
       intro _
       have h0:=epoch0 h.kup (fun k hk=>(h.kr k hk).2.2) a.Peer
       have hc:=h.dr.din.id0
       refine ⟨h.put (x:=addS n a.Peer) ⟨by show 0≤a.Peer;omega,hp.2,by show a.Peer≠_;omega⟩ (Zut h8) ⟨by show 1≤Zsq n.KN a.Peer+1;omega,by show Zsq n.KN a.Peer+1≤65535;omega⟩ (.inr ⟨rfl,by show n.DK.DI.ID≤a.Peer;omega⟩) (fun _=>rfl) (fun k hk=>⟨hk,by have:=h.may k hk;show k.Peer≠a.Peer;omega⟩) h.dis,rfl,rfl,rfl,by simp,by simp⟩
      ·intro he;simp at he
   ·intro he;simp at he
  ·split
   ·split
    ·cases h8:Zst n.DK.DI.SD a.Peer with
     | none=>intro he;simp at he
     | some j=>
       dsimp only
       obtain ⟨x,hx,hd⟩:=Ztt h8
       rw [hx]
       dsimp only
       split
       ·rename_i h0
        intro _
        have hg:=Zkt a.Peer n.Book.Sess
        have hb:=((Zcs _).1 h.bk).len
        have h9:(Z0u n j x).DK.DI.ID=n.DK.DI.ID:=by unfold Z0u;dsimp only;split<;>rfl
        refine ⟨h.shut hx h0,h9,rfl,rfl,fun v hv=>?_,by unfold Z2u Z1u;simp only [List.length_cons,List.length_map];omega⟩
        rcases List.mem_cons.1 hv with rfl | hv
        ·exact ⟨⟨rfl,fun _=>rfl,fun q=>by have q:(7:Int)<6:=q;omega,fun _=>rfl⟩,by show (7:Int)≠1;omega⟩
        ·obtain ⟨i,_,rfl⟩:=List.mem_map.1 hv
         exact ⟨⟨rfl,fun q=>by have q:(6:Int)≤5:=q;omega,fun _=>rfl,fun _=>rfl⟩,by show (5:Int)≠1;omega⟩
       ·intro he;simp at he
    ·intro he;simp at he
   ·intro he;simp at he
theorem s_Act (n:Node) (a:Do) (h:OkN n) (ha:a.Need.length≤1000):Zfl n a=some (Z5u (Z6u n a).1 (Z6u n a).2.1 (Z6u n a).2.2):=by
 have hf:=h.few
 have hok:=fun he=>actN_ok (a:=a) h he
 have bad:∀e:Int,e≠0→Zal (Z8u n) (n.DK.DI.ID,n.DK.DI.PH,n.DK.TH,n.Book.Last,n.Book.Sess,e,n.DK.DI.SD,n.DK.Need,n.KN,[])=some (Z5u e n []):=fun e he=>Z7u n [] e (Z8u n) rfl rfl (fun q=>absurd q he) (by simp)
 have n2:∀(is:Bool) (c e:Int),Z3c is c n.DK.DI.ID n.DK.DI.PH n.DK.TH n.Book.Last e (Z8u n).1 (Z8u n).2.1 (Z8u n).2.2.2.2.2 (Z8u n).2.2.1 (Z8u n).2.2.2.1 (Z8u n).2.2.2.2.1=some (decide (Znt is c e=0),Znt is c e):=fun is c e=>Zot _ _ _ _ _ _ _ _ _ _ _ _ _
 have n3:∀c e,Z7c c n.DK.DI.ID n.DK.DI.PH n.DK.TH n.Book.Last e (Z8u n).1 (Z8u n).2.1 (Z8u n).2.2.2.2.2 (Z8u n).2.2.1 (Z8u n).2.2.2.1 (Z8u n).2.2.2.2.1=some (decide (Znt false c e=0),Znt false c e):=fun c e=>s_need3 _ _ _ _ _ _ _ _ _ _ _ _
 rw [act_begin n a hf,(Zbs n).2 h,if_pos rfl]
 dsimp only [Zel];unfold k03
 by_cases hk:a.Kind=0∨a.Kind=1∨a.Kind=2∨a.Kind=3
 ·have eA:Z6u n a=Zxt n a:=by unfold Z6u;rw [if_pos hk]
  rw [eA] at hok ⊢
  rw [DT hk,Zvn,DT rfl,Zvn]
  have hs:=s_sessions n a h ha
  have hs:Z6k a n.DK.DI.ID n.DK.DI.PH n.DK.TH n.Book.Last 0 (Z8u n).1 (Z8u n).2.1 (Z8u n).2.2.2.2.2 (Z8u n).2.2.1 (Z8u n).2.2.2.1 (Z8u n).2.2.2.2.1=_:=hs
  rw [hs,OB]
  by_cases he:(Zxt n a).1=0
  ·obtain ⟨h1,_,h3,h4,h5,h6⟩:=hok he
   obtain ⟨_,_,_,_,q5,_⟩:=sessN_ok h he
   have:=Z7u (Zxt n a).2.1 (Zxt n a).2.2 (Zxt n a).1 (Z8u n) h3.symm h4.symm (fun _=>h1) (by omega)
   rw [q5] at this
   exact this
  ·have e:(Zxt n a).2.1=n∧(Zxt n a).2.2=[]:=by
    revert he
    unfold Zxt
    split
    ·split
     ·split
      ·intro he;exact absurd rfl he
      ·intro _;exact ⟨rfl,rfl⟩
     ·intro _;exact ⟨rfl,rfl⟩
    ·split
     ·split
      ·intro he;exact absurd rfl he
      ·intro _;exact ⟨rfl,rfl⟩
     ·split
      ·split
       ·intro he;exact absurd rfl he
       ·intro _;exact ⟨rfl,rfl⟩
      ·split
       ·split
        ·intro he;exact absurd rfl he
        ·intro he;exact absurd rfl he
       ·intro he;exact absurd rfl he
   have:=bad (Zxt n a).1 he
   rw [e.1,e.2]
   exact this
 ·rw [DN hk,Zwn]
  unfold Z6u
  rw [if_neg hk]
  by_cases k4:a.Kind=4
  ·rw [DT k4,Zvn,if_pos k4]
   have j3b:∀e:Int,e≠0→Zbl n a (Z8u n) (plc (Zst n.DK.DI.SD a.Peer)) (Zsq n.KN a.Peer) e=some (Z5u e n []):=fun e he=>by
    dsimp only [Zbl]
    rw [n2,OB,Zpt _ he,n2,OB,Zpt _ he,DN he]
    exact bad e he
   by_cases c1:n.DK.DI.ID<a.Peer
   ·rw [DT c1,Zvn,n2,OB]
    by_cases c2:a.Peer<64
    ·rw [DT c2,Zqt,if_pos ⟨c1,c2⟩]
     dsimp only [Zbl]
     rw [n2,OB]
     cases h8:Zst n.DK.DI.SD a.Peer with
     | some j=>
       rw [show plc (some j)=(j:Int) from rfl,DN (show ¬(j:Int)<0 by omega),Zrt]
       dsimp only
       rw [n2,OB,Zpt _ (by omega)]
       exact bad 183 (by omega)
     | none=>
       rw [show plc none = -1 from rfl,DT (show (-1:Int)<0 by omega),Zqt]
       dsimp only
       rw [n2,OB]
       by_cases c3:Zsq n.KN a.Peer<65535
       ·have eA:Z6u n a=(0,putN n (addS n a.Peer) n.AK,[]):=by
         unfold Z6u;rw [if_neg hk,if_pos k4,if_pos ⟨c1,c2⟩,h8];dsimp only;rw [if_pos c3]
        rw [if_pos c3]
        rw [DT c3,Zqt,DT rfl,Zvn]
        have h0:=epoch0 h.kup (fun k hk=>(h.kr k hk).2.2) a.Peer
        have hc:Zni (addS n a.Peer) n.DK.DI.ID n.DK.DI.PH n.DK.TH n.Book.Last 0 (Z8u n).1 (Z8u n).2.1 (Z8u n).2.2.2.2.2 (Z8u n).2.2.1 (Z8u n).2.2.2.1 (Z8u n).2.2.2.2.1=some (putS n.DK.DI.SD (addS n a.Peer),Z2r n.KN (addS n a.Peer).Peer (addS n a.Peer).Epoch):=s_put1 (addS n a.Peer) _ _ _ _ _ _ _ _ _ _ _ h.rowS h.rowK (by have:=h.dr.din.id0;show -100000≤a.Peer∧a.Peer≤100000;omega)
        rw [show (⟨a.Peer,wr (Zsq n.KN a.Peer+1),1,true,true,false,true,false⟩:Side)=addS n a.Peer by unfold addS;rw [Zyn (by omega) (by omega)],hc,OB]
        obtain ⟨h1,_,h3,h4,h5,h6⟩:=hok (by rw [eA])
        rw [eA] at h1
        exact Z7u (putN n (addS n a.Peer) n.AK) [] 0 (Z8u n) rfl rfl (fun _=>h1) (by simp)
       ·rw [if_neg c3,DN c3,Zrt]
        dsimp only
        rw [DN (show ¬(186:Int)=0 by omega),Zwn]
        exact bad 186 (by omega)
    ·rw [DN c2,Zrt,if_neg fun q=>c2 q.2]
     exact j3b 182 (by omega)
   ·rw [DN c1,Zwn,n3,OB,Zrt,if_neg fun q=>c1 q.1]
    exact j3b 182 (by omega)
  ·rw [DN k4,Zwn,if_neg k4]
   by_cases k5:a.Kind=5
   ·rw [DT k5,Zvn,if_pos k5]
    have j4b:∀e:Int,e≠0→Zdl n a (Z8u n) (plc (Zst n.DK.DI.SD a.Peer)) e=some (Z5u e n []):=fun e he=>by
     dsimp only [Zdl]
     rw [n2,OB,Zpt _ he,DN he]
     exact bad e he
    by_cases c1:n.DK.DI.ID<a.Peer
    ·rw [DT c1,Zvn,n2,OB]
     by_cases c2:a.Peer<64
     ·rw [DT c2,Zqt,if_pos ⟨c1,c2⟩]
      dsimp only [Zdl]
      rw [n2,OB]
      cases h8:Zst n.DK.DI.SD a.Peer with
      | none=>
        rw [show plc none = -1 from rfl,DN (show ¬(0:Int)≤ -1 by omega),Zrt]
        exact bad 184 (by omega)
      | some j=>
        obtain ⟨x,hx,hd⟩:=Ztt h8
        rw [show plc (some j)=(j:Int) from rfl,DT (show (0:Int)≤j by omega),Zqt]
        dsimp only
        rw [DT rfl,Zvn,show (Z8u n).1=n.DK.DI.SD from rfl,Zzn hx,OB,hx]
        dsimp only
        have hn:Z29 x=some (decide (x.State=0)):=rfl
        rw [hn,OB,Zot,OB]
        dsimp only [Zcl]
        by_cases h0:x.State=0
        ·rw [if_pos h0,DT h0,Zqt,DT rfl,Zvn]
         have h9:=s_shut n h a.Peer j x h8 hx hd 0
         have h9:Zdk a.Peer n.DK.DI.ID n.DK.DI.PH n.DK.TH n.Book.Last 0 (Z8u n).1 (Z8u n).2.1 (Z8u n).2.2.2.2.2 (Z8u n).2.2.1 (Z8u n).2.2.2.1 (Z8u n).2.2.2.2.1=_:=h9
         rw [h9,OB]
         have hg:=Zkt a.Peer n.Book.Sess
         have hb:=((Zcs _).1 h.bk).len
         exact Z7u (Z0u n j x) (Z2u n a.Peer) 0 (Z8u n) rfl rfl (fun _=>h.shut hx h0) (by unfold Z2u Z1u;simp only [List.length_cons,List.length_map];omega)
        ·rw [if_neg h0,DN h0,Zrt,DN (show ¬(185:Int)=0 by omega),Zwn]
         exact bad 185 (by omega)
     ·rw [DN c2,Zrt,if_neg fun q=>c2 q.2]
      exact j4b 182 (by omega)
    ·rw [DN c1,Zwn,n3,OB,Zrt,if_neg fun q=>c1 q.1]
     exact j4b 182 (by omega)
   ·rw [DN k5,Zwn,if_neg k5,n3,OB,Zrt]
    exact bad 188 (by omega)
theorem OkN.sides {n:Node} (h:OkN n) {S:List Side} (hc:S.map Zes=n.DK.DI.SD.map Zes) (hd:∀x∈S,x.DY=true→x.Fork=true):OkN ⟨⟨⟨n.DK.DI.ID,n.DK.DI.PH,S⟩,n.DK.TH,n.DK.Need⟩,n.Book,n.KN,n.Told,n.AK⟩:=by
 have side:∀ {x:Side},x∈S→∃y∈n.DK.DI.SD,y.Peer=x.Peer∧y.Epoch=x.Epoch∧y.State=x.State:=fun hx=>Zjs hc hx
 have edis:∀ {x:Side},x∈n.DK.DI.SD→∃y∈S,y.Peer=x.Peer∧y.Epoch=x.Epoch∧y.State=x.State:=fun hx=>Zjs hc.symm hx
 have hl:S.length=n.DK.DI.SD.length:=by have:=congrArg List.length hc;rwa [List.length_map,List.length_map] at this
 refine {h with
  dr:=⟨⟨h.dr.din.id0,h.dr.din.p0,h.dr.din.p2,by show S.length<64;rw [hl];exact h.dr.din.len,pw_peers (core_peers hc) h.dr.din.up,fun x hx=>?_⟩,h.dr.t0,h.dr.t2,h.dr.up,h.dr.nz,fun p hp=>?_⟩
  may:=fun k hk=>⟨fun x hx=>?_,(h.may k hk).2⟩
  sd:=fun x hx=>?_
  tin:=fun p hp=>?_
  nl:=fun x hx hn=>?_
  wt:=fun s hs h0 p hp=>?_}
 ·obtain ⟨y,hy,e1,e2,e3⟩:=side hx
  have:=h.dr.din.side y hy
  exact ⟨by rw [←e1];exact this.lo,by rw [←e1];exact this.ne,by rw [←e2];exact this.e0,by rw [←e2];exact this.e1,by rw [←e3];exact this.s0,by rw [←e3];exact this.s3,hd x hx⟩
 ·obtain ⟨x,hx,e⟩:=h.dr.has p hp
  obtain ⟨y,hy,e1,_⟩:=edis hx
  exact ⟨y,hy,by omega⟩
 ·obtain ⟨y,hy,e1,_⟩:=side hx
  rw [←e1];exact (h.may k hk).1 y hy
 ·obtain ⟨y,hy,e1,e2,e3⟩:=side hx
  have:=h.sd y hy
  rw [←e1,←e2,←e3];exact this
 ·obtain ⟨x,hx,e,e'⟩:=h.tin p hp
  obtain ⟨y,hy,e1,_,e3⟩:=edis hx
  exact ⟨y,hy,by omega,by omega⟩
 ·obtain ⟨y,hy,e1,_,e3⟩:=side hx
  rw [←e3]
  exact h.nl y hy (by rw [e1];exact hn)
 ·obtain ⟨x,hx,e,e'⟩:=h.wt s hs h0 p hp
  obtain ⟨y,hy,e1,_,e3⟩:=edis hx
  exact ⟨y,hy,by omega,by omega⟩
theorem layK_core (k:Int) (x:Side):Zes (layK k x)=Zes x:=by
 unfold layK;split
 ·rfl
 ·split
  ·rfl
  ·split<;>rfl
theorem layK_dirty (k:Int) (x:Side) (h:x.DY=true→x.Fork=true):(layK k x).DY=true→(layK k x).Fork=true:=by
 unfold layK;split
 ·exact fun _=>rfl
 ·split
  ·exact h
  ·split<;>exact h
theorem set_core {S:List Side} {j:Nat} {x y:Side} (h:S[j]?=some x) (hc:Zes y=Zes x):(S.set j y).map Zes=S.map Zes:=by
 obtain ⟨e1,e2⟩:=Zyt h y
 rw [e2]
 conv=>rhs;rw [e1]
 simp [hc]
def layN (n:Node) (j:Nat) (x:Side) (k:Int):Node:=⟨⟨⟨n.DK.DI.ID,n.DK.DI.PH,n.DK.DI.SD.set j (layK k x)⟩,n.DK.TH,n.DK.Need⟩,n.Book,n.KN,n.Told,n.AK⟩
theorem OkN.lay {n:Node} (h:OkN n) {j:Nat} {x:Side} (hx:n.DK.DI.SD[j]?=some x) (k:Int):OkN (layN n j x k):=by
 refine h.sides (set_core hx (layK_core k x)) fun z hz=>?_
 rcases (Zzt h.rowS.up hx _).1 hz with rfl | ⟨hz,_⟩
 ·exact layK_dirty k x (h.dr.din.side x (List.mem_of_getElem? hx)).df
 ·exact (h.dr.din.side z hz).df
def askN (n:Node) (k:KE):Node:=⟨n.DK,n.Book,n.KN,n.Told,n.AK++[k]⟩
theorem OkN.ask {n:Node} (h:OkN n) {k:KE} (hm:mayB n k=true) (hd:Ztq (n.AK++[k])=true):OkN (askN n k):=
 {h with
  may:=fun q hq=>by
   have hq:q∈n.AK++[k]:=hq
   rcases List.mem_append.1 hq with hq | hq
   ·exact h.may q hq
   ·simp at hq;subst hq;exact (mayB_iff n _).1 hm
  dis:=by unfold Ztq at hd;rw [decide_eq_true_eq] at hd;exact hd}
def liveN (n:Node) (j:Nat) (x:Side):Node:=⟨⟨⟨n.DK.DI.ID,n.DK.DI.PH,n.DK.DI.SD.set j {x with State:=0}⟩,n.DK.TH,n.DK.Need⟩,n.Book,n.KN,(Zxo n.Told).filter fun z=>!decide (z∈ [x.Peer]),n.AK⟩
theorem OkN.live {n:Node} (h:OkN n) {j:Nat} {x:Side} (hx:n.DK.DI.SD[j]?=some x):OkN (liveN n j x):=by
 have h6:=List.mem_of_getElem? hx
 have hm:∀ {z:Side},z∈(liveN n j x).DK.DI.SD↔z={x with State:=0}∨z∈n.DK.DI.SD∧z.Peer≠x.Peer:=fun {z}=>Zzt (z:=z) h.rowS.up hx {x with State:=0}
 refine {h with
  dr:=h.dr.state hx (by omega)
  may:=fun k hk=>⟨fun z hz=>?_,(h.may k hk).2⟩
  sd:=fun z hz=>?_
  told:=(Z2p n.Told).1.filter _
  tin:=fun p hp=>?_
  nl:=fun z hz hn=>?_
  wt:=fun s hs h0 p hp=>?_}
 ·rcases hm.1 hz with rfl | ⟨hz,_⟩
  ·exact (h.may k hk).1 x h6
  ·exact (h.may k hk).1 z hz
 ·rcases hm.1 hz with rfl | ⟨hz,_⟩
  ·have:=h.sd x h6
   exact ⟨this.1,this.2.1,this.2.2.1,fun e=>by have e:(0:Int)=1∨(0:Int)=3:=e;omega⟩
  ·exact h.sd z hz
 ·obtain ⟨h1,h2⟩:=List.mem_filter.1 hp
  obtain ⟨z,hz,e1,e⟩:=h.tin p (((Z2p n.Told).2 p).1 h1)
  refine ⟨z,hm.2 (.inr ⟨hz,fun q=>?_⟩),e1,e⟩
  rw [DT (show p∈ [x.Peer] by rw [←e,q];simp)] at h2
  simp at h2
 ·rcases hm.1 hz with rfl | ⟨hz,_⟩
  ·show (0:Int)≠3;omega
  ·exact h.nl z hz hn
 ·obtain ⟨z,hz,e0,e⟩:=h.wt s hs h0 p hp
  by_cases q:z.Peer=x.Peer
  ·exact ⟨_,hm.2 (.inl rfl),rfl,by show x.Peer=p;omega⟩
  ·exact ⟨z,hm.2 (.inr ⟨hz,q⟩),e0,e⟩
def dropN (n:Node) (p:Int):Node:=⟨⟨⟨n.DK.DI.ID,n.DK.DI.PH,n.DK.DI.SD.filter fun x=>!decide (x.Peer=p)⟩,n.DK.TH,n.DK.Need⟩,n.Book,n.KN,n.Told,n.AK⟩
theorem OkN.drop {n:Node} (h:OkN n) {x:Side} (hx:x∈n.DK.DI.SD) (h3:x.State=3):OkN (dropN n x.Peer):=by
 have hm:∀ {z:Side},z∈(dropN n x.Peer).DK.DI.SD↔z∈n.DK.DI.SD∧z.Peer≠x.Peer:=fun {z}=>by
  show z∈n.DK.DI.SD.filter _↔_
  rw [List.mem_filter];simp
 have hne:∀ {z:Side},z∈n.DK.DI.SD→z.State≠3→z.Peer≠x.Peer:=fun hz hs q=>by
  have:=up_eq h.rowS.up hz hx q
  subst this;exact hs h3
 refine {h with
  dr:=⟨⟨h.dr.din.id0,h.dr.din.p0,h.dr.din.p2,Nat.lt_of_le_of_lt (List.length_filter_le _ _) h.dr.din.len,h.dr.din.up.filter _,fun z hz=>h.dr.din.side z (hm.1 hz).1⟩,h.dr.t0,h.dr.t2,h.dr.up,h.dr.nz,fun p hp=>?_⟩
  may:=fun k hk=>⟨fun z hz=>(h.may k hk).1 z (hm.1 hz).1,(h.may k hk).2⟩
  sd:=fun z hz=>h.sd z (hm.1 hz).1
  tin:=fun p hp=>?_
  nl:=fun z hz hn=>h.nl z (hm.1 hz).1 hn
  wt:=fun s hs h0 p hp=>?_}
 ·obtain ⟨z,hz,e⟩:=h.dr.has p hp
  exact ⟨z,hm.2 ⟨hz,hne hz (h.nl z hz (by rw [e];exact hp))⟩,e⟩
 ·obtain ⟨z,hz,e1,e⟩:=h.tin p hp
  exact ⟨z,hm.2 ⟨hz,hne hz (by omega)⟩,e1,e⟩
 ·obtain ⟨z,hz,e0,e⟩:=h.wt s hs h0 p hp
  exact ⟨z,hm.2 ⟨hz,hne hz (by omega)⟩,e0,e⟩
def Z9u (n:Node) (p:Int):Option (Nat×Side):=match Zst n.DK.DI.SD p with | none=>none | some j=>(n.DK.DI.SD[j]?).map fun x=>(j,x)
def isB (o:Option (Nat×Side)) (m:Msg) (s:Int):Bool:=match o with | none=>false | some (_,x)=>decide (x.Epoch=m.Epoch)&&decide (x.State=s)
def jO (o:Option (Nat×Side)):Nat:=match o with | none=>0 | some (j,_)=>j
def xO (o:Option (Nat×Side)):Side:=match o with | none=>side0 | some (_,x)=>x
def fitB (o:Option (Nat×Side)) (m:Msg):Bool:=match o with | none=>false | some (_,x)=>decide (x.Epoch=m.Epoch)
def k14 (m:Msg):Bool:=decide (m.Kind=1∨m.Kind=2∨m.Kind=3∨m.Kind=4)
def getN (n:Node) (p:Int) (m:Msg):Int×Node×List Event:=
 if m.Num≠0 then (187,n,[])
 else if k14 m=true then
  (if fitB (Z9u n p) m=true then (if Znq m.Kind (xO (Z9u n p))=true then (187,n,[]) else (0,layN n (jO (Z9u n p)) (xO (Z9u n p)) m.Kind,[])) else (0,n,[]))
 else if m.Kind=5 then (if mayB n ⟨p,m.Epoch⟩=true∧Ztq (n.AK++[⟨p,m.Epoch⟩])=true then (0,askN n ⟨p,m.Epoch⟩,[]) else (187,n,[]))
 else if m.Kind=6 then (if isB (Z9u n p) m 1=true∧p∈n.Told then (0,liveN n (jO (Z9u n p)) (xO (Z9u n p)),[⟨6,n.DK.DI.ID,0,p,[]⟩]) else (187,n,[]))
 else if m.Kind=7 then (if isB (Z9u n p) m 0=true∧p<n.DK.DI.ID then (0,Z0u n (jO (Z9u n p)) (xO (Z9u n p)),Z2u n p) else (187,n,[]))
 else if m.Kind=8 then (if isB (Z9u n p) m 3=true then (0,dropN n p,[⟨8,n.DK.DI.ID,0,p,[]⟩]) else (187,n,[]))
 else (187,n,[])
theorem Zau {n:Node} {p:Int} {j:Nat} {x:Side} (h:Z9u n p=some (j,x)):Zst n.DK.DI.SD p=some j∧n.DK.DI.SD[j]?=some x∧x.Peer=p:=by
 unfold Z9u at h
 cases hp:Zst n.DK.DI.SD p with
 | none=>rw [hp] at h;simp at h
 | some i=>
   obtain ⟨y,hy,e⟩:=Ztt hp
   rw [hp] at h
   dsimp only at h
   rw [hy] at h
   simp only [Option.map_some,Option.some.injEq,Prod.mk.injEq] at h
   obtain ⟨rfl,rfl⟩:=h
   exact ⟨rfl,hy,e⟩
theorem Zbu {n:Node} {p:Int} (h:Z9u n p=none):Zst n.DK.DI.SD p=none:=by
 unfold Z9u at h
 cases hp:Zst n.DK.DI.SD p with
 | none=>rfl
 | some i=>
   obtain ⟨y,hy,e⟩:=Ztt hp
   rw [hp] at h
   dsimp only at h
   rw [hy] at h
   simp at h
theorem Zcu {n:Node} {p s:Int} {m:Msg} (h:isB (Z9u n p) m s=true):∃j x,Z9u n p=some (j,x)∧x.Epoch=m.Epoch∧x.State=s∧n.DK.DI.SD[j]?=some x∧x.Peer=p∧Zst n.DK.DI.SD p=some j:=by
 cases hs:Z9u n p with
 | none=>rw [hs] at h;simp [isB] at h
 | some q=>
   obtain ⟨j,x⟩:=q
   rw [hs] at h
   unfold isB at h
   simp only [Bool.and_eq_true,decide_eq_true_eq] at h
   obtain ⟨h1,h2,h3⟩:=Zau hs
   exact ⟨j,x,rfl,h.1,h.2,h2,h3,h1⟩
theorem getN_ok {n:Node} {p:Int} {m:Msg} (h:OkN n) (he:(getN n p m).1=0):OkN (getN n p m).2.1∧(getN n p m).2.1.DK.DI.ID=n.DK.DI.ID∧(∀v∈(getN n p m).2.2,EvOK n.DK.DI.ID v∧v.Kind≠1)∧(getN n p m).2.2.length≤1000:=by
 revert he
 unfold getN
 split
 ·intro he;simp at he
 ·split
  ·split
   ·rename_i hs
    split
    ·intro he;simp at he
    ·intro _
     refine ⟨?_,rfl,by simp,by simp⟩
     cases hq:Z9u n p with
     | none=>rw [hq] at hs;simp [fitB] at hs
     | some q=>
       obtain ⟨j,x⟩:=q
       exact h.lay (Zau hq).2.1 _
   ·intro _;exact ⟨h,rfl,by simp,by simp⟩
  ·split
   ·split
    ·rename_i hc
     intro _;exact ⟨h.ask hc.1 hc.2,rfl,by simp,by simp⟩
    ·intro he;simp at he
   ·split
    ·split
     ·rename_i hc
      intro _
      obtain ⟨j,x,hq,_,_,hx,_,_⟩:=Zcu hc.1
      rw [hq]
      refine ⟨h.live hx,rfl,fun v hv=>?_,by simp⟩
      simp at hv;subst hv
      exact ⟨⟨rfl,fun _=>rfl,fun q=>by have q:(6:Int)<6:=q;omega,fun _=>rfl⟩,by show (6:Int)≠1;omega⟩
     ·intro he;simp at he
    ·split
     ·split
      ·rename_i hc
       intro _
       obtain ⟨j,x,hq,_,h0,hx,h6,_⟩:=Zcu hc.1
       rw [hq]
       have hg:=Zkt p n.Book.Sess
       have hb:=((Zcs _).1 h.bk).len
       have h8:(Z0u n j x).DK.DI.ID=n.DK.DI.ID:=by unfold Z0u;dsimp only;split<;>rfl
       refine ⟨h.shut hx h0,h8,fun v hv=>?_,by unfold Z2u Z1u;simp only [List.length_cons,List.length_map];omega⟩
       rcases List.mem_cons.1 hv with rfl | hv
       ·exact ⟨⟨rfl,fun _=>rfl,fun q=>by have q:(7:Int)<6:=q;omega,fun _=>rfl⟩,by show (7:Int)≠1;omega⟩
       ·obtain ⟨i,_,rfl⟩:=List.mem_map.1 hv
        exact ⟨⟨rfl,fun q=>by have q:(6:Int)≤5:=q;omega,fun _=>rfl,fun _=>rfl⟩,by show (5:Int)≠1;omega⟩
      ·intro he;simp at he
     ·split
      ·split
       ·rename_i hc
        intro _
        obtain ⟨j,x,hq,_,h3,hx,h6,_⟩:=Zcu hc
        have:=h.drop (List.mem_of_getElem? hx) h3
        rw [h6] at this
        refine ⟨this,rfl,fun v hv=>?_,by simp⟩
        simp at hv;subst hv
        exact ⟨⟨rfl,fun _=>rfl,fun q=>by have q:(8:Int)<6:=q;omega,fun _=>rfl⟩,by show (8:Int)≠1;omega⟩
       ·intro he;simp at he
      ·intro he;simp at he
theorem get_end (m:Node) (V:List Event) (e:Int) (K:List KE) (hK:K=m.KN) (h:e=0→OkN m) (hV:V.length≤100000):
  Zhl K (m.DK.DI.ID,m.DK.DI.PH,m.DK.TH,m.Book.Last,m.Book.Sess,m.Told,e,m.DK.DI.SD,m.DK.Need,m.AK,V)=some (Z5u e m V):=by
 subst hK
 dsimp only [Zhl]
 unfold Z5u
 by_cases he:e=0
 ·subst he
  rw [Zat m (h rfl) V hV,OB,if_pos rfl]
  rfl
 ·rw [Zbt _ _ _ _ e _ he,OB,if_neg he]
  rfl
theorem s_is (n:Node) (s:Int) (p:Int) (m:Msg) (x:node_node) (hx:x.Node.DK.DI.SD=n.DK.DI.SD):Z9a s (plc (Zst n.DK.DI.SD p)) x m=some (isB (Z9u n p) m s):=by
 simp only [Z9a,Z8a,hx]
 cases hq:Z9u n p with
 | none=>rw [Zbu hq];rfl
 | some q=>
   obtain ⟨j,y⟩:=q
   obtain ⟨h1,h2,h3⟩:=Zau hq
   rw [h1,show plc (some j)=(j:Int) from rfl,DT (show (0:Int)≤j by omega),Zvn,Zzn h2,OB,OB]
   unfold isB
   dsimp only
   cases decide (y.Epoch=m.Epoch)<;>rfl
theorem get_begin (n:Node) (p:Int) (m:Msg) (hf:FewN n):Zol n p m=Zml n p m n.DK.DI.SD n.DK.Need n.KN n.Told n.AK n.Book.Sess (decide (Znt (decide (m.Num=0)) 187 (if okN n then 0 else 180)=0),Znt (decide (m.Num=0)) 187 (if okN n then 0 else 180)) (plc (Zst n.DK.DI.SD p)) (k14 m):=by
 have hS:=hf.sides
 unfold Zol
 rw [s_own2 n hf,OB,Z0r n hf,OB]
 dsimp only [Znl]
 rw [Zot,OB,s_place _ _ (show _≤_ by dsimp only;omega),OB]
 unfold k14
 by_cases c1:m.Kind=1
 ·simp [c1,ifb]
 ·by_cases c2:m.Kind=2
  ·simp [c2,ifb]
  ·by_cases c3:m.Kind=3
   ·simp [c3,ifb]
   ·by_cases c4:m.Kind=4
    ·simp [c4,ifb]
    ·simp [c1,c2,c3,c4,ifb]
theorem get_bad (n:Node) (p:Int) (m:Msg) (hf:FewN n) (e:Int) (he:e≠0) (z:Bool):Zml n p m n.DK.DI.SD n.DK.Need n.KN n.Told n.AK n.Book.Sess (decide (e=0),e) (plc (Zst n.DK.DI.SD p)) z=some (Z4u,[],[],e):=by
 have hA:=hf.asked
 have hT:=hf.told
 have h6:Zhl n.KN (n.DK.DI.ID,n.DK.DI.PH,n.DK.TH,n.Book.Last,n.Book.Sess,n.Told,e,n.DK.DI.SD,n.DK.Need,n.AK,[])=some (Z4u,[],[],e):=by
  have:=get_end n [] e n.KN rfl (fun q=>absurd q he) (by simp)
  unfold Z5u at this
  rw [if_neg he] at this
  exact this
 have n2:∀(is:Bool) (c:Int),Z3c is c n.DK.DI.ID n.DK.DI.PH n.DK.TH n.Book.Last e n.DK.DI.SD n.DK.Need n.Book.Sess n.KN n.Told n.AK=some (false,e):=fun is c=>by rw [Zot,Zpt is he,DN he]
 have n3:∀c,Z7c c n.DK.DI.ID n.DK.DI.PH n.DK.TH n.Book.Last e n.DK.DI.SD n.DK.Need n.Book.Sess n.KN n.Told n.AK=some (false,e):=fun c=>by rw [s_need3,Zpt _ he,DN he]
 dsimp only [Zml]
 cases z with
 | true=>
   rw [Zvn,DN he,Zwn]
   dsimp only [Zil]
   rw [Zwn]
   exact h6
 | false=>
   rw [Zwn]
   cases decide (m.Kind=5) with
   | true=>
     rw [Zvn,s_may n hf,OB,Zys _ (by omega),OB,Z0o _ _ (by omega) (by simp;omega),OB,Zuq _ (by simp;omega),OB,n2,n3,OB]
     dsimp only [Zjl]
     rw [Zwn,h6]
     cases mayB n ⟨p,m.Epoch⟩<;>rfl
   | false=>
     rw [Zwn]
     cases decide (m.Kind=6) with
     | true=>
       rw [Zvn,s_is n 1 p m _ rfl,OB,Z0p _ _ (by omega),OB,n2,n3,OB]
       dsimp only [Zkl]
       rw [Zwn,h6]
       cases isB (Z9u n p) m 1<;>rfl
     | false=>
       rw [Zwn]
       cases decide (m.Kind=7) with
       | true=>
         rw [Zvn,s_is n 0 p m _ rfl,OB,n2,n3,OB]
         dsimp only [Zll]
         rw [Zwn,h6]
         cases isB (Z9u n p) m 0<;>rfl
       | false=>
         rw [Zwn]
         cases decide (m.Kind=8) with
         | true=>
           rw [Zvn,s_is n 3 p m _ rfl,OB,n2,OB]
           exact h6
         | false=>
           rw [Zwn,n3,OB]
           exact h6
theorem s_GetBad (n:Node) (p:Int) (m:Msg) (hf:FewN n) (hk:okN n=false):Zol n p m=some (Z4u,[],[],180):=by
 rw [get_begin n p m hf,hk,if_neg (by simp),Zpt _ (by omega)]
 exact get_bad n p m hf 180 (by omega) _
theorem s_Get2 (n:Node) (p:Int) (m:Msg) (h:OkN n):Zol n p m=some (Z5u (getN n p m).1 (getN n p m).2.1 (getN n p m).2.2):=by
 have hf:=h.few
 have hA:=hf.asked
 have hT:=hf.told
 have hS:=hf.sides
 have hN:=hf.need
 rw [get_begin n p m hf,(Zbs n).2 h,if_pos rfl]
 have hok:=fun he=>getN_ok (p:=p) (m:=m) h he
 by_cases hn:m.Num=0
 ·have eG:getN n p m=_:=rfl
  have h6:∀(r:Node) (V:List Event) (e:Int),n.KN=r.KN→r.DK.DI.ID=r.DK.DI.ID→(e=0→OkN r)→V.length≤100000→Zhl n.KN (r.DK.DI.ID,r.DK.DI.PH,r.DK.TH,r.Book.Last,r.Book.Sess,r.Told,e,r.DK.DI.SD,r.DK.Need,r.AK,V)=some (Z5u e r V):=fun r V e hK _ h1 hV=>get_end r V e n.KN hK h1 hV
  have bad:∀e:Int,e≠0→Zhl n.KN (n.DK.DI.ID,n.DK.DI.PH,n.DK.TH,n.Book.Last,n.Book.Sess,n.Told,e,n.DK.DI.SD,n.DK.Need,n.AK,[])=some (Z5u e n []):=fun e he=>h6 n [] e rfl rfl (fun q=>absurd q he) (by simp)
  have n2:∀(is:Bool) (c:Int),Z3c is c n.DK.DI.ID n.DK.DI.PH n.DK.TH n.Book.Last 0 n.DK.DI.SD n.DK.Need n.Book.Sess n.KN n.Told n.AK=some (decide (Znt is c 0=0),Znt is c 0):=fun is c=>Zot _ _ _ _ _ _ _ _ _ _ _ _ _
  have n3:∀c,Z7c c n.DK.DI.ID n.DK.DI.PH n.DK.TH n.Book.Last 0 n.DK.DI.SD n.DK.Need n.Book.Sess n.KN n.Told n.AK=some (decide (c=0),c):=fun c=>s_need3 _ _ _ _ _ _ _ _ _ _ _ _
  rw [DT hn,Zqt,DT rfl]
  unfold getN at hok ⊢
  rw [if_neg fun q=>q hn] at hok ⊢
  dsimp only [Zml]
  cases hk:k14 m with
  | true=>
    rw [Zvn,DT rfl,Zvn,if_pos rfl]
    rw [hk,if_pos rfl] at hok
    have j4f:Zil n p m n.DK.DI.SD n.DK.Need n.KN n.Told n.AK n.Book.Sess (true,0) false=some (Z5u 0 n []):=by
     dsimp only [Zil]
     rw [Zwn]
     exact h6 n [] 0 rfl rfl (fun _=>h) (by simp)
    cases hq:Z9u n p with
    | none=>
      rw [Zbu hq,show plc none = -1 from rfl,DN (show ¬(0:Int)≤ -1 by omega),Zwn,if_neg (by simp [fitB])]
      exact j4f
    | some q=>
      obtain ⟨j,x⟩:=q
      obtain ⟨h1,h2,h3⟩:=Zau hq
      rw [h1,show plc (some j)=(j:Int) from rfl,DT (show (0:Int)≤j by omega),Zvn,Zzn h2,OB]
      have ex:xO (some (j,x))=x:=rfl
      have ej:jO (some (j,x))=j:=rfl
      rw [ex,ej]
      rw [hq,ex,ej] at hok
      by_cases h8:x.Epoch=m.Epoch
      ·rw [DT h8,if_pos (show fitB (some (j,x)) m=true from DT h8)]
       rw [if_pos (show fitB (some (j,x)) m=true from DT h8)] at hok
       have hw:n.DK.DI.SD.findIdx? (fun x=>decide (x.Peer=p)&&decide (x.Epoch=m.Epoch))=some j:=by
        obtain ⟨g1,g2,g3⟩:=List.findIdx?_eq_some_iff_getElem.1 h1
        obtain ⟨_,hB⟩:=List.getElem?_eq_some_iff.1 h2
        rw [List.findIdx?_eq_some_iff_getElem]
        refine ⟨g1,?_,fun i hi=>?_⟩
        ·rw [hB,DT h3,DT h8];rfl
        ·have:=g3 i hi
         simp only [decide_eq_true_eq] at this
         rw [DN this];simp
       have hC:1≤m.Kind∧m.Kind≤4:=by
        unfold k14 at hk;rw [decide_eq_true_eq] at hk;omega
       have hg:=s_drGet n.DK p m ((Z9s _).2 h.dr) (by omega) hw h2 hn hC
       dsimp only [Zil,Zpk]
       rw [Zvn,hg,OB]
       dsimp only [Zok,Znk]
       by_cases hl:Znq m.Kind x=true
       ·simp only [if_pos hl]
        rw [n2,OB]
        exact bad 187 (by omega)
       ·rw [if_neg hl] at hok
        simp only [if_neg hl]
        rw [n2,OB]
        exact h6 (layN n j x m.Kind) [] 0 rfl rfl (fun _=>(hok rfl).1) (by simp)
      ·rw [DN h8,if_neg (show ¬fitB (some (j,x)) m=true from fun q=>h8 (of_decide_eq_true q))]
       exact j4f
  | false=>
    rw [Zwn,if_neg (by simp)]
    rw [hk,if_neg (by simp)] at hok
    by_cases k5:m.Kind=5
    ·rw [DT k5,Zvn,if_pos k5,s_may n hf,OB]
     rw [if_pos k5] at hok
     have j5f:Zjl n p m n.DK.DI.SD n.DK.Need n.KN n.Told n.AK n.Book.Sess (false,187)=some (Z5u 187 n []):=by
      dsimp only [Zjl]
      rw [Zwn]
      exact bad 187 (by omega)
     cases hm:mayB n ⟨p,m.Epoch⟩ with
     | false=>
       rw [Zwn,n3,OB,if_neg (by simp),DN (show ¬(187:Int)=0 by omega)]
       exact j5f
     | true=>
       rw [Zvn,Zys _ (by omega),OB,Z0o _ _ (by omega) (by simp;omega),OB,Zuq _ (by simp;omega),OB,n2,OB]
       cases hd:Ztq (n.AK++[⟨p,m.Epoch⟩]) with
       | false=>
         rw [Zrt,DN (show ¬(187:Int)=0 by omega),if_neg (by simp)]
         exact j5f
       | true=>
         rw [Zqt,DT rfl,if_pos ⟨rfl,rfl⟩]
         dsimp only [Zjl]
         rw [Zvn,Z0o _ _ (by omega) (by simp;omega),OB]
         exact h6 (askN n ⟨p,m.Epoch⟩) [] 0 rfl rfl (fun _=>h.ask hm hd) (by simp)
    ·rw [DN k5,Zwn,if_neg k5]
     rw [if_neg k5] at hok
     by_cases k6:m.Kind=6
     ·rw [DT k6,Zvn,if_pos k6,s_is n 1 p m _ rfl,OB]
      have j6f:Zkl n p n.DK.DI.SD n.DK.Need n.KN n.Told n.AK n.Book.Sess (plc (Zst n.DK.DI.SD p)) (false,187)=some (Z5u 187 n []):=by
       dsimp only [Zkl]
       rw [Zwn]
       exact bad 187 (by omega)
      cases hi:isB (Z9u n p) m 1 with
      | false=>
        rw [Zwn,n3,OB,if_neg (by simp),DN (show ¬(187:Int)=0 by omega)]
        exact j6f
      | true=>
        rw [Zvn,Z0p _ _ (by omega),OB,n2,OB]
        by_cases ht:p∈n.Told
        ·obtain ⟨j,x,hq,_,_,hx,hc,ho⟩:=Zcu hi
         rw [DT ht,Zqt,DT rfl,if_pos ⟨rfl,ht⟩,hq,ho]
         dsimp only [Zkl,xO,jO]
         rw [Zvn,show plc (some j)=(j:Int) from rfl,Zzn hx,OB,s_Del _ _ (by omega),OB,Int.toNat_natCast]
         have h9:∀(S:List Side) (T:List Int) (e:Int),Z1d 6 p n.DK.DI.ID n.DK.DI.PH n.DK.TH n.Book.Last T e S n.DK.Need n.Book.Sess n.KN n.AK=some [⟨6,n.DK.DI.ID,0,p,[]⟩]:=fun S T e=>by
          simp only [Z1d]
          rw [Z0o _ _ (by omega) (by simp),OB];rfl
         rw [h9,OB]
         have:=h6 (liveN n j x) [⟨6,n.DK.DI.ID,0,p,[]⟩] 0 rfl rfl (fun _=>h.live hx) (by simp)
         subst hc
         exact this
        ·rw [DN ht,Zrt,DN (show ¬(187:Int)=0 by omega),if_neg fun q=>ht q.2]
         exact j6f
     ·rw [DN k6,Zwn,if_neg k6]
      rw [if_neg k6] at hok
      by_cases k7:m.Kind=7
      ·rw [DT k7,Zvn,if_pos k7,s_is n 0 p m _ rfl,OB]
       have j7f:Zll n p n.DK.DI.SD n.DK.Need n.KN n.Told n.AK n.Book.Sess (false,187)=some (Z5u 187 n []):=by
        dsimp only [Zll]
        rw [Zwn]
        exact bad 187 (by omega)
       cases hi:isB (Z9u n p) m 0 with
       | false=>
         rw [Zwn,n3,OB,if_neg (by simp),DN (show ¬(187:Int)=0 by omega)]
         exact j7f
       | true=>
         rw [Zvn,n2,OB]
         by_cases hp:p<n.DK.DI.ID
         ·obtain ⟨j,x,hq,_,h0,hx,hc,ho⟩:=Zcu hi
          have hg:=Zkt p n.Book.Sess
          have hb:=((Zcs _).1 h.bk).len
          rw [DT hp,Zqt,DT rfl,if_pos ⟨rfl,hp⟩,hq]
          dsimp only [Zll,xO,jO]
          rw [Zvn,s_shut n h p j x ho hx hc 0,OB]
          exact h6 (Z0u n j x) (Z2u n p) 0 rfl rfl (fun _=>h.shut hx h0) (by unfold Z2u Z1u;simp only [List.length_cons,List.length_map];omega)
         ·rw [DN hp,Zrt,DN (show ¬(187:Int)=0 by omega),if_neg fun q=>hp q.2]
          exact j7f
      ·rw [DN k7,Zwn,if_neg k7]
       rw [if_neg k7] at hok
       by_cases k8:m.Kind=8
       ·rw [DT k8,Zvn,if_pos k8,s_is n 3 p m _ rfl,OB,n2,OB]
        cases hi:isB (Z9u n p) m 3 with
        | false=>
          rw [Zrt]
          dsimp only
          rw [DN (show ¬(187:Int)=0 by omega),Zwn,if_neg (by simp)]
          exact bad 187 (by omega)
        | true=>
          obtain ⟨j,x,hq,_,h3,hx,hc,ho⟩:=Zcu hi
          rw [Zqt]
          dsimp only
          rw [DT rfl,Zvn,if_pos rfl]
          have hD:Z8g p n.DK.DI.ID n.DK.DI.PH n.DK.TH n.Book.Last 0 n.DK.DI.SD n.DK.Need n.Book.Sess n.KN n.Told n.AK=some (n.DK.DI.SD.filter fun x=>!decide (x.Peer=p)):=by
           simp only [Z8g,Zdr n.DK.DI.SD (fun z=>Zn9 z p) (fun x=>decide (x.Peer=p)) (by omega) (fun _ _=>rfl),OB]
          have h9:∀(S:List Side),Zbc 8 p n.DK.DI.ID n.DK.DI.PH n.DK.TH n.Book.Last 0 S n.DK.Need n.Book.Sess n.KN n.Told n.AK=some [⟨8,n.DK.DI.ID,0,p,[]⟩]:=fun S=>by
           simp only [Zbc]
           rw [Z0o _ _ (by omega) (by simp),OB];rfl
          rw [hD,OB,h9,OB]
          have:=h.drop (List.mem_of_getElem? hx) h3
          rw [hc] at this
          exact h6 (dropN n p) [⟨8,n.DK.DI.ID,0,p,[]⟩] 0 rfl rfl (fun _=>this) (by simp)
       ·rw [DN k8,Zwn,if_neg k8,n3,OB]
        exact bad 187 (by omega)
 ·rw [DN hn,Zrt]
  have:=get_bad n p m hf 187 (by omega) (k14 m)
  rw [this]
  unfold getN
  rw [if_pos hn]
  rfl
theorem Zdu (n:Node) (h:FewN n):Z8f n=some n:=by
 have h1:=h.sides
 have h2:=h.need
 have h3:=h.told
 have h4:=h.known
 have h5:=h.asked
 have h6:=h.book
 have hb:Zfa n.Book=some n.Book:=by
  unfold Zfa
  refine Zco n.Book.Sess _ (fun pre=>((pre.length:Int),pre)) _ (fun pre x post h0=>?_) ?_
  ·have hx:=Zdo h0
   have hm:=Zeo h0
   have hN:=h.needs x (Zfo h0)
   dsimp only [Zea]
   rw [Z1o hx,Zvn,Zzn hx,OB,Z0o _ _ (by omega) (by simp;omega),OB,List.nil_append,Z0o _ _ (by omega) (by simp;omega),OB,Z3o (by omega),Zio]
  ·dsimp only [Zea,Zda]
   rw [Z2o,Zwn];rfl
 simp only [Z8f,Z3d,Zba,hb]
 rw [Z0o _ _ (by omega) (by simp;omega),OB,Z0o _ _ (by omega) (by simp;omega),OB,OB,OB,Z0o _ _ (by omega) (by simp;omega),OB,Z0o _ _ (by omega) (by simp;omega),OB,Z0o _ _ (by omega) (by simp;omega),OB]
 rfl
def fewB17 (b:Book):Bool:=decide (b.Sess.length≤12)&&b.Sess.all fun s=>decide (s.Need.length≤70)
theorem s_Few17 (b:Book):∃z,Zka b=some z∧(z=true→fewB17 b=true):=by
 unfold Zka
 have key:∀(post pre:List Sess),b.Sess=pre++post→(∀s∈pre,s.Need.length≤70)→∃z,loop (Zja b) (pre.length:Int)=some z∧(z=true→fewB17 b=true):=by
  intro post
  induction post with
  | nil=>
    intro pre h hp
    have h:pre=b.Sess:=by simpa using h.symm
    rw [loop_eq]
    dsimp only [Zja,Zia,Zha]
    rw [h,Z2o,Zwn,Zwn]
    refine ⟨_,rfl,fun hz=>?_⟩
    rw [decide_eq_true_eq] at hz
    unfold fewB17
    rw [Bool.and_eq_true,decide_eq_true_eq,List.all_eq_true]
    rw [ln_eq] at hz
    exact ⟨by omega,fun s hs=>DT (hp s (by rw [h];exact hs))⟩
  | cons x post ih=>
    intro pre h hp
    have hx:=Zdo h
    have hm:=Zeo h
    rw [loop_eq]
    dsimp only [Zja,Zia]
    rw [Z1o hx,Zvn]
    by_cases h6:(pre.length:Int)<13
    ·rw [DT h6,Zvn,Zzn hx,OB,ln_eq]
     by_cases h8:(70:Int)<x.Need.length
     ·rw [DT h8,Zvn]
      exact ⟨false,rfl,by simp⟩
     ·rw [DN h8,Zwn,Z3o (by omega)]
      have:=ih (pre++[x]) (by simpa using h) fun s hs=>by
       rcases List.mem_append.1 hs with hs | hs
       ·exact hp s hs
       ·simp at hs;subst hs;omega
      rw [Zio] at this
      exact this
    ·rw [DN h6,Zwn]
     refine ⟨_,rfl,fun hz=>?_⟩
     rw [decide_eq_true_eq,ln_eq] at hz
     omega
 exact key b.Sess [] rfl (by simp)
theorem Zeu (n:Node):∃z,Z6d n=some z∧(z=true→FewN n):=by
 obtain ⟨z,hz,hf⟩:=s_Few17 n.Book
 simp only [Z6d,Z5d,hz,OB,ln_eq]
 by_cases h1:(n.DK.DI.SD.length:Int)≤70
 ·by_cases h2:(n.DK.Need.length:Int)≤70
  ·by_cases h3:(n.KN.length:Int)≤70
   ·by_cases h4:(n.Told.length:Int)≤70
    ·by_cases h5:(n.AK.length:Int)≤70
     ·rw [DT h1,DT h2,DT h3,DT h4,DT h5]
      refine ⟨z,rfl,fun e=>?_⟩
      have:=hf e
      unfold fewB17 at this
      rw [Bool.and_eq_true,decide_eq_true_eq,List.all_eq_true] at this
      exact ⟨by omega,by omega,by omega,fun s hs=>by have:=of_decide_eq_true (this.2 s hs);omega,by omega,by omega,by omega⟩
     ·exact ⟨false,by rw [DT h1,DT h2,DT h3,DT h4,DN h5];rfl,by simp⟩
    ·exact ⟨false,by rw [DT h1,DT h2,DT h3,DN h4];rfl,by simp⟩
   ·exact ⟨false,by rw [DT h1,DT h2,DN h3];rfl,by simp⟩
  ·exact ⟨false,by rw [DT h1,DN h2];rfl,by simp⟩
 ·exact ⟨false,by rw [DN h1];rfl,by simp⟩
theorem setL_nil:Zxo []=[]:=setL_pw .nil
theorem setL_one (p:Int):Zxo [p]=[p]:=setL_pw (by simp)
def nO:Node:=⟨⟨⟨1,0,[]⟩,0,[]⟩,⟨0,[]⟩,[],[],[]⟩
def mA:Node:=⟨⟨⟨1,0,[]⟩,0,[]⟩,⟨4,[⟨4,[],0,0⟩]⟩,[],[],[]⟩
def nA:Node:=⟨⟨⟨1,0,[]⟩,2,[]⟩,⟨4,[⟨4,[],1,0⟩]⟩,[],[],[]⟩
def xB:Side:=⟨2,1,1,true,true,false,true,false⟩
def mB:Node:=⟨⟨⟨1,0,[xB]⟩,2,[]⟩,⟨4,[⟨4,[],1,0⟩]⟩,[⟨2,1⟩],[],[]⟩
def nB0:Node:=⟨⟨⟨1,2,[xB]⟩,2,[]⟩,⟨4,[⟨4,[],1,0⟩]⟩,[⟨2,1⟩],[],[]⟩
def nB:Node:=⟨⟨⟨1,2,[xB]⟩,2,[]⟩,⟨4,[⟨4,[],1,0⟩]⟩,[⟨2,1⟩],[2],[]⟩
def xC:Side:=⟨2,1,0,true,true,false,true,false⟩
def mC:Node:=⟨⟨⟨1,2,[xC]⟩,2,[]⟩,⟨4,[⟨4,[],1,0⟩]⟩,[⟨2,1⟩],[],[]⟩
def nC:Node:=⟨⟨⟨1,0,[xC]⟩,2,[]⟩,⟨4,[⟨4,[],1,0⟩]⟩,[⟨2,1⟩],[],[]⟩
theorem okNO:OkN nO:=(Zbs _).1 (by decide)
theorem okNA:OkN nA:=(Zbs _).1 (by decide)
theorem okNB:OkN nB:=(Zbs _).1 (by decide)
theorem okNC:OkN nC:=(Zbs _).1 (by decide)
theorem restA:Z6t mA [] [⟨0,1,4,0,[]⟩]=(nA,[],[⟨0,1,4,0,[]⟩,⟨1,1,4,0,[]⟩]):=by decide
theorem restC:Z6t mC [] [⟨6,1,0,2,[]⟩]=(nC,[],[⟨6,1,0,2,[]⟩]):=by decide
theorem onceB:Z0s mB=nB∧Z1s mB=[⟨1,2,⟨5,1,0⟩⟩]∧Z2s mB=[]:=by
 have e1:Zzr mB=nB0:=by decide
 have e2:Zur nB0=nB0:=by decide
 have e3:Zvr nB0=([2],[⟨1,2,⟨5,1,0⟩⟩]):=by
  unfold Zvr
  rw [if_pos (show nB0.DK.DI.PH=2 from rfl)]
  show Zcr 1 [xB] [] []=_
  unfold Zcr
  rw [show Zbr [] xB=true by decide,if_pos rfl]
  show Zcr 1 [] (Zxo [2]) _=_
  rw [setL_one];rfl
 have e4:Zwr nB0=nB:=by unfold Zwr;rw [e3];rfl
 have e5:leaN nB=nB:=by decide
 have e6:Zxr nB=[]:=by decide
 have e7:(Zfq (Zyr mB).DK).2=[]:=by decide
 have e8:ansNM mB=[]:=by decide
 have e9:Z2s mB=[]:=by decide
 unfold Z0s Z1s
 rw [e1,e2,e4,e3,e5,e6,e7,e8]
 exact ⟨rfl,rfl,e9⟩
theorem restB:Z6t mB [] []=(nB,[⟨1,2,⟨5,1,0⟩⟩],[]):=by
 obtain ⟨e1,e2,e3⟩:=onceB
 have h:Z0s nB=nB:=by decide
 unfold Z6t
 rw [Z5t,e1,e2,e3,if_neg (by decide),Z5t,h,if_pos rfl]
 rfl
theorem Zhu:Zql=some true:=by
 have e1:Z6l ⟨⟨1,0,[]⟩,0,[]⟩=some (nO,0):=by
  unfold Z6l
  rw [loop_eq]
  dsimp only [Z5l]
  have hc:Zlk ⟨⟨⟨1,0,[]⟩,0,[]⟩,⟨0,[]⟩,[],[],[]⟩=some 0:=by
   have:=Z0r nO okNO.few
   rw [(Zbs nO).2 okNO,if_pos rfl] at this
   exact this
  have ho:Zef 1 0 [] 0 [] 0 []=some ([],[],[],[],[],[]):=by
   dsimp only [Zef,Zdf,Zcf]
   rw [Zop _ (by simp),OB,Zbp _ (by simp),OB,Zys _ (by simp),OB,OB,OB,Zcp _ (by simp),OB,loop_eq]
   rfl
  have hj:Z4l ⟨⟨1,0,[]⟩,0,[]⟩ []=some (nO,0):=by
   dsimp only [Z4l]
   rw [hc,OB,ho];rfl
  rw [hj];rfl
 have a2:Z6u nO ⟨0,4,0,0,[]⟩=(0,mA,[⟨0,1,4,0,[]⟩]):=by
  unfold Z6u Zxt openP
  rw [setL_nil]
  decide
 have e2:Zfl nO ⟨0,4,0,0,[]⟩=some (nA,[],[⟨0,1,4,0,[]⟩,⟨1,1,4,0,[]⟩],0):=by
  rw [s_Act nO _ okNO (by simp),a2]
  unfold Z5u
  rw [if_pos rfl,restA]
 have a3:Z6u nA ⟨4,0,2,0,[]⟩=(0,mB,[]):=by decide
 have e3:Zfl nA ⟨4,0,2,0,[]⟩=some (nB,[⟨1,2,⟨5,1,0⟩⟩],[],0):=by
  rw [s_Act nA _ okNA (by simp),a3]
  unfold Z5u
  rw [if_pos rfl,restB]
 have a4:getN nB 2 ⟨6,1,0⟩=(0,mC,[⟨6,1,0,2,[]⟩]):=by
  unfold getN liveN
  rw [show nB.Told=[2] from rfl,setL_one]
  decide
 have e4:Zol nB 2 ⟨6,1,0⟩=some (nC,[],[⟨6,1,0,2,[]⟩],0):=by
  rw [s_Get2 nB _ _ okNB,a4]
  unfold Z5u
  rw [if_pos rfl,restC]
 have a5:(Z6u nC ⟨4,0,2,0,[]⟩).1=183:=by decide
 have e5:∃x y z,Zfl nC ⟨4,0,2,0,[]⟩=some (x,y,z,183):=by
  rw [s_Act nC _ okNC (by simp),a5]
  exact ⟨_,_,_,rfl⟩
 obtain ⟨x,y,z,e5⟩:=e5
 have e6:Zkb nC=some [2]:=by rw [s_Live nC okNC.few];decide
 have e7:Zlk nC=some 0:=by rw [Z0r nC okNC.few,(Zbs nC).2 okNC];rfl
 have e8:Zzf nC nC=some true:=by rw [s_nSame nC nC okNC.few,DT rfl]
 have e9:Zzf nC nB=some false:=by rw [s_nSame nC nB okNC.few];decide
 have e10:Zv7 [2] [2]=some true:=by rw [Zyo _ _ (by simp),DT rfl]
 have e11:Zff [⟨0,1,4,0,[]⟩,⟨1,1,4,0,[]⟩] [⟨6,1,0,2,[]⟩]=some false:=rfl
 unfold Zql
 rw [e1,OB,e2,OB,e3,OB,e4,OB,e5,OB]
 dsimp only
 rw [e6,OB,e10,OB,e7,OB,e8,OB,e9,OB,e11,OB]
 rfl
theorem once_id (n:Node):(Z0s n).DK.DI.ID=n.DK.DI.ID:=(Zis (Zyr n).DK).id.trans (pre_id n)
theorem Ziu:∀(k:Nat) (n:Node) (E:List Mail) (V:List Event),OkN n→(Z5t k n E V).2.1.length≤E.length+500*k∧(Z5t k n E V).2.2.length≤V.length+500*k
 | 0,_,_,_,_=>by unfold Z5t;exact ⟨by dsimp only;omega,by dsimp only;omega⟩
 | k+1,n,E,V,h=>by
   unfold Z5t
   split
   ·exact ⟨by dsimp only;omega,by dsimp only;omega⟩
   ·have:=Ziu k (Z0s n) (E++Z1s n) (V++Z2s n) h.once
    have l1:=Z7t h
    have l2:=Z8t h
    rw [List.length_append,List.length_append] at this
    omega
theorem Zju {n:Node} (h:OkN n) (E:List Mail) (V:List Event):(Z6t n E V).2.1.length≤E.length+4500∧(Z6t n E V).2.2.length≤V.length+4500:=Ziu 9 n E V h
theorem Zku {n:Node} {v:Event} (h:v∈Z2s n):(∃k∈n.AK,v=⟨6,n.DK.DI.ID,0,k.Peer,[]⟩)∨v∈graV (Zzr n):=by
 unfold Z2s at h
 rcases List.mem_append.1 h with h | h
 ·left
  unfold ansNV at h
  split at h
  ·simp at h
  ·unfold ansV at h
   obtain ⟨k,hk,rfl⟩:=List.mem_map.1 h
   exact ⟨k,hk,rfl⟩
 ·exact .inr h
theorem mid_id (n:Node):(Zzr n).DK.DI.ID=n.DK.DI.ID:=once_id n
theorem onceNV_ok {n:Node} {v:Event} (h:v∈Z2s n):EvOK n.DK.DI.ID v∧v.Need=[]:=by
 rcases Zku h with ⟨k,_,rfl⟩ | h
 ·exact ⟨⟨rfl,fun _=>rfl,fun q=>by have q:(6:Int)<6:=q;omega,fun _=>rfl⟩,rfl⟩
 ·rcases Zms (Zzr n) with ⟨_,e⟩ | ⟨s,l,_,_,_,_,e⟩
  ·rw [e] at h;simp at h
  ·rw [e] at h;simp at h;subst h
   exact ⟨⟨mid_id n,fun q=>by have q:(6:Int)≤1:=q;omega,fun _=>rfl,fun _=>rfl⟩,rfl⟩
theorem rest_ev {n:Node} (h:OkN n) {E:List Mail} {V:List Event} {Q:Event→Prop} (hV:∀v∈V,Q v) (hQ:∀v,EvOK n.DK.DI.ID v→v.Need=[]→Q v):∀v∈(Z6t n E V).2.2,Q v:=
 (Zdt (P:=fun m _ V=>m.DK.DI.ID=n.DK.DI.ID∧∀v∈V,Q v) (fun m E V _ hP=>⟨(once_id m).trans hP.1,fun v hv=>by
   rcases List.mem_append.1 hv with hv | hv
   ·exact hP.2 v hv
   ·have:=onceNV_ok hv
    rw [hP.1] at this
    exact hQ v this.1 this.2⟩) h ⟨rfl,hV⟩).2
def Zlu (id:Int) (m:Mail):Prop:=m.From=id∧m.To≠id∧m.Msg.Num=0
theorem Zmu {n:Node} (h:OkN n) {m:Mail} (hm:Zks n.DK.DI.ID n.DK.DI.SD m):Zlu n.DK.DI.ID m:=by
 obtain ⟨h1,⟨x,hx,e⟩,h3⟩:=hm
 have:=h.peer0 hx
 exact ⟨h1,by omega,h3⟩
theorem onceNM_ok {n:Node} (h:OkN n) {m:Mail} (hm:m∈Z1s n):Zlu n.DK.DI.ID m:=by
 have hg:=h.pre.firgra
 have h6:(Zur (Zzr n)).DK.DI.ID=n.DK.DI.ID:=mid_id n
 unfold Z1s at hm
 rcases List.mem_append.1 hm with hm | hm
 ·unfold ansNM at hm
  split at hm
  ·simp at hm
  ·unfold ansM at hm
   obtain ⟨k,hk,rfl⟩:=List.mem_map.1 hm
   have:=h.may k hk
   exact ⟨rfl,by show k.Peer≠_;omega,rfl⟩
 ·rcases List.mem_append.1 hm with hm | hm
  ·have:=Zmu h.pre (fireDr_mail m hm)
   rw [pre_id] at this
   exact this
  ·rcases List.mem_append.1 hm with hm | hm
   ·rw [←h6]
    refine Zmu hg ?_
    unfold Zvr at hm
    split at hm
    ·exact Zqs _ _ _ _ _ (fun x hx=>hx) (by simp) m hm
    ·simp at hm
   ·rw [←h6]
    refine Zmu hg ?_
    unfold Zxr Zir at hm
    obtain ⟨x,hx,hm⟩:=List.mem_flatMap.1 hm
    unfold Zgr at hm
    split at hm
    ·simp at hm;subst hm
     exact ⟨rfl,⟨x,hx,rfl⟩,rfl⟩
    ·simp at hm
theorem rest_mail {n:Node} (h:OkN n) {V:List Event}:∀m∈(Z6t n [] V).2.1,Zlu n.DK.DI.ID m:=
 (Zdt (P:=fun m E _=>m.DK.DI.ID=n.DK.DI.ID∧∀x∈E,Zlu n.DK.DI.ID x) (fun m E V hm hP=>⟨(once_id m).trans hP.1,fun v hv=>by
   rcases List.mem_append.1 hv with hv | hv
   ·exact hP.2 v hv
   ·have:=onceNM_ok hm hv
    rw [hP.1] at this
    exact this⟩) h ⟨rfl,by simp⟩).2
structure Good (n m:Node) (V:List Event):Prop where
 okn:OkN n
 ok:OkN m
 id:m.DK.DI.ID=n.DK.DI.ID
 ev:∀v∈V,EvOK n.DK.DI.ID v∧v.Kind≠1
 len:V.length≤1000
theorem act_out (n:Node) (a:Do) (hf:FewN n) (ha:a.Need.length≤1000):∃e m V,Zfl n a=some (Z5u e m V)∧(e=0→Good n m V):=by
 cases hk:okN n with
 | false=>exact ⟨180,Z4u,[],by rw [s_ActBad n a hf hk];rfl,fun e=>by omega⟩
 | true=>
   have h:=(Zbs n).1 hk
   refine ⟨_,_,_,s_Act n a h ha,fun he=>?_⟩
   obtain ⟨h1,h2,_,_,h5,h6⟩:=actN_ok h he
   exact ⟨h,h1,h2,h5,h6⟩
theorem get_out (n:Node) (p:Int) (m:Msg) (hf:FewN n):∃e r V,Zol n p m=some (Z5u e r V)∧(e=0→Good n r V):=by
 cases hk:okN n with
 | false=>exact ⟨180,Z4u,[],by rw [s_GetBad n p m hf hk];rfl,fun e=>by omega⟩
 | true=>
   have h:=(Zbs n).1 hk
   refine ⟨_,_,_,s_Get2 n p m h,fun he=>?_⟩
   obtain ⟨h1,h2,h5,h6⟩:=getN_ok h he
   exact ⟨h,h1,h2,h5,h6⟩
theorem Zou (m:Node) (V:List Event):Z5u 0 m V=((Z6t m [] V).1,(Z6t m [] V).2.1,(Z6t m [] V).2.2,0):=rfl
theorem Zpu {e:Int} (h:e≠0) (m:Node) (V:List Event):Z5u e m V=(Z4u,[],[],e):=by unfold Z5u;rw [if_neg h]
theorem outA_says {n:Node} {e:Int} {m:Node} {V:List Event} (hg:e=0→Good n m V):(∀x∈(Z5u e m V).2.1,Zlu n.DK.DI.ID x)∧(∀v∈(Z5u e m V).2.2.1,EvOK n.DK.DI.ID v)∧(Z5u e m V).2.1.length≤6000∧(Z5u e m V).2.2.1.length≤6000:=by
 by_cases e0:e=0
 ·subst e0
  have g:=hg rfl
  have hl:=Zju g.ok [] V
  have h1:=rest_mail g.ok (V:=V)
  have h2:=rest_ev g.ok (E:=[]) (V:=V) (Q:=EvOK n.DK.DI.ID) (fun v hv=>(g.ev v hv).1) (fun v hv _=>by rw [g.id] at hv;exact hv)
  rw [g.id] at h1
  have:=g.len
  simp only [List.length_nil] at hl
  exact ⟨h1,h2,by rw [Zou];dsimp only;omega,by rw [Zou];dsimp only;omega⟩
 ·rw [Zpu e0]
  exact ⟨by simp,by simp,by simp,by simp⟩
theorem Z7w (n:Node) (a:Do) (p:Int) (m:Msg):Ztn n a p m=some true:=by
 have j1t:Zsn n a p m true=some true:=by
  dsimp only [Zsn]
  rw [Zvn,Zhu];rfl
 obtain ⟨z,hz,hF⟩:=Zeu n
 unfold Ztn
 rw [Zhu,OB,Bool.not_true,Zwn,hz,OB,j1t]
 cases z with
 | false=>rfl
 | true=>
   have hf:=hF rfl
   rw [Bool.not_true,Zwn,ln_eq]
   by_cases ha:(70:Int)<a.Need.length
   ·rw [DT ha];exact j1t
   ·rw [DN ha]
    obtain ⟨e,x,V,he,hg⟩:=act_out n a hf (by omega)
    obtain ⟨f,y,W,h8,h9⟩:=get_out n p m hf
    obtain ⟨a1,a2,a3,a4⟩:=outA_says hg
    obtain ⟨b1,b2,b3,b4⟩:=outA_says h9
    dsimp only [Zsn]
    rw [Zwn,Zdu n hf,OB,he,OB]
    dsimp only [Zrn]
    rw [Zdu n hf,OB,h8,OB]
    dsimp only [Zqn]
    generalize Z5u e x V=A at *
    generalize Z5u f y W=B at *
    rw [Z0o _ _ (by omega) (by simp;omega),OB,List.nil_append,Z0o _ _ (by omega) (by omega),OB,Z0o _ _ (by omega) (by simp;omega),OB,List.nil_append,Z0o _ _ (by omega) (by omega),OB]
    have hM:∀q∈A.2.1++B.2.1,Zlu n.DK.DI.ID q:=fun q hq=>by
     rcases List.mem_append.1 hq with hq | hq
     ·exact a1 q hq
     ·exact b1 q hq
    have hE:∀q∈A.2.2.1++B.2.2.1,EvOK n.DK.DI.ID q:=fun q hq=>by
     rcases List.mem_append.1 hq with hq | hq
     ·exact a2 q hq
     ·exact b2 q hq
    have hc:(A.2.1++B.2.1).length≤12000:=by rw [List.length_append];omega
    have hd:(A.2.2.1++B.2.2.1).length≤12000:=by rw [List.length_append];omega
    generalize A.2.1++B.2.1=M at *
    generalize A.2.2.1++B.2.2.1=E at *
    refine Zco M _ (fun pre=>(pre.length:Int)) _ (fun pre x post h0=>?_) ?_
    ·have hx:=Zdo h0
     have hm:=Zeo h0
     obtain ⟨q1,q2,q3⟩:=hM x (Zfo h0)
     dsimp only [Zpn,Zon]
     rw [Z1o hx,Zvn,Zzn hx,OB,DT q1,DN q2,DT q3,Z3o (by omega),Zio]
     rfl
    ·dsimp only [Zpn,Znn]
     rw [Z2o,Zwn]
     have:loop (Zmn n E) 0=some true:=by
      refine Zco E _ (fun pre=>(pre.length:Int)) _ (fun pre x post h0=>?_) ?_
      ·have hx:=Zdo h0
       have hm:=Zeo h0
       obtain ⟨q1,q2,q3,q4⟩:=hE x (Zfo h0)
       dsimp only [Zmn,Zln]
       rw [Z1o hx,Zvn,Zzn hx,OB,DT q1,Bool.not_true,Zwn,Z3o (by omega),Zio,ln_eq]
       have hn:(!decide (x.Kind=0))=true→decide ((x.Need.length:Int)=0)=true:=fun h=>by
        have:x.Kind≠0:=by simpa using h
        rw [q4 this];rfl
       by_cases h6:6≤x.Kind
       ·rw [DT h6,DT (q2 h6)]
        cases hk:(!decide (x.Kind=0)) with
        | false=>rfl
        | true=>rw [hn hk];rfl
       ·rw [DN h6,DT (q3 (by omega))]
        cases hk:(!decide (x.Kind=0)) with
        | false=>rfl
        | true=>rw [hn hk];rfl
      ·dsimp only [Zmn,Zkn]
       rw [Z2o,Zwn];rfl
     rw [this];rfl
end NX
end Go.Proofs.YtdjkbodnjhgbcaaGreat
namespace Go.Proofs.YtdjkbodnjhgbcaaGreat
namespace NX
open Go Go.ChangeShapes Go.WideShapes Go.ChangeAt Go.RowKit
theorem Z8w:Opn Tryz.prog 65 Side.row:=by
 intro H enc w base sp h6 fuel cs x h
 obtain ⟨xs,n,_,_,hl,h8,hf⟩:=DataW.trod_struct Tryz.underlying65 h
 rw [show Tryz.prog.cellsOf 65=8 from by kernel_rfl] at hl
 have c0:DataW.trod enc Tryz.prog w base sp h6 n 3 ((cs.drop 0).take (Tryz.prog.cellsOf 3))=xs[0]?:=hf 0 _ rfl
 rw [show Tryz.prog.cellsOf 3=1 from by kernel_rfl] at c0
 have h9:0<xs.length:=by rw [h8];decide
 obtain ⟨y0,hB⟩:∃y,xs[0]?=some y:=⟨_,List.getElem?_eq_getElem h9⟩
 obtain ⟨v0,k0⟩:=(opn_int Tryz.underlying3) enc w _ _ _ _ _ _ (c0.trans hB)
 have c1:DataW.trod enc Tryz.prog w base sp h6 n 3 ((cs.drop 1).take (Tryz.prog.cellsOf 3))=xs[1]?:=hf 1 _ rfl
 rw [show Tryz.prog.cellsOf 3=1 from by kernel_rfl] at c1
 have hc:1<xs.length:=by rw [h8];decide
 obtain ⟨y1,hy1⟩:∃y,xs[1]?=some y:=⟨_,List.getElem?_eq_getElem hc⟩
 obtain ⟨v1,k1⟩:=(opn_int Tryz.underlying3) enc w _ _ _ _ _ _ (c1.trans hy1)
 have c2:DataW.trod enc Tryz.prog w base sp h6 n 63 ((cs.drop 2).take (Tryz.prog.cellsOf 63))=xs[2]?:=hf 2 _ rfl
 rw [show Tryz.prog.cellsOf 63=1 from by kernel_rfl] at c2
 have hd:2<xs.length:=by rw [h8];decide
 obtain ⟨y2,hC⟩:∃y,xs[2]?=some y:=⟨_,List.getElem?_eq_getElem hd⟩
 obtain ⟨v2,k2⟩:=(opn_int Tryz.underlying63) enc w _ _ _ _ _ _ (c2.trans hC)
 have c3:DataW.trod enc Tryz.prog w base sp h6 n 4 ((cs.drop 3).take (Tryz.prog.cellsOf 4))=xs[3]?:=hf 3 _ rfl
 rw [show Tryz.prog.cellsOf 4=1 from by kernel_rfl] at c3
 have he:3<xs.length:=by rw [h8];decide
 obtain ⟨y3,hD⟩:∃y,xs[3]?=some y:=⟨_,List.getElem?_eq_getElem he⟩
 obtain ⟨v3,k3⟩:=(opn_bool Tryz.underlying4) enc w _ _ _ _ _ _ (c3.trans hD)
 have c4:DataW.trod enc Tryz.prog w base sp h6 n 4 ((cs.drop 4).take (Tryz.prog.cellsOf 4))=xs[4]?:=hf 4 _ rfl
 rw [show Tryz.prog.cellsOf 4=1 from by kernel_rfl] at c4
 have hn:4<xs.length:=by rw [h8];decide
 obtain ⟨y4,hE⟩:∃y,xs[4]?=some y:=⟨_,List.getElem?_eq_getElem hn⟩
 obtain ⟨v4,k4⟩:=(opn_bool Tryz.underlying4) enc w _ _ _ _ _ _ (c4.trans hE)
 have c5:DataW.trod enc Tryz.prog w base sp h6 n 4 ((cs.drop 5).take (Tryz.prog.cellsOf 4))=xs[5]?:=hf 5 _ rfl
 rw [show Tryz.prog.cellsOf 4=1 from by kernel_rfl] at c5
 have ho:5<xs.length:=by rw [h8];decide
 obtain ⟨y5,hG⟩:∃y,xs[5]?=some y:=⟨_,List.getElem?_eq_getElem ho⟩
 obtain ⟨v5,k5⟩:=(opn_bool Tryz.underlying4) enc w _ _ _ _ _ _ (c5.trans hG)
 have c6:DataW.trod enc Tryz.prog w base sp h6 n 4 ((cs.drop 6).take (Tryz.prog.cellsOf 4))=xs[6]?:=hf 6 _ rfl
 rw [show Tryz.prog.cellsOf 4=1 from by kernel_rfl] at c6
 have hw:6<xs.length:=by rw [h8];decide
 obtain ⟨y6,hI⟩:∃y,xs[6]?=some y:=⟨_,List.getElem?_eq_getElem hw⟩
 obtain ⟨v6,k6⟩:=(opn_bool Tryz.underlying4) enc w _ _ _ _ _ _ (c6.trans hI)
 have c7:DataW.trod enc Tryz.prog w base sp h6 n 4 ((cs.drop 7).take (Tryz.prog.cellsOf 4))=xs[7]?:=hf 7 _ rfl
 rw [show Tryz.prog.cellsOf 4=1 from by kernel_rfl] at c7
 have hA:7<xs.length:=by rw [h8];decide
 obtain ⟨y7,hJ⟩:∃y,xs[7]?=some y:=⟨_,List.getElem?_eq_getElem hA⟩
 obtain ⟨v7,k7⟩:=(opn_bool Tryz.underlying4) enc w _ _ _ _ _ _ (c7.trans hJ)
 have e:cs=(cs.drop 0).take 1++(cs.drop 1).take 1++(cs.drop 2).take 1++(cs.drop 3).take 1++(cs.drop 4).take 1++(cs.drop 5).take 1++(cs.drop 6).take 1++(cs.drop 7).take 1:=by
  match cs,hl with
  | [a0,a1,a2,a3,a4,a5,a6,a7],_=>rfl
 rw [e]
 exact ⟨⟨v0,v1,v2,v3,v4,v5,v6,v7⟩,(Zk1 (Zk1 (Zk1 (Zk1 (Zk1 (Zk1 (Zk1 k0 k1) k2) k3) k4) k5) k6) k7)⟩
theorem Z9w:Opn Tryz.prog 23 (Z25 8 Side.row):=opn_slice (n:=8) (row:=Side.row) Tryz.underlying23 (by kernel_rfl) (by decide) (fun _=>⟨rfl,rfl,rfl⟩) Z8w
theorem Zaw:Opn Tryz.prog 25 DI.row:=by
 intro H enc w base sp h6 fuel cs x h
 obtain ⟨xs,n,_,_,hl,h8,hf⟩:=DataW.trod_struct Tryz.underlying25 h
 rw [show Tryz.prog.cellsOf 25=3 from by kernel_rfl] at hl
 have c0:DataW.trod enc Tryz.prog w base sp h6 n 3 ((cs.drop 0).take (Tryz.prog.cellsOf 3))=xs[0]?:=hf 0 _ rfl
 rw [show Tryz.prog.cellsOf 3=1 from by kernel_rfl] at c0
 have h9:0<xs.length:=by rw [h8];decide
 obtain ⟨y0,he⟩:∃y,xs[0]?=some y:=⟨_,List.getElem?_eq_getElem h9⟩
 obtain ⟨v0,k0⟩:=(opn_int Tryz.underlying3) enc w _ _ _ _ _ _ (c0.trans he)
 have c1:DataW.trod enc Tryz.prog w base sp h6 n 22 ((cs.drop 1).take (Tryz.prog.cellsOf 22))=xs[1]?:=hf 1 _ rfl
 rw [show Tryz.prog.cellsOf 22=1 from by kernel_rfl] at c1
 have hc:1<xs.length:=by rw [h8];decide
 obtain ⟨y1,hy1⟩:∃y,xs[1]?=some y:=⟨_,List.getElem?_eq_getElem hc⟩
 obtain ⟨v1,k1⟩:=(opn_int Tryz.underlying22) enc w _ _ _ _ _ _ (c1.trans hy1)
 have c2:DataW.trod enc Tryz.prog w base sp h6 n 23 ((cs.drop 2).take (Tryz.prog.cellsOf 23))=xs[2]?:=hf 2 _ rfl
 rw [show Tryz.prog.cellsOf 23=1 from by kernel_rfl] at c2
 have hd:2<xs.length:=by rw [h8];decide
 obtain ⟨y2,hn⟩:∃y,xs[2]?=some y:=⟨_,List.getElem?_eq_getElem hd⟩
 obtain ⟨v2,k2⟩:=Z9w enc w _ _ _ _ _ _ (c2.trans hn)
 have e:cs=(cs.drop 0).take 1++(cs.drop 1).take 1++(cs.drop 2).take 1:=by
  match cs,hl with
  | [a0,a1,a2],_=>rfl
 rw [e]
 exact ⟨⟨v0,v1,v2⟩,(Zk1 (Zk1 k0 k1) k2)⟩
theorem Zbw:Opn Tryz.prog 27 (Z25 1 Z15):=opn_slice (n:=1) (row:=Z15) Tryz.underlying27 (by kernel_rfl) (by decide) (fun _=>⟨rfl,rfl,rfl⟩) (opn_int Tryz.underlying3)
theorem Zcw:Opn Tryz.prog 29 DK.row:=by
 intro H enc w base sp h6 fuel cs x h
 obtain ⟨xs,n,_,_,hl,h8,hf⟩:=DataW.trod_struct Tryz.underlying29 h
 rw [show Tryz.prog.cellsOf 29=5 from by kernel_rfl] at hl
 have c0:DataW.trod enc Tryz.prog w base sp h6 n 25 ((cs.drop 0).take (Tryz.prog.cellsOf 25))=xs[0]?:=hf 0 _ rfl
 rw [show Tryz.prog.cellsOf 25=3 from by kernel_rfl] at c0
 have h9:0<xs.length:=by rw [h8];decide
 obtain ⟨y0,he⟩:∃y,xs[0]?=some y:=⟨_,List.getElem?_eq_getElem h9⟩
 obtain ⟨v0,k0⟩:=Zaw enc w _ _ _ _ _ _ (c0.trans he)
 have c1:DataW.trod enc Tryz.prog w base sp h6 n 26 ((cs.drop 3).take (Tryz.prog.cellsOf 26))=xs[1]?:=hf 1 _ rfl
 rw [show Tryz.prog.cellsOf 26=1 from by kernel_rfl] at c1
 have hc:1<xs.length:=by rw [h8];decide
 obtain ⟨y1,hy1⟩:∃y,xs[1]?=some y:=⟨_,List.getElem?_eq_getElem hc⟩
 obtain ⟨v1,k1⟩:=(opn_int Tryz.underlying26) enc w _ _ _ _ _ _ (c1.trans hy1)
 have c2:DataW.trod enc Tryz.prog w base sp h6 n 27 ((cs.drop 4).take (Tryz.prog.cellsOf 27))=xs[2]?:=hf 2 _ rfl
 rw [show Tryz.prog.cellsOf 27=1 from by kernel_rfl] at c2
 have hd:2<xs.length:=by rw [h8];decide
 obtain ⟨y2,hn⟩:∃y,xs[2]?=some y:=⟨_,List.getElem?_eq_getElem hd⟩
 obtain ⟨v2,k2⟩:=Zbw enc w _ _ _ _ _ _ (c2.trans hn)
 have e:cs=(cs.drop 0).take 3++(cs.drop 3).take 1++(cs.drop 4).take 1:=by
  match cs,hl with
  | [a0,a1,a2,a3,a4],_=>rfl
 rw [e]
 exact ⟨⟨v0,v1,v2⟩,(Zk1 (Zk1 k0 k1) k2)⟩
theorem Zdw:Opn Tryz.prog 60 Sess.row:=by
 intro H enc w base sp h6 fuel cs x h
 obtain ⟨xs,n,_,_,hl,h8,hf⟩:=DataW.trod_struct Tryz.underlying60 h
 rw [show Tryz.prog.cellsOf 60=4 from by kernel_rfl] at hl
 have c0:DataW.trod enc Tryz.prog w base sp h6 n 3 ((cs.drop 0).take (Tryz.prog.cellsOf 3))=xs[0]?:=hf 0 _ rfl
 rw [show Tryz.prog.cellsOf 3=1 from by kernel_rfl] at c0
 have h9:0<xs.length:=by rw [h8];decide
 obtain ⟨y0,hn⟩:∃y,xs[0]?=some y:=⟨_,List.getElem?_eq_getElem h9⟩
 obtain ⟨v0,k0⟩:=(opn_int Tryz.underlying3) enc w _ _ _ _ _ _ (c0.trans hn)
 have c1:DataW.trod enc Tryz.prog w base sp h6 n 27 ((cs.drop 1).take (Tryz.prog.cellsOf 27))=xs[1]?:=hf 1 _ rfl
 rw [show Tryz.prog.cellsOf 27=1 from by kernel_rfl] at c1
 have hc:1<xs.length:=by rw [h8];decide
 obtain ⟨y1,hy1⟩:∃y,xs[1]?=some y:=⟨_,List.getElem?_eq_getElem hc⟩
 obtain ⟨v1,k1⟩:=Zbw enc w _ _ _ _ _ _ (c1.trans hy1)
 have c2:DataW.trod enc Tryz.prog w base sp h6 n 58 ((cs.drop 2).take (Tryz.prog.cellsOf 58))=xs[2]?:=hf 2 _ rfl
 rw [show Tryz.prog.cellsOf 58=1 from by kernel_rfl] at c2
 have hd:2<xs.length:=by rw [h8];decide
 obtain ⟨y2,ho⟩:∃y,xs[2]?=some y:=⟨_,List.getElem?_eq_getElem hd⟩
 obtain ⟨v2,k2⟩:=(opn_int Tryz.underlying58) enc w _ _ _ _ _ _ (c2.trans ho)
 have c3:DataW.trod enc Tryz.prog w base sp h6 n 3 ((cs.drop 3).take (Tryz.prog.cellsOf 3))=xs[3]?:=hf 3 _ rfl
 rw [show Tryz.prog.cellsOf 3=1 from by kernel_rfl] at c3
 have he:3<xs.length:=by rw [h8];decide
 obtain ⟨y3,hw⟩:∃y,xs[3]?=some y:=⟨_,List.getElem?_eq_getElem he⟩
 obtain ⟨v3,k3⟩:=(opn_int Tryz.underlying3) enc w _ _ _ _ _ _ (c3.trans hw)
 have e:cs=(cs.drop 0).take 1++(cs.drop 1).take 1++(cs.drop 2).take 1++(cs.drop 3).take 1:=by
  match cs,hl with
  | [a0,a1,a2,a3],_=>rfl
 rw [e]
 exact ⟨⟨v0,v1,v2,v3⟩,(Zk1 (Zk1 (Zk1 k0 k1) k2) k3)⟩
theorem Zew:Opn Tryz.prog 30 (Z25 4 Sess.row):=opn_slice (n:=4) (row:=Sess.row) Tryz.underlying30 (by kernel_rfl) (by decide) (fun _=>⟨rfl,rfl,rfl⟩) Zdw
theorem Zfw:Opn Tryz.prog 32 Book.row:=by
 intro H enc w base sp h6 fuel cs x h
 obtain ⟨xs,n,_,_,hl,h8,hf⟩:=DataW.trod_struct Tryz.underlying32 h
 rw [show Tryz.prog.cellsOf 32=2 from by kernel_rfl] at hl
 have c0:DataW.trod enc Tryz.prog w base sp h6 n 3 ((cs.drop 0).take (Tryz.prog.cellsOf 3))=xs[0]?:=hf 0 _ rfl
 rw [show Tryz.prog.cellsOf 3=1 from by kernel_rfl] at c0
 have h9:0<xs.length:=by rw [h8];decide
 obtain ⟨y0,hd⟩:∃y,xs[0]?=some y:=⟨_,List.getElem?_eq_getElem h9⟩
 obtain ⟨v0,k0⟩:=(opn_int Tryz.underlying3) enc w _ _ _ _ _ _ (c0.trans hd)
 have c1:DataW.trod enc Tryz.prog w base sp h6 n 30 ((cs.drop 1).take (Tryz.prog.cellsOf 30))=xs[1]?:=hf 1 _ rfl
 rw [show Tryz.prog.cellsOf 30=1 from by kernel_rfl] at c1
 have hc:1<xs.length:=by rw [h8];decide
 obtain ⟨y1,hy1⟩:∃y,xs[1]?=some y:=⟨_,List.getElem?_eq_getElem hc⟩
 obtain ⟨v1,k1⟩:=Zew enc w _ _ _ _ _ _ (c1.trans hy1)
 have e:cs=(cs.drop 0).take 1++(cs.drop 1).take 1:=by
  match cs,hl with
  | [a0,a1],_=>rfl
 rw [e]
 exact ⟨⟨v0,v1⟩,(Zk1 k0 k1)⟩
theorem Zgw:Opn Tryz.prog 95 KE.row:=by
 intro H enc w base sp h6 fuel cs x h
 obtain ⟨xs,n,_,_,hl,h8,hf⟩:=DataW.trod_struct Tryz.underlying95 h
 rw [show Tryz.prog.cellsOf 95=2 from by kernel_rfl] at hl
 have c0:DataW.trod enc Tryz.prog w base sp h6 n 3 ((cs.drop 0).take (Tryz.prog.cellsOf 3))=xs[0]?:=hf 0 _ rfl
 rw [show Tryz.prog.cellsOf 3=1 from by kernel_rfl] at c0
 have h9:0<xs.length:=by rw [h8];decide
 obtain ⟨y0,hd⟩:∃y,xs[0]?=some y:=⟨_,List.getElem?_eq_getElem h9⟩
 obtain ⟨v0,k0⟩:=(opn_int Tryz.underlying3) enc w _ _ _ _ _ _ (c0.trans hd)
 have c1:DataW.trod enc Tryz.prog w base sp h6 n 3 ((cs.drop 1).take (Tryz.prog.cellsOf 3))=xs[1]?:=hf 1 _ rfl
 rw [show Tryz.prog.cellsOf 3=1 from by kernel_rfl] at c1
 have hc:1<xs.length:=by rw [h8];decide
 obtain ⟨y1,hy1⟩:∃y,xs[1]?=some y:=⟨_,List.getElem?_eq_getElem hc⟩
 obtain ⟨v1,k1⟩:=(opn_int Tryz.underlying3) enc w _ _ _ _ _ _ (c1.trans hy1)
 have e:cs=(cs.drop 0).take 1++(cs.drop 1).take 1:=by
  match cs,hl with
  | [a0,a1],_=>rfl
 rw [e]
 exact ⟨⟨v0,v1⟩,(Zk1 k0 k1)⟩
theorem Zhw:Opn Tryz.prog 33 (Z25 2 KE.row):=opn_slice (n:=2) (row:=KE.row) Tryz.underlying33 (by kernel_rfl) (by decide) (fun _=>⟨rfl,rfl,rfl⟩) Zgw
theorem Ziw:Opn Tryz.prog 35 Node.row:=by
 intro H enc w base sp h6 fuel cs x h
 obtain ⟨xs,n,_,_,hl,h8,hf⟩:=DataW.trod_struct Tryz.underlying35 h
 rw [show Tryz.prog.cellsOf 35=10 from by kernel_rfl] at hl
 have c0:DataW.trod enc Tryz.prog w base sp h6 n 29 ((cs.drop 0).take (Tryz.prog.cellsOf 29))=xs[0]?:=hf 0 _ rfl
 rw [show Tryz.prog.cellsOf 29=5 from by kernel_rfl] at c0
 have h9:0<xs.length:=by rw [h8];decide
 obtain ⟨y0,ho⟩:∃y,xs[0]?=some y:=⟨_,List.getElem?_eq_getElem h9⟩
 obtain ⟨v0,k0⟩:=Zcw enc w _ _ _ _ _ _ (c0.trans ho)
 have c1:DataW.trod enc Tryz.prog w base sp h6 n 32 ((cs.drop 5).take (Tryz.prog.cellsOf 32))=xs[1]?:=hf 1 _ rfl
 rw [show Tryz.prog.cellsOf 32=2 from by kernel_rfl] at c1
 have hc:1<xs.length:=by rw [h8];decide
 obtain ⟨y1,hy1⟩:∃y,xs[1]?=some y:=⟨_,List.getElem?_eq_getElem hc⟩
 obtain ⟨v1,k1⟩:=Zfw enc w _ _ _ _ _ _ (c1.trans hy1)
 have c2:DataW.trod enc Tryz.prog w base sp h6 n 33 ((cs.drop 7).take (Tryz.prog.cellsOf 33))=xs[2]?:=hf 2 _ rfl
 rw [show Tryz.prog.cellsOf 33=1 from by kernel_rfl] at c2
 have hd:2<xs.length:=by rw [h8];decide
 obtain ⟨y2,hw⟩:∃y,xs[2]?=some y:=⟨_,List.getElem?_eq_getElem hd⟩
 obtain ⟨v2,k2⟩:=Zhw enc w _ _ _ _ _ _ (c2.trans hw)
 have c3:DataW.trod enc Tryz.prog w base sp h6 n 27 ((cs.drop 8).take (Tryz.prog.cellsOf 27))=xs[3]?:=hf 3 _ rfl
 rw [show Tryz.prog.cellsOf 27=1 from by kernel_rfl] at c3
 have he:3<xs.length:=by rw [h8];decide
 obtain ⟨y3,hA⟩:∃y,xs[3]?=some y:=⟨_,List.getElem?_eq_getElem he⟩
 obtain ⟨v3,k3⟩:=Zbw enc w _ _ _ _ _ _ (c3.trans hA)
 have c4:DataW.trod enc Tryz.prog w base sp h6 n 33 ((cs.drop 9).take (Tryz.prog.cellsOf 33))=xs[4]?:=hf 4 _ rfl
 rw [show Tryz.prog.cellsOf 33=1 from by kernel_rfl] at c4
 have hn:4<xs.length:=by rw [h8];decide
 obtain ⟨y4,hB⟩:∃y,xs[4]?=some y:=⟨_,List.getElem?_eq_getElem hn⟩
 obtain ⟨v4,k4⟩:=Zhw enc w _ _ _ _ _ _ (c4.trans hB)
 have e:cs=(cs.drop 0).take 5++(cs.drop 5).take 2++(cs.drop 7).take 1++(cs.drop 8).take 1++(cs.drop 9).take 1:=by
  match cs,hl with
  | [a0,a1,a2,a3,a4,a5,a6,a7,a8,a9],_=>rfl
 rw [e]
 exact ⟨⟨v0,v1,v2,v3,v4⟩,(Zk1 (Zk1 (Zk1 (Zk1 k0 k1) k2) k3) k4)⟩
theorem Zjw:Opn Tryz.prog 38 Do.row:=by
 intro H enc w base sp h6 fuel cs x h
 obtain ⟨xs,n,_,_,hl,h8,hf⟩:=DataW.trod_struct Tryz.underlying38 h
 rw [show Tryz.prog.cellsOf 38=5 from by kernel_rfl] at hl
 have c0:DataW.trod enc Tryz.prog w base sp h6 n 36 ((cs.drop 0).take (Tryz.prog.cellsOf 36))=xs[0]?:=hf 0 _ rfl
 rw [show Tryz.prog.cellsOf 36=1 from by kernel_rfl] at c0
 have h9:0<xs.length:=by rw [h8];decide
 obtain ⟨y0,ho⟩:∃y,xs[0]?=some y:=⟨_,List.getElem?_eq_getElem h9⟩
 obtain ⟨v0,k0⟩:=(opn_int Tryz.underlying36) enc w _ _ _ _ _ _ (c0.trans ho)
 have c1:DataW.trod enc Tryz.prog w base sp h6 n 3 ((cs.drop 1).take (Tryz.prog.cellsOf 3))=xs[1]?:=hf 1 _ rfl
 rw [show Tryz.prog.cellsOf 3=1 from by kernel_rfl] at c1
 have hc:1<xs.length:=by rw [h8];decide
 obtain ⟨y1,hy1⟩:∃y,xs[1]?=some y:=⟨_,List.getElem?_eq_getElem hc⟩
 obtain ⟨v1,k1⟩:=(opn_int Tryz.underlying3) enc w _ _ _ _ _ _ (c1.trans hy1)
 have c2:DataW.trod enc Tryz.prog w base sp h6 n 3 ((cs.drop 2).take (Tryz.prog.cellsOf 3))=xs[2]?:=hf 2 _ rfl
 rw [show Tryz.prog.cellsOf 3=1 from by kernel_rfl] at c2
 have hd:2<xs.length:=by rw [h8];decide
 obtain ⟨y2,hw⟩:∃y,xs[2]?=some y:=⟨_,List.getElem?_eq_getElem hd⟩
 obtain ⟨v2,k2⟩:=(opn_int Tryz.underlying3) enc w _ _ _ _ _ _ (c2.trans hw)
 have c3:DataW.trod enc Tryz.prog w base sp h6 n 3 ((cs.drop 3).take (Tryz.prog.cellsOf 3))=xs[3]?:=hf 3 _ rfl
 rw [show Tryz.prog.cellsOf 3=1 from by kernel_rfl] at c3
 have he:3<xs.length:=by rw [h8];decide
 obtain ⟨y3,hA⟩:∃y,xs[3]?=some y:=⟨_,List.getElem?_eq_getElem he⟩
 obtain ⟨v3,k3⟩:=(opn_int Tryz.underlying3) enc w _ _ _ _ _ _ (c3.trans hA)
 have c4:DataW.trod enc Tryz.prog w base sp h6 n 27 ((cs.drop 4).take (Tryz.prog.cellsOf 27))=xs[4]?:=hf 4 _ rfl
 rw [show Tryz.prog.cellsOf 27=1 from by kernel_rfl] at c4
 have hn:4<xs.length:=by rw [h8];decide
 obtain ⟨y4,hB⟩:∃y,xs[4]?=some y:=⟨_,List.getElem?_eq_getElem hn⟩
 obtain ⟨v4,k4⟩:=Zbw enc w _ _ _ _ _ _ (c4.trans hB)
 have e:cs=(cs.drop 0).take 1++(cs.drop 1).take 1++(cs.drop 2).take 1++(cs.drop 3).take 1++(cs.drop 4).take 1:=by
  match cs,hl with
  | [a0,a1,a2,a3,a4],_=>rfl
 rw [e]
 exact ⟨⟨v0,v1,v2,v3,v4⟩,(Zk1 (Zk1 (Zk1 (Zk1 k0 k1) k2) k3) k4)⟩
theorem Zkw:Opn Tryz.prog 41 Msg.row:=by
 intro H enc w base sp h6 fuel cs x h
 obtain ⟨xs,n,_,_,hl,h8,hf⟩:=DataW.trod_struct Tryz.underlying41 h
 rw [show Tryz.prog.cellsOf 41=3 from by kernel_rfl] at hl
 have c0:DataW.trod enc Tryz.prog w base sp h6 n 39 ((cs.drop 0).take (Tryz.prog.cellsOf 39))=xs[0]?:=hf 0 _ rfl
 rw [show Tryz.prog.cellsOf 39=1 from by kernel_rfl] at c0
 have h9:0<xs.length:=by rw [h8];decide
 obtain ⟨y0,he⟩:∃y,xs[0]?=some y:=⟨_,List.getElem?_eq_getElem h9⟩
 obtain ⟨v0,k0⟩:=(opn_int Tryz.underlying39) enc w _ _ _ _ _ _ (c0.trans he)
 have c1:DataW.trod enc Tryz.prog w base sp h6 n 3 ((cs.drop 1).take (Tryz.prog.cellsOf 3))=xs[1]?:=hf 1 _ rfl
 rw [show Tryz.prog.cellsOf 3=1 from by kernel_rfl] at c1
 have hc:1<xs.length:=by rw [h8];decide
 obtain ⟨y1,hy1⟩:∃y,xs[1]?=some y:=⟨_,List.getElem?_eq_getElem hc⟩
 obtain ⟨v1,k1⟩:=(opn_int Tryz.underlying3) enc w _ _ _ _ _ _ (c1.trans hy1)
 have c2:DataW.trod enc Tryz.prog w base sp h6 n 3 ((cs.drop 2).take (Tryz.prog.cellsOf 3))=xs[2]?:=hf 2 _ rfl
 rw [show Tryz.prog.cellsOf 3=1 from by kernel_rfl] at c2
 have hd:2<xs.length:=by rw [h8];decide
 obtain ⟨y2,hn⟩:∃y,xs[2]?=some y:=⟨_,List.getElem?_eq_getElem hd⟩
 obtain ⟨v2,k2⟩:=(opn_int Tryz.underlying3) enc w _ _ _ _ _ _ (c2.trans hn)
 have e:cs=(cs.drop 0).take 1++(cs.drop 1).take 1++(cs.drop 2).take 1:=by
  match cs,hl with
  | [a0,a1,a2],_=>rfl
 rw [e]
 exact ⟨⟨v0,v1,v2⟩,(Zk1 (Zk1 k0 k1) k2)⟩
theorem Zlw:laidOutB Tryz.prog=true:=by kernel_rfl
theorem own_nodeSays:ownKnob Tryz.prog.godebug=none:=by kernel_rfl
theorem Zmw (H:Type) (enc:TypeId×Value→H) (W:World) (base:Nat) (args:Array Value) (ds gs:List (DataW H)) (before:List MemPlace)
  (h6:∀(j:Nat) t v,Tryz.f7.params[j]?=some t→args[j]?=some v→Value.okWide Tryz.prog W .any base t v)
  (hW:DataW.Whole enc Tryz.prog Tryz.f7.params.toList Rows.nodeSaysSpec.vars false W args.toList ds gs before):
  Calls Tryz.prog 7 args W fun e W'=>∃v,e = .returned v∧Rows.nodeSaysSpec.post enc Tryz.prog Tryz.f7 false true false false W args v W':=by
 have h8:=hW
 obtain ⟨p,q,h9,hV,rfl,hn,ho⟩:=hW
 have hA:DataW.TrodAll enc Tryz.prog W 0 (fun _=>true) true Tryz.f7.params.toList args.toList ds p:=h9
 rw [Tryz.params7] at hA h6
 obtain ⟨v0,vs0,d0,ds0,p0,q0,hc,rfl,rfl,h0,r0⟩:=trodAll_cons hA
 obtain ⟨v1,vs1,d1,ds1,p1,q1,hd,rfl,rfl,h1,r1⟩:=trodAll_cons r0
 obtain ⟨v2,vs2,d2,ds2,p2,q2,he,rfl,rfl,h2,r2⟩:=trodAll_cons r1
 obtain ⟨v3,vs3,d3,ds3,p3,q3,hf,rfl,rfl,h3,r3⟩:=trodAll_cons r2
 obtain ⟨hz,rfl,rfl⟩:=trodAll_nil r3
 obtain rfl:args = #[v0,v1,v2,v3]:=by cases args;simp_all
 obtain ⟨x1,k0⟩:=arg_agg Ziw Tryz.underlying35 (h6 0 35 v0 rfl rfl) h0
 obtain ⟨x2,k1⟩:=arg_agg Zjw Tryz.underlying38 (h6 1 38 v1 rfl rfl) h1
 obtain ⟨x3,k2⟩:=arg_int Tryz.underlying3 (h6 2 3 v2 rfl rfl) h2
 obtain ⟨x4,k3⟩:=arg_agg Zkw Tryz.underlying41 (h6 3 41 v3 rfl rfl) h3
 refine (Zun x1 x2 x3 x4 true (Z7w x1 x2 x3 x4) (fun k=>W.heap[k]?) W [v0,v1,v2,v3] (fun _ _ h=>h) (fun _ hs=>absurd hs List.not_mem_nil) ⟨v0,_,rfl,k0,⟨v1,_,rfl,k1,⟨v2,_,rfl,k2,⟨v3,_,rfl,k3,rfl⟩⟩⟩⟩).mono ?_
 rintro e W' ⟨v,H',rfl,hB,_,_,hv⟩
 have hv:v = .bool true:=hv
 subst hv
 exact ⟨_,rfl,law_post Zlw (by kernel_rfl) rfl (rfl:Tryz.f7.resultTypes = #[4]) Tryz.underlying4 (fun _=>rfl) h8 hB⟩
theorem Znw (os:Os) (started:os.Started) (H:Type) (enc:TypeId×Value→H):
  ReturnsInHanded {} Tryz.checked os 7 .any (Rows.nodeSaysSpec.pre6 enc Tryz.prog Tryz.f7 Rows.nodeSaysRow.domain false) (Rows.nodeSaysSpec.post enc Tryz.prog Tryz.f7 false true false false):=by
 refine returnsInHanded_of_change (C:=Tryz.checked) own_nodeSays started (by kernel_rfl) Tryz.func7
  (ChangeSpec.witness6 (enc:=enc) (C:=Tryz.checked) false ⟨#[], #[.agg #[.int .i64 0,.int .i64 0,.slice none 0 0,.int .i64 0,.slice none 0 0,.int .i64 0,.slice none 0 0,.slice none 0 0,.slice none 0 0,.slice none 0 0],.agg #[.int .i64 0,.int .i64 0,.int .i64 0,.int .i64 0,.slice none 0 0],.int .i64 0,.agg #[.int .i64 0,.int .i64 0,.int .i64 0]],[]⟩ 8 (by kernel_rfl) (by kernel_rfl) (by kernel_rfl) (by kernel_rfl)) ?_
 intro W base args ds gs before h6 hW _ _
 exact Zmw H enc W base args ds gs before h6 hW
theorem nodeSays_holds:Rows.NodeSaysSaid:=
 OpenClaim.holds_of_wide 7 Tryz.f7 rfl rfl rfl rfl rfl rfl rfl ⟨rfl,rfl,rfl,rfl,rfl⟩ rfl rfl rfl rfl rfl (by kernel_rfl) Tryz.func7 (by kernel_rfl)
  (of_decide_eq_true (by kernel_rfl)) (by unfold Func.isWrapper;first | (rw [if_pos (by decide +kernel)];kernel_rfl) | (rw [if_neg (by decide +kernel)];exact ⟨rfl,rfl⟩))
  (fun os started H enc _=>Znw os started H enc)
#print axioms nodeSays_holds
end NX
end Go.Proofs.YtdjkbodnjhgbcaaGreat
