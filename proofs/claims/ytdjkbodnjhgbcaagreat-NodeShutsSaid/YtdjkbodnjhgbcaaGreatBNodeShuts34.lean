/-
  Plain laws: what comes to a node. No statement of the seat is proved here.
-/
import Derived.Test.YtdjkbodnjhgbcaaGreatRows
import Derived.Test.YtdjkbodnjhgbcaaGreatBNodeShuts33
set_option maxRecDepth 100000
set_option maxHeartbeats 4000000
namespace Go.Proofs.YtdjkbodnjhgbcaaGreat
namespace NX
open Go
noncomputable section
theorem OkN.sides {n:Node} (h:OkN n) {S:List Side} (hc:S.map Zes=n.DK.DI.SD.map Zes) (hd:∀x∈S,x.DY=true→x.Fork=true):OkN ⟨⟨⟨n.DK.DI.ID,n.DK.DI.PH,S⟩,n.DK.TH,n.DK.Need⟩,n.Book,n.KN,n.Told,n.AK⟩:=by
 have side:∀ {x:Side},x∈S→∃y∈n.DK.DI.SD,y.Peer=x.Peer∧y.Epoch=x.Epoch∧y.State=x.State:=fun hx=>Zjs hc hx
 have edis:∀ {x:Side},x∈n.DK.DI.SD→∃y∈S,y.Peer=x.Peer∧y.Epoch=x.Epoch∧y.State=x.State:=fun hx=>Zjs hc.symm hx
 have hl:S.length=n.DK.DI.SD.length:=by have:=congrArg List.length hc;rwa [List.length_map,List.length_map] at this
 refine {h with
  dr:=⟨⟨h.dr.din.id0,h.dr.din.p0,h.dr.din.p2,by show S.length<64;rw [hl];exact h.dr.din.len,pw_peers (core_peers hc) h.dr.din.up,fun x hx=>?_⟩,h.dr.t0,h.dr.t2,h.dr.up,h.dr.nz,fun p hp=>?_⟩
  may:=fun k hk=>⟨fun x hx=>?_,(h.may k hk).2⟩
  sd:=fun x hx=>?_
  tin:=fun p hp=>?_
  nl:=fun x hx hn=>?_
  wt:=fun s hs h0 p hp=>?_}
 ·obtain ⟨y,hy,e1,e2,e3⟩:=side hx
  have:=h.dr.din.side y hy
  exact ⟨by rw [←e1];exact this.lo,by rw [←e1];exact this.ne,by rw [←e2];exact this.e0,by rw [←e2];exact this.e1,by rw [←e3];exact this.s0,by rw [←e3];exact this.s3,hd x hx⟩
 ·obtain ⟨x,hx,e⟩:=h.dr.has p hp
  obtain ⟨y,hy,e1,_⟩:=edis hx
  exact ⟨y,hy,by omega⟩
 ·obtain ⟨y,hy,e1,_⟩:=side hx
  rw [←e1];exact (h.may k hk).1 y hy
 ·obtain ⟨y,hy,e1,e2,e3⟩:=side hx
  have:=h.sd y hy
  rw [←e1,←e2,←e3];exact this
 ·obtain ⟨x,hx,e,e'⟩:=h.tin p hp
  obtain ⟨y,hy,e1,_,e3⟩:=edis hx
  exact ⟨y,hy,by omega,by omega⟩
 ·obtain ⟨y,hy,e1,_,e3⟩:=side hx
  rw [←e3]
  exact h.nl y hy (by rw [e1];exact hn)
 ·obtain ⟨x,hx,e,e'⟩:=h.wt s hs h0 p hp
  obtain ⟨y,hy,e1,_,e3⟩:=edis hx
  exact ⟨y,hy,by omega,by omega⟩
theorem layK_core (k:Int) (x:Side):Zes (layK k x)=Zes x:=by
 unfold layK;split
 ·rfl
 ·split
  ·rfl
  ·split<;>rfl
theorem layK_dirty (k:Int) (x:Side) (h:x.DY=true→x.Fork=true):(layK k x).DY=true→(layK k x).Fork=true:=by
 unfold layK;split
 ·exact fun _=>rfl
 ·split
  ·exact h
  ·split<;>exact h
theorem set_core {S:List Side} {j:Nat} {x y:Side} (h:S[j]?=some x) (hc:Zes y=Zes x):(S.set j y).map Zes=S.map Zes:=by
 obtain ⟨e1,e2⟩:=Zyt h y
 rw [e2]
 conv=>rhs;rw [e1]
 simp [hc]
def layN (n:Node) (j:Nat) (x:Side) (k:Int):Node:=⟨⟨⟨n.DK.DI.ID,n.DK.DI.PH,n.DK.DI.SD.set j (layK k x)⟩,n.DK.TH,n.DK.Need⟩,n.Book,n.KN,n.Told,n.AK⟩
theorem OkN.lay {n:Node} (h:OkN n) {j:Nat} {x:Side} (hx:n.DK.DI.SD[j]?=some x) (k:Int):OkN (layN n j x k):=by
 refine h.sides (set_core hx (layK_core k x)) fun z hz=>?_
 rcases (Zzt h.rowS.up hx _).1 hz with rfl | ⟨hz,_⟩
 ·exact layK_dirty k x (h.dr.din.side x (List.mem_of_getElem? hx)).df
 ·exact (h.dr.din.side z hz).df
def askN (n:Node) (k:KE):Node:=⟨n.DK,n.Book,n.KN,n.Told,n.AK++[k]⟩
theorem OkN.ask {n:Node} (h:OkN n) {k:KE} (hm:mayB n k=true) (hd:Ztq (n.AK++[k])=true):OkN (askN n k):=
 {h with
  may:=fun q hq=>by
   have hq:q∈n.AK++[k]:=hq
   rcases List.mem_append.1 hq with hq | hq
   ·exact h.may q hq
   ·simp at hq;subst hq;exact (mayB_iff n _).1 hm
  dis:=by unfold Ztq at hd;rw [decide_eq_true_eq] at hd;exact hd}
def liveN (n:Node) (j:Nat) (x:Side):Node:=⟨⟨⟨n.DK.DI.ID,n.DK.DI.PH,n.DK.DI.SD.set j {x with State:=0}⟩,n.DK.TH,n.DK.Need⟩,n.Book,n.KN,(Zxo n.Told).filter fun z=>!decide (z∈ [x.Peer]),n.AK⟩
theorem OkN.live {n:Node} (h:OkN n) {j:Nat} {x:Side} (hx:n.DK.DI.SD[j]?=some x):OkN (liveN n j x):=by
 have h6:=List.mem_of_getElem? hx
 have hm:∀ {z:Side},z∈(liveN n j x).DK.DI.SD↔z={x with State:=0}∨z∈n.DK.DI.SD∧z.Peer≠x.Peer:=fun {z}=>Zzt (z:=z) h.rowS.up hx {x with State:=0}
 refine {h with
  dr:=h.dr.state hx (by omega)
  may:=fun k hk=>⟨fun z hz=>?_,(h.may k hk).2⟩
  sd:=fun z hz=>?_
  told:=(Z2p n.Told).1.filter _
  tin:=fun p hp=>?_
  nl:=fun z hz hn=>?_
  wt:=fun s hs h0 p hp=>?_}
 ·rcases hm.1 hz with rfl | ⟨hz,_⟩
  ·exact (h.may k hk).1 x h6
  ·exact (h.may k hk).1 z hz
 ·rcases hm.1 hz with rfl | ⟨hz,_⟩
  ·have:=h.sd x h6
   exact ⟨this.1,this.2.1,this.2.2.1,fun e=>by have e:(0:Int)=1∨(0:Int)=3:=e;omega⟩
  ·exact h.sd z hz
 ·obtain ⟨h1,h2⟩:=List.mem_filter.1 hp
  obtain ⟨z,hz,e1,e⟩:=h.tin p (((Z2p n.Told).2 p).1 h1)
  refine ⟨z,hm.2 (.inr ⟨hz,fun q=>?_⟩),e1,e⟩
  rw [DT (show p∈ [x.Peer] by rw [←e,q];simp)] at h2
  simp at h2
 ·rcases hm.1 hz with rfl | ⟨hz,_⟩
  ·show (0:Int)≠3;omega
  ·exact h.nl z hz hn
 ·obtain ⟨z,hz,e0,e⟩:=h.wt s hs h0 p hp
  by_cases q:z.Peer=x.Peer
  ·exact ⟨_,hm.2 (.inl rfl),rfl,by show x.Peer=p;omega⟩
  ·exact ⟨z,hm.2 (.inr ⟨hz,q⟩),e0,e⟩
def dropN (n:Node) (p:Int):Node:=⟨⟨⟨n.DK.DI.ID,n.DK.DI.PH,n.DK.DI.SD.filter fun x=>!decide (x.Peer=p)⟩,n.DK.TH,n.DK.Need⟩,n.Book,n.KN,n.Told,n.AK⟩
theorem OkN.drop {n:Node} (h:OkN n) {x:Side} (hx:x∈n.DK.DI.SD) (h3:x.State=3):OkN (dropN n x.Peer):=by
 have hm:∀ {z:Side},z∈(dropN n x.Peer).DK.DI.SD↔z∈n.DK.DI.SD∧z.Peer≠x.Peer:=fun {z}=>by
  show z∈n.DK.DI.SD.filter _↔_
  rw [List.mem_filter];simp
 have hne:∀ {z:Side},z∈n.DK.DI.SD→z.State≠3→z.Peer≠x.Peer:=fun hz hs q=>by
  have:=up_eq h.rowS.up hz hx q
  subst this;exact hs h3
 refine {h with
  dr:=⟨⟨h.dr.din.id0,h.dr.din.p0,h.dr.din.p2,Nat.lt_of_le_of_lt (List.length_filter_le _ _) h.dr.din.len,h.dr.din.up.filter _,fun z hz=>h.dr.din.side z (hm.1 hz).1⟩,h.dr.t0,h.dr.t2,h.dr.up,h.dr.nz,fun p hp=>?_⟩
  may:=fun k hk=>⟨fun z hz=>(h.may k hk).1 z (hm.1 hz).1,(h.may k hk).2⟩
  sd:=fun z hz=>h.sd z (hm.1 hz).1
  tin:=fun p hp=>?_
  nl:=fun z hz hn=>h.nl z (hm.1 hz).1 hn
  wt:=fun s hs h0 p hp=>?_}
 ·obtain ⟨z,hz,e⟩:=h.dr.has p hp
  exact ⟨z,hm.2 ⟨hz,hne hz (h.nl z hz (by rw [e];exact hp))⟩,e⟩
 ·obtain ⟨z,hz,e1,e⟩:=h.tin p hp
  exact ⟨z,hm.2 ⟨hz,hne hz (by omega)⟩,e1,e⟩
 ·obtain ⟨z,hz,e0,e⟩:=h.wt s hs h0 p hp
  exact ⟨z,hm.2 ⟨hz,hne hz (by omega)⟩,e0,e⟩
def Z9u (n:Node) (p:Int):Option (Nat×Side):=match Zst n.DK.DI.SD p with | none=>none | some j=>(n.DK.DI.SD[j]?).map fun x=>(j,x)
def isB (o:Option (Nat×Side)) (m:Msg) (s:Int):Bool:=match o with | none=>false | some (_,x)=>decide (x.Epoch=m.Epoch)&&decide (x.State=s)
def jO (o:Option (Nat×Side)):Nat:=match o with | none=>0 | some (j,_)=>j
def xO (o:Option (Nat×Side)):Side:=match o with | none=>side0 | some (_,x)=>x
def fitB (o:Option (Nat×Side)) (m:Msg):Bool:=match o with | none=>false | some (_,x)=>decide (x.Epoch=m.Epoch)
def k14 (m:Msg):Bool:=decide (m.Kind=1∨m.Kind=2∨m.Kind=3∨m.Kind=4)
def getN (n:Node) (p:Int) (m:Msg):Int×Node×List Event:=
 if m.Num≠0 then (187,n,[])
 else if k14 m=true then
  (if fitB (Z9u n p) m=true then (if Znq m.Kind (xO (Z9u n p))=true then (187,n,[]) else (0,layN n (jO (Z9u n p)) (xO (Z9u n p)) m.Kind,[])) else (0,n,[]))
 else if m.Kind=5 then (if mayB n ⟨p,m.Epoch⟩=true∧Ztq (n.AK++[⟨p,m.Epoch⟩])=true then (0,askN n ⟨p,m.Epoch⟩,[]) else (187,n,[]))
 else if m.Kind=6 then (if isB (Z9u n p) m 1=true∧p∈n.Told then (0,liveN n (jO (Z9u n p)) (xO (Z9u n p)),[⟨6,n.DK.DI.ID,0,p,[]⟩]) else (187,n,[]))
 else if m.Kind=7 then (if isB (Z9u n p) m 0=true∧p<n.DK.DI.ID then (0,Z0u n (jO (Z9u n p)) (xO (Z9u n p)),Z2u n p) else (187,n,[]))
 else if m.Kind=8 then (if isB (Z9u n p) m 3=true then (0,dropN n p,[⟨8,n.DK.DI.ID,0,p,[]⟩]) else (187,n,[]))
 else (187,n,[])
theorem Zau {n:Node} {p:Int} {j:Nat} {x:Side} (h:Z9u n p=some (j,x)):Zst n.DK.DI.SD p=some j∧n.DK.DI.SD[j]?=some x∧x.Peer=p:=by
 unfold Z9u at h
 cases hp:Zst n.DK.DI.SD p with
 | none=>rw [hp] at h;simp at h
 | some i=>
   obtain ⟨y,hy,e⟩:=Ztt hp
   rw [hp] at h
   dsimp only at h
   rw [hy] at h
   simp only [Option.map_some,Option.some.injEq,Prod.mk.injEq] at h
   obtain ⟨rfl,rfl⟩:=h
   exact ⟨rfl,hy,e⟩
theorem Zbu {n:Node} {p:Int} (h:Z9u n p=none):Zst n.DK.DI.SD p=none:=by
 unfold Z9u at h
 cases hp:Zst n.DK.DI.SD p with
 | none=>rfl
 | some i=>
   obtain ⟨y,hy,e⟩:=Ztt hp
   rw [hp] at h
   dsimp only at h
   rw [hy] at h
   simp at h
theorem Zcu {n:Node} {p s:Int} {m:Msg} (h:isB (Z9u n p) m s=true):∃j x,Z9u n p=some (j,x)∧x.Epoch=m.Epoch∧x.State=s∧n.DK.DI.SD[j]?=some x∧x.Peer=p∧Zst n.DK.DI.SD p=some j:=by
 cases hs:Z9u n p with
 | none=>rw [hs] at h;simp [isB] at h
 | some q=>
   obtain ⟨j,x⟩:=q
   rw [hs] at h
   unfold isB at h
   simp only [Bool.and_eq_true,decide_eq_true_eq] at h
   obtain ⟨h1,h2,h3⟩:=Zau hs
   exact ⟨j,x,rfl,h.1,h.2,h2,h3,h1⟩
theorem getN_ok {n:Node} {p:Int} {m:Msg} (h:OkN n) (he:(getN n p m).1=0):OkN (getN n p m).2.1∧(getN n p m).2.1.DK.DI.ID=n.DK.DI.ID∧(∀v∈(getN n p m).2.2,EvOK n.DK.DI.ID v∧v.Kind≠1)∧(getN n p m).2.2.length≤1000:=by
 revert he
 unfold getN
 split
 ·intro he;simp at he
 ·split
  ·split
   ·rename_i hs
    split
    ·intro he;simp at he
    ·intro _
     refine ⟨?_,rfl,by simp,by simp⟩
     cases hq:Z9u n p with
     | none=>rw [hq] at hs;simp [fitB] at hs
     | some q=>
       obtain ⟨j,x⟩:=q
       exact h.lay (Zau hq).2.1 _
   ·intro _;exact ⟨h,rfl,by simp,by simp⟩
  ·split
   ·split
    ·rename_i hc
     intro _;exact ⟨h.ask hc.1 hc.2,rfl,by simp,by simp⟩
    ·intro he;simp at he
   ·split
    ·split
     ·rename_i hc
      intro _
      obtain ⟨j,x,hq,_,_,hx,_,_⟩:=Zcu hc.1
      rw [hq]
      refine ⟨h.live hx,rfl,fun v hv=>?_,by simp⟩
      simp at hv;subst hv
      exact ⟨⟨rfl,fun _=>rfl,fun q=>by have q:(6:Int)<6:=q;omega,fun _=>rfl⟩,by show (6:Int)≠1;omega⟩
     ·intro he;simp at he
    ·split
     ·split
      ·rename_i hc
       intro _
       obtain ⟨j,x,hq,_,h0,hx,h6,_⟩:=Zcu hc.1
       rw [hq]
       have hg:=Zkt p n.Book.Sess
       have hb:=((Zcs _).1 h.bk).len
       have h8:(Z0u n j x).DK.DI.ID=n.DK.DI.ID:=by unfold Z0u;dsimp only;split<;>rfl
       refine ⟨h.shut hx h0,h8,fun v hv=>?_,by unfold Z2u Z1u;simp only [List.length_cons,List.length_map];omega⟩
       rcases List.mem_cons.1 hv with rfl | hv
       ·exact ⟨⟨rfl,fun _=>rfl,fun q=>by have q:(7:Int)<6:=q;omega,fun _=>rfl⟩,by show (7:Int)≠1;omega⟩
       ·obtain ⟨i,_,rfl⟩:=List.mem_map.1 hv
        exact ⟨⟨rfl,fun q=>by have q:(6:Int)≤5:=q;omega,fun _=>rfl,fun _=>rfl⟩,by show (5:Int)≠1;omega⟩
      ·intro he;simp at he
     ·split
      ·split
       ·rename_i hc
        intro _
        obtain ⟨j,x,hq,_,h3,hx,h6,_⟩:=Zcu hc
        have:=h.drop (List.mem_of_getElem? hx) h3
        rw [h6] at this
        refine ⟨this,rfl,fun v hv=>?_,by simp⟩
        simp at hv;subst hv
        exact ⟨⟨rfl,fun _=>rfl,fun q=>by have q:(8:Int)<6:=q;omega,fun _=>rfl⟩,by show (8:Int)≠1;omega⟩
       ·intro he;simp at he
      ·intro he;simp at he
theorem get_end (m:Node) (V:List Event) (e:Int) (K:List KE) (hK:K=m.KN) (h:e=0→OkN m) (hV:V.length≤100000):
  Zhl K (m.DK.DI.ID,m.DK.DI.PH,m.DK.TH,m.Book.Last,m.Book.Sess,m.Told,e,m.DK.DI.SD,m.DK.Need,m.AK,V)=some (Z5u e m V):=by
 subst hK
 dsimp only [Zhl]
 unfold Z5u
 by_cases he:e=0
 ·subst he
  rw [Zat m (h rfl) V hV,OB,if_pos rfl]
  rfl
 ·rw [Zbt _ _ _ _ e _ he,OB,if_neg he]
  rfl
theorem s_is (n:Node) (s:Int) (p:Int) (m:Msg) (x:node_node) (hx:x.Node.DK.DI.SD=n.DK.DI.SD):Z9a s (plc (Zst n.DK.DI.SD p)) x m=some (isB (Z9u n p) m s):=by
 simp only [Z9a,Z8a,hx]
 cases hq:Z9u n p with
 | none=>rw [Zbu hq];rfl
 | some q=>
   obtain ⟨j,y⟩:=q
   obtain ⟨h1,h2,h3⟩:=Zau hq
   rw [h1,show plc (some j)=(j:Int) from rfl,DT (show (0:Int)≤j by omega),Zvn,Zzn h2,OB,OB]
   unfold isB
   dsimp only
   cases decide (y.Epoch=m.Epoch)<;>rfl
theorem get_begin (n:Node) (p:Int) (m:Msg) (hf:FewN n):Zol n p m=Zml n p m n.DK.DI.SD n.DK.Need n.KN n.Told n.AK n.Book.Sess (decide (Znt (decide (m.Num=0)) 187 (if okN n then 0 else 180)=0),Znt (decide (m.Num=0)) 187 (if okN n then 0 else 180)) (plc (Zst n.DK.DI.SD p)) (k14 m):=by
 have hS:=hf.sides
 unfold Zol
 rw [s_own2 n hf,OB,Z0r n hf,OB]
 dsimp only [Znl]
 rw [Zot,OB,s_place _ _ (show _≤_ by dsimp only;omega),OB]
 unfold k14
 by_cases c1:m.Kind=1
 ·simp [c1,ifb]
 ·by_cases c2:m.Kind=2
  ·simp [c2,ifb]
  ·by_cases c3:m.Kind=3
   ·simp [c3,ifb]
   ·by_cases c4:m.Kind=4
    ·simp [c4,ifb]
    ·simp [c1,c2,c3,c4,ifb]
theorem get_bad (n:Node) (p:Int) (m:Msg) (hf:FewN n) (e:Int) (he:e≠0) (z:Bool):Zml n p m n.DK.DI.SD n.DK.Need n.KN n.Told n.AK n.Book.Sess (decide (e=0),e) (plc (Zst n.DK.DI.SD p)) z=some (Z4u,[],[],e):=by
 have hA:=hf.asked
 have hT:=hf.told
 have h6:Zhl n.KN (n.DK.DI.ID,n.DK.DI.PH,n.DK.TH,n.Book.Last,n.Book.Sess,n.Told,e,n.DK.DI.SD,n.DK.Need,n.AK,[])=some (Z4u,[],[],e):=by
  have:=get_end n [] e n.KN rfl (fun q=>absurd q he) (by simp)
  unfold Z5u at this
  rw [if_neg he] at this
  exact this
 have n2:∀(is:Bool) (c:Int),Z3c is c n.DK.DI.ID n.DK.DI.PH n.DK.TH n.Book.Last e n.DK.DI.SD n.DK.Need n.Book.Sess n.KN n.Told n.AK=some (false,e):=fun is c=>by rw [Zot,Zpt is he,DN he]
 have n3:∀c,Z7c c n.DK.DI.ID n.DK.DI.PH n.DK.TH n.Book.Last e n.DK.DI.SD n.DK.Need n.Book.Sess n.KN n.Told n.AK=some (false,e):=fun c=>by rw [s_need3,Zpt _ he,DN he]
 dsimp only [Zml]
 cases z with
 | true=>
   rw [Zvn,DN he,Zwn]
   dsimp only [Zil]
   rw [Zwn]
   exact h6
 | false=>
   rw [Zwn]
   cases decide (m.Kind=5) with
   | true=>
     rw [Zvn,s_may n hf,OB,Zys _ (by omega),OB,Z0o _ _ (by omega) (by simp;omega),OB,Zuq _ (by simp;omega),OB,n2,n3,OB]
     dsimp only [Zjl]
     rw [Zwn,h6]
     cases mayB n ⟨p,m.Epoch⟩<;>rfl
   | false=>
     rw [Zwn]
     cases decide (m.Kind=6) with
     | true=>
       rw [Zvn,s_is n 1 p m _ rfl,OB,Z0p _ _ (by omega),OB,n2,n3,OB]
       dsimp only [Zkl]
       rw [Zwn,h6]
       cases isB (Z9u n p) m 1<;>rfl
     | false=>
       rw [Zwn]
       cases decide (m.Kind=7) with
       | true=>
         rw [Zvn,s_is n 0 p m _ rfl,OB,n2,n3,OB]
         dsimp only [Zll]
         rw [Zwn,h6]
         cases isB (Z9u n p) m 0<;>rfl
       | false=>
         rw [Zwn]
         cases decide (m.Kind=8) with
         | true=>
           rw [Zvn,s_is n 3 p m _ rfl,OB,n2,OB]
           exact h6
         | false=>
           rw [Zwn,n3,OB]
           exact h6
theorem s_Get2 (n:Node) (p:Int) (m:Msg) (h:OkN n):Zol n p m=some (Z5u (getN n p m).1 (getN n p m).2.1 (getN n p m).2.2):=by
 have hf:=h.few
 have hA:=hf.asked
 have hT:=hf.told
 have hS:=hf.sides
 have hN:=hf.need
 rw [get_begin n p m hf,(Zbs n).2 h,if_pos rfl]
 have hok:=fun he=>getN_ok (p:=p) (m:=m) h he
 by_cases hn:m.Num=0
 ·have eG:getN n p m=_:=rfl
  have h6:∀(r:Node) (V:List Event) (e:Int),n.KN=r.KN→r.DK.DI.ID=r.DK.DI.ID→(e=0→OkN r)→V.length≤100000→Zhl n.KN (r.DK.DI.ID,r.DK.DI.PH,r.DK.TH,r.Book.Last,r.Book.Sess,r.Told,e,r.DK.DI.SD,r.DK.Need,r.AK,V)=some (Z5u e r V):=fun r V e hK _ h1 hV=>get_end r V e n.KN hK h1 hV
  have bad:∀e:Int,e≠0→Zhl n.KN (n.DK.DI.ID,n.DK.DI.PH,n.DK.TH,n.Book.Last,n.Book.Sess,n.Told,e,n.DK.DI.SD,n.DK.Need,n.AK,[])=some (Z5u e n []):=fun e he=>h6 n [] e rfl rfl (fun q=>absurd q he) (by simp)
  have n2:∀(is:Bool) (c:Int),Z3c is c n.DK.DI.ID n.DK.DI.PH n.DK.TH n.Book.Last 0 n.DK.DI.SD n.DK.Need n.Book.Sess n.KN n.Told n.AK=some (decide (Znt is c 0=0),Znt is c 0):=fun is c=>Zot _ _ _ _ _ _ _ _ _ _ _ _ _
  have n3:∀c,Z7c c n.DK.DI.ID n.DK.DI.PH n.DK.TH n.Book.Last 0 n.DK.DI.SD n.DK.Need n.Book.Sess n.KN n.Told n.AK=some (decide (c=0),c):=fun c=>s_need3 _ _ _ _ _ _ _ _ _ _ _ _
  rw [DT hn,Zqt,DT rfl]
  unfold getN at hok ⊢
  rw [if_neg fun q=>q hn] at hok ⊢
  dsimp only [Zml]
  cases hk:k14 m with
  | true=>
    rw [Zvn,DT rfl,Zvn,if_pos rfl]
    rw [hk,if_pos rfl] at hok
    have j4f:Zil n p m n.DK.DI.SD n.DK.Need n.KN n.Told n.AK n.Book.Sess (true,0) false=some (Z5u 0 n []):=by
     dsimp only [Zil]
     rw [Zwn]
     exact h6 n [] 0 rfl rfl (fun _=>h) (by simp)
    cases hq:Z9u n p with
    | none=>
      rw [Zbu hq,show plc none = -1 from rfl,DN (show ¬(0:Int)≤ -1 by omega),Zwn,if_neg (by simp [fitB])]
      exact j4f
    | some q=>
      obtain ⟨j,x⟩:=q
      obtain ⟨h1,h2,h3⟩:=Zau hq
      rw [h1,show plc (some j)=(j:Int) from rfl,DT (show (0:Int)≤j by omega),Zvn,Zzn h2,OB]
      have ex:xO (some (j,x))=x:=rfl
      have ej:jO (some (j,x))=j:=rfl
      rw [ex,ej]
      rw [hq,ex,ej] at hok
      by_cases h8:x.Epoch=m.Epoch
      ·rw [DT h8,if_pos (show fitB (some (j,x)) m=true from DT h8)]
       rw [if_pos (show fitB (some (j,x)) m=true from DT h8)] at hok
       have hw:n.DK.DI.SD.findIdx? (fun x=>decide (x.Peer=p)&&decide (x.Epoch=m.Epoch))=some j:=by
        obtain ⟨g1,g2,g3⟩:=List.findIdx?_eq_some_iff_getElem.1 h1
        obtain ⟨_,hB⟩:=List.getElem?_eq_some_iff.1 h2
        rw [List.findIdx?_eq_some_iff_getElem]
        refine ⟨g1,?_,fun i hi=>?_⟩
        ·rw [hB,DT h3,DT h8];rfl
        ·have:=g3 i hi
         simp only [decide_eq_true_eq] at this
         rw [DN this];simp
       have hC:1≤m.Kind∧m.Kind≤4:=by
        unfold k14 at hk;rw [decide_eq_true_eq] at hk;omega
       have hg:=s_drGet n.DK p m ((Z9s _).2 h.dr) (by omega) hw h2 hn hC
       dsimp only [Zil,Zpk]
       rw [Zvn,hg,OB]
       dsimp only [Zok,Znk]
       by_cases hl:Znq m.Kind x=true
       ·simp only [if_pos hl]
        rw [n2,OB]
        exact bad 187 (by omega)
       ·rw [if_neg hl] at hok
        simp only [if_neg hl]
        rw [n2,OB]
        exact h6 (layN n j x m.Kind) [] 0 rfl rfl (fun _=>(hok rfl).1) (by simp)
      ·rw [DN h8,if_neg (show ¬fitB (some (j,x)) m=true from fun q=>h8 (of_decide_eq_true q))]
       exact j4f
  | false=>
    rw [Zwn,if_neg (by simp)]
    rw [hk,if_neg (by simp)] at hok
    by_cases k5:m.Kind=5
    ·rw [DT k5,Zvn,if_pos k5,s_may n hf,OB]
     rw [if_pos k5] at hok
     have j5f:Zjl n p m n.DK.DI.SD n.DK.Need n.KN n.Told n.AK n.Book.Sess (false,187)=some (Z5u 187 n []):=by
      dsimp only [Zjl]
      rw [Zwn]
      exact bad 187 (by omega)
     cases hm:mayB n ⟨p,m.Epoch⟩ with
     | false=>
       rw [Zwn,n3,OB,if_neg (by simp),DN (show ¬(187:Int)=0 by omega)]
       exact j5f
     | true=>
       rw [Zvn,Zys _ (by omega),OB,Z0o _ _ (by omega) (by simp;omega),OB,Zuq _ (by simp;omega),OB,n2,OB]
       cases hd:Ztq (n.AK++[⟨p,m.Epoch⟩]) with
       | false=>
         rw [Zrt,DN (show ¬(187:Int)=0 by omega),if_neg (by simp)]
         exact j5f
       | true=>
         rw [Zqt,DT rfl,if_pos ⟨rfl,rfl⟩]
         dsimp only [Zjl]
         rw [Zvn,Z0o _ _ (by omega) (by simp;omega),OB]
         exact h6 (askN n ⟨p,m.Epoch⟩) [] 0 rfl rfl (fun _=>h.ask hm hd) (by simp)
    ·rw [DN k5,Zwn,if_neg k5]
     rw [if_neg k5] at hok
     by_cases k6:m.Kind=6
     ·rw [DT k6,Zvn,if_pos k6,s_is n 1 p m _ rfl,OB]
      have j6f:Zkl n p n.DK.DI.SD n.DK.Need n.KN n.Told n.AK n.Book.Sess (plc (Zst n.DK.DI.SD p)) (false,187)=some (Z5u 187 n []):=by
       dsimp only [Zkl]
       rw [Zwn]
       exact bad 187 (by omega)
      cases hi:isB (Z9u n p) m 1 with
      | false=>
        rw [Zwn,n3,OB,if_neg (by simp),DN (show ¬(187:Int)=0 by omega)]
        exact j6f
      | true=>
        rw [Zvn,Z0p _ _ (by omega),OB,n2,OB]
        by_cases ht:p∈n.Told
        ·obtain ⟨j,x,hq,_,_,hx,hc,ho⟩:=Zcu hi
         rw [DT ht,Zqt,DT rfl,if_pos ⟨rfl,ht⟩,hq,ho]
         dsimp only [Zkl,xO,jO]
         rw [Zvn,show plc (some j)=(j:Int) from rfl,Zzn hx,OB,s_Del _ _ (by omega),OB,Int.toNat_natCast]
         have h9:∀(S:List Side) (T:List Int) (e:Int),Z1d 6 p n.DK.DI.ID n.DK.DI.PH n.DK.TH n.Book.Last T e S n.DK.Need n.Book.Sess n.KN n.AK=some [⟨6,n.DK.DI.ID,0,p,[]⟩]:=fun S T e=>by
          simp only [Z1d]
          rw [Z0o _ _ (by omega) (by simp),OB];rfl
         rw [h9,OB]
         have:=h6 (liveN n j x) [⟨6,n.DK.DI.ID,0,p,[]⟩] 0 rfl rfl (fun _=>h.live hx) (by simp)
         subst hc
         exact this
        ·rw [DN ht,Zrt,DN (show ¬(187:Int)=0 by omega),if_neg fun q=>ht q.2]
         exact j6f
     ·rw [DN k6,Zwn,if_neg k6]
      rw [if_neg k6] at hok
      by_cases k7:m.Kind=7
      ·rw [DT k7,Zvn,if_pos k7,s_is n 0 p m _ rfl,OB]
       have j7f:Zll n p n.DK.DI.SD n.DK.Need n.KN n.Told n.AK n.Book.Sess (false,187)=some (Z5u 187 n []):=by
        dsimp only [Zll]
        rw [Zwn]
        exact bad 187 (by omega)
       cases hi:isB (Z9u n p) m 0 with
       | false=>
         rw [Zwn,n3,OB,if_neg (by simp),DN (show ¬(187:Int)=0 by omega)]
         exact j7f
       | true=>
         rw [Zvn,n2,OB]
         by_cases hp:p<n.DK.DI.ID
         ·obtain ⟨j,x,hq,_,h0,hx,hc,ho⟩:=Zcu hi
          have hg:=Zkt p n.Book.Sess
          have hb:=((Zcs _).1 h.bk).len
          rw [DT hp,Zqt,DT rfl,if_pos ⟨rfl,hp⟩,hq]
          dsimp only [Zll,xO,jO]
          rw [Zvn,s_shut n h p j x ho hx hc 0,OB]
          exact h6 (Z0u n j x) (Z2u n p) 0 rfl rfl (fun _=>h.shut hx h0) (by unfold Z2u Z1u;simp only [List.length_cons,List.length_map];omega)
         ·rw [DN hp,Zrt,DN (show ¬(187:Int)=0 by omega),if_neg fun q=>hp q.2]
          exact j7f
      ·rw [DN k7,Zwn,if_neg k7]
       rw [if_neg k7] at hok
       by_cases k8:m.Kind=8
       ·rw [DT k8,Zvn,if_pos k8,s_is n 3 p m _ rfl,OB,n2,OB]
        cases hi:isB (Z9u n p) m 3 with
        | false=>
          rw [Zrt]
          dsimp only
          rw [DN (show ¬(187:Int)=0 by omega),Zwn,if_neg (by simp)]
          exact bad 187 (by omega)
        | true=>
          obtain ⟨j,x,hq,_,h3,hx,hc,ho⟩:=Zcu hi
          rw [Zqt]
          dsimp only
          rw [DT rfl,Zvn,if_pos rfl]
          have hD:Z8g p n.DK.DI.ID n.DK.DI.PH n.DK.TH n.Book.Last 0 n.DK.DI.SD n.DK.Need n.Book.Sess n.KN n.Told n.AK=some (n.DK.DI.SD.filter fun x=>!decide (x.Peer=p)):=by
           simp only [Z8g,Zdr n.DK.DI.SD (fun z=>Zn9 z p) (fun x=>decide (x.Peer=p)) (by omega) (fun _ _=>rfl),OB]
          have h9:∀(S:List Side),Zbc 8 p n.DK.DI.ID n.DK.DI.PH n.DK.TH n.Book.Last 0 S n.DK.Need n.Book.Sess n.KN n.Told n.AK=some [⟨8,n.DK.DI.ID,0,p,[]⟩]:=fun S=>by
           simp only [Zbc]
           rw [Z0o _ _ (by omega) (by simp),OB];rfl
          rw [hD,OB,h9,OB]
          have:=h.drop (List.mem_of_getElem? hx) h3
          rw [hc] at this
          exact h6 (dropN n p) [⟨8,n.DK.DI.ID,0,p,[]⟩] 0 rfl rfl (fun _=>this) (by simp)
       ·rw [DN k8,Zwn,if_neg k8,n3,OB]
        exact bad 187 (by omega)
 ·rw [DN hn,Zrt]
  have:=get_bad n p m hf 187 (by omega) (k14 m)
  rw [this]
  unfold getN
  rw [if_pos hn]
  rfl
theorem Zdu (n:Node) (h:FewN n):Z8f n=some n:=by
 have h1:=h.sides
 have h2:=h.need
 have h3:=h.told
 have h4:=h.known
 have h5:=h.asked
 have h6:=h.book
 have hb:Zfa n.Book=some n.Book:=by
  unfold Zfa
  refine Zco n.Book.Sess _ (fun pre=>((pre.length:Int),pre)) _ (fun pre x post h0=>?_) ?_
  ·have hx:=Zdo h0
   have hm:=Zeo h0
   have hN:=h.needs x (Zfo h0)
   dsimp only [Zea]
   rw [Z1o hx,Zvn,Zzn hx,OB,Z0o _ _ (by omega) (by simp;omega),OB,List.nil_append,Z0o _ _ (by omega) (by simp;omega),OB,Z3o (by omega),Zio]
  ·dsimp only [Zea,Zda]
   rw [Z2o,Zwn];rfl
 simp only [Z8f,Z3d,Zba,hb]
 rw [Z0o _ _ (by omega) (by simp;omega),OB,Z0o _ _ (by omega) (by simp;omega),OB,OB,OB,Z0o _ _ (by omega) (by simp;omega),OB,Z0o _ _ (by omega) (by simp;omega),OB,Z0o _ _ (by omega) (by simp;omega),OB]
 rfl
def fewB17 (b:Book):Bool:=decide (b.Sess.length≤12)&&b.Sess.all fun s=>decide (s.Need.length≤70)
theorem s_Few17 (b:Book):∃z,Zka b=some z∧(z=true→fewB17 b=true):=by
 unfold Zka
 have key:∀(post pre:List Sess),b.Sess=pre++post→(∀s∈pre,s.Need.length≤70)→∃z,loop (Zja b) (pre.length:Int)=some z∧(z=true→fewB17 b=true):=by
  intro post
  induction post with
  | nil=>
    intro pre h hp
    have h:pre=b.Sess:=by simpa using h.symm
    rw [loop_eq]
    dsimp only [Zja,Zia,Zha]
    rw [h,Z2o,Zwn,Zwn]
    refine ⟨_,rfl,fun hz=>?_⟩
    rw [decide_eq_true_eq] at hz
    unfold fewB17
    rw [Bool.and_eq_true,decide_eq_true_eq,List.all_eq_true]
    rw [ln_eq] at hz
    exact ⟨by omega,fun s hs=>DT (hp s (by rw [h];exact hs))⟩
  | cons x post ih=>
    intro pre h hp
    have hx:=Zdo h
    have hm:=Zeo h
    rw [loop_eq]
    dsimp only [Zja,Zia]
    rw [Z1o hx,Zvn]
    by_cases h6:(pre.length:Int)<13
    ·rw [DT h6,Zvn,Zzn hx,OB,ln_eq]
     by_cases h8:(70:Int)<x.Need.length
     ·rw [DT h8,Zvn]
      exact ⟨false,rfl,by simp⟩
     ·rw [DN h8,Zwn,Z3o (by omega)]
      have:=ih (pre++[x]) (by simpa using h) fun s hs=>by
       rcases List.mem_append.1 hs with hs | hs
       ·exact hp s hs
       ·simp at hs;subst hs;omega
      rw [Zio] at this
      exact this
    ·rw [DN h6,Zwn]
     refine ⟨_,rfl,fun hz=>?_⟩
     rw [decide_eq_true_eq,ln_eq] at hz
     omega
 exact key b.Sess [] rfl (by simp)
theorem Zeu (n:Node):∃z,Z6d n=some z∧(z=true→FewN n):=by
 obtain ⟨z,hz,hf⟩:=s_Few17 n.Book
 simp only [Z6d,Z5d,hz,OB,ln_eq]
 by_cases h1:(n.DK.DI.SD.length:Int)≤70
 ·by_cases h2:(n.DK.Need.length:Int)≤70
  ·by_cases h3:(n.KN.length:Int)≤70
   ·by_cases h4:(n.Told.length:Int)≤70
    ·by_cases h5:(n.AK.length:Int)≤70
     ·rw [DT h1,DT h2,DT h3,DT h4,DT h5]
      refine ⟨z,rfl,fun e=>?_⟩
      have:=hf e
      unfold fewB17 at this
      rw [Bool.and_eq_true,decide_eq_true_eq,List.all_eq_true] at this
      exact ⟨by omega,by omega,by omega,fun s hs=>by have:=of_decide_eq_true (this.2 s hs);omega,by omega,by omega,by omega⟩
     ·exact ⟨false,by rw [DT h1,DT h2,DT h3,DT h4,DN h5];rfl,by simp⟩
    ·exact ⟨false,by rw [DT h1,DT h2,DT h3,DN h4];rfl,by simp⟩
   ·exact ⟨false,by rw [DT h1,DT h2,DN h3];rfl,by simp⟩
  ·exact ⟨false,by rw [DT h1,DN h2];rfl,by simp⟩
 ·exact ⟨false,by rw [DN h1];rfl,by simp⟩
theorem s_r17Find (b:Book) (id:Int) (hb:b.Sess.length≤1000000):Z0n b id=some (plc (Zep b id)):=by
 unfold Z0n
 refine Z8o b.Sess _ (fun s=>decide (s.ID=id)) (by omega) (fun k x hx=>?_) ?_
 ·simp only [Zzm,Z1o hx,Zvn,Zzn hx,OB,Z4o hx (show b.Sess.length≤4000000000000000000 by omega)]
  cases decide (x.ID=id)<;>rfl
 ·simp only [Zzm,Z2o,Zwn,Zym,Option.map_some]
theorem setL_nil:Zxo []=[]:=setL_pw .nil
theorem setL_one (p:Int):Zxo [p]=[p]:=setL_pw (by simp)
def nO:Node:=⟨⟨⟨1,0,[]⟩,0,[]⟩,⟨0,[]⟩,[],[],[]⟩
def mA:Node:=⟨⟨⟨1,0,[]⟩,0,[]⟩,⟨4,[⟨4,[],0,0⟩]⟩,[],[],[]⟩
def nA:Node:=⟨⟨⟨1,0,[]⟩,2,[]⟩,⟨4,[⟨4,[],1,0⟩]⟩,[],[],[]⟩
def xB:Side:=⟨2,1,1,true,true,false,true,false⟩
def mB:Node:=⟨⟨⟨1,0,[xB]⟩,2,[]⟩,⟨4,[⟨4,[],1,0⟩]⟩,[⟨2,1⟩],[],[]⟩
def nB0:Node:=⟨⟨⟨1,2,[xB]⟩,2,[]⟩,⟨4,[⟨4,[],1,0⟩]⟩,[⟨2,1⟩],[],[]⟩
def nB:Node:=⟨⟨⟨1,2,[xB]⟩,2,[]⟩,⟨4,[⟨4,[],1,0⟩]⟩,[⟨2,1⟩],[2],[]⟩
def xC:Side:=⟨2,1,0,true,true,false,true,false⟩
def mC:Node:=⟨⟨⟨1,2,[xC]⟩,2,[]⟩,⟨4,[⟨4,[],1,0⟩]⟩,[⟨2,1⟩],[],[]⟩
def nC:Node:=⟨⟨⟨1,0,[xC]⟩,2,[]⟩,⟨4,[⟨4,[],1,0⟩]⟩,[⟨2,1⟩],[],[]⟩
theorem okNO:OkN nO:=(Zbs _).1 (by decide)
theorem okNA:OkN nA:=(Zbs _).1 (by decide)
theorem okNB:OkN nB:=(Zbs _).1 (by decide)
theorem okNC:OkN nC:=(Zbs _).1 (by decide)
theorem restA:Z6t mA [] [⟨0,1,4,0,[]⟩]=(nA,[],[⟨0,1,4,0,[]⟩,⟨1,1,4,0,[]⟩]):=by decide
theorem restC:Z6t mC [] [⟨6,1,0,2,[]⟩]=(nC,[],[⟨6,1,0,2,[]⟩]):=by decide
theorem onceB:Z0s mB=nB∧Z1s mB=[⟨1,2,⟨5,1,0⟩⟩]∧Z2s mB=[]:=by
 have e1:Zzr mB=nB0:=by decide
 have e2:Zur nB0=nB0:=by decide
 have e3:Zvr nB0=([2],[⟨1,2,⟨5,1,0⟩⟩]):=by
  unfold Zvr
  rw [if_pos (show nB0.DK.DI.PH=2 from rfl)]
  show Zcr 1 [xB] [] []=_
  unfold Zcr
  rw [show Zbr [] xB=true by decide,if_pos rfl]
  show Zcr 1 [] (Zxo [2]) _=_
  rw [setL_one];rfl
 have e4:Zwr nB0=nB:=by unfold Zwr;rw [e3];rfl
 have e5:leaN nB=nB:=by decide
 have e6:Zxr nB=[]:=by decide
 have e7:(Zfq (Zyr mB).DK).2=[]:=by decide
 have e8:ansNM mB=[]:=by decide
 have e9:Z2s mB=[]:=by decide
 unfold Z0s Z1s
 rw [e1,e2,e4,e3,e5,e6,e7,e8]
 exact ⟨rfl,rfl,e9⟩
theorem restB:Z6t mB [] []=(nB,[⟨1,2,⟨5,1,0⟩⟩],[]):=by
 obtain ⟨e1,e2,e3⟩:=onceB
 have h:Z0s nB=nB:=by decide
 unfold Z6t
 rw [Z5t,e1,e2,e3,if_neg (by decide),Z5t,h,if_pos rfl]
 rfl
theorem Zhu:Zql=some true:=by
 have e1:Z6l ⟨⟨1,0,[]⟩,0,[]⟩=some (nO,0):=by
  unfold Z6l
  rw [loop_eq]
  dsimp only [Z5l]
  have hc:Zlk ⟨⟨⟨1,0,[]⟩,0,[]⟩,⟨0,[]⟩,[],[],[]⟩=some 0:=by
   have:=Z0r nO okNO.few
   rw [(Zbs nO).2 okNO,if_pos rfl] at this
   exact this
  have ho:Zef 1 0 [] 0 [] 0 []=some ([],[],[],[],[],[]):=by
   dsimp only [Zef,Zdf,Zcf]
   rw [Zop _ (by simp),OB,Zbp _ (by simp),OB,Zys _ (by simp),OB,OB,OB,Zcp _ (by simp),OB,loop_eq]
   rfl
  have hj:Z4l ⟨⟨1,0,[]⟩,0,[]⟩ []=some (nO,0):=by
   dsimp only [Z4l]
   rw [hc,OB,ho];rfl
  rw [hj];rfl
 have a2:Z6u nO ⟨0,4,0,0,[]⟩=(0,mA,[⟨0,1,4,0,[]⟩]):=by
  unfold Z6u Zxt openP
  rw [setL_nil]
  decide
 have e2:Zfl nO ⟨0,4,0,0,[]⟩=some (nA,[],[⟨0,1,4,0,[]⟩,⟨1,1,4,0,[]⟩],0):=by
  rw [s_Act nO _ okNO (by simp),a2]
  unfold Z5u
  rw [if_pos rfl,restA]
 have a3:Z6u nA ⟨4,0,2,0,[]⟩=(0,mB,[]):=by decide
 have e3:Zfl nA ⟨4,0,2,0,[]⟩=some (nB,[⟨1,2,⟨5,1,0⟩⟩],[],0):=by
  rw [s_Act nA _ okNA (by simp),a3]
  unfold Z5u
  rw [if_pos rfl,restB]
 have a4:getN nB 2 ⟨6,1,0⟩=(0,mC,[⟨6,1,0,2,[]⟩]):=by
  unfold getN liveN
  rw [show nB.Told=[2] from rfl,setL_one]
  decide
 have e4:Zol nB 2 ⟨6,1,0⟩=some (nC,[],[⟨6,1,0,2,[]⟩],0):=by
  rw [s_Get2 nB _ _ okNB,a4]
  unfold Z5u
  rw [if_pos rfl,restC]
 have a5:(Z6u nC ⟨4,0,2,0,[]⟩).1=183:=by decide
 have e5:∃x y z,Zfl nC ⟨4,0,2,0,[]⟩=some (x,y,z,183):=by
  rw [s_Act nC _ okNC (by simp),a5]
  exact ⟨_,_,_,rfl⟩
 obtain ⟨x,y,z,e5⟩:=e5
 have e6:Zkb nC=some [2]:=by rw [s_Live nC okNC.few];decide
 have e7:Zlk nC=some 0:=by rw [Z0r nC okNC.few,(Zbs nC).2 okNC];rfl
 have e8:Zzf nC nC=some true:=by rw [s_nSame nC nC okNC.few,DT rfl]
 have e9:Zzf nC nB=some false:=by rw [s_nSame nC nB okNC.few];decide
 have e10:Zv7 [2] [2]=some true:=by rw [Zyo _ _ (by simp),DT rfl]
 have e11:Zff [⟨0,1,4,0,[]⟩,⟨1,1,4,0,[]⟩] [⟨6,1,0,2,[]⟩]=some false:=rfl
 unfold Zql
 rw [e1,OB,e2,OB,e3,OB,e4,OB,e5,OB]
 dsimp only
 rw [e6,OB,e10,OB,e7,OB,e8,OB,e9,OB,e11,OB]
 rfl
theorem once_id (n:Node):(Z0s n).DK.DI.ID=n.DK.DI.ID:=(Zis (Zyr n).DK).id.trans (pre_id n)
theorem Ziu:∀(k:Nat) (n:Node) (E:List Mail) (V:List Event),OkN n→(Z5t k n E V).2.1.length≤E.length+500*k∧(Z5t k n E V).2.2.length≤V.length+500*k
 | 0,_,_,_,_=>by unfold Z5t;exact ⟨by dsimp only;omega,by dsimp only;omega⟩
 | k+1,n,E,V,h=>by
   unfold Z5t
   split
   ·exact ⟨by dsimp only;omega,by dsimp only;omega⟩
   ·have:=Ziu k (Z0s n) (E++Z1s n) (V++Z2s n) h.once
    have l1:=Z7t h
    have l2:=Z8t h
    rw [List.length_append,List.length_append] at this
    omega
theorem Zju {n:Node} (h:OkN n) (E:List Mail) (V:List Event):(Z6t n E V).2.1.length≤E.length+4500∧(Z6t n E V).2.2.length≤V.length+4500:=Ziu 9 n E V h
theorem Zku {n:Node} {v:Event} (h:v∈Z2s n):(∃k∈n.AK,v=⟨6,n.DK.DI.ID,0,k.Peer,[]⟩)∨v∈graV (Zzr n):=by
 unfold Z2s at h
 rcases List.mem_append.1 h with h | h
 ·left
  unfold ansNV at h
  split at h
  ·simp at h
  ·unfold ansV at h
   obtain ⟨k,hk,rfl⟩:=List.mem_map.1 h
   exact ⟨k,hk,rfl⟩
 ·exact .inr h
structure Good (n m:Node) (V:List Event):Prop where
 okn:OkN n
 ok:OkN m
 id:m.DK.DI.ID=n.DK.DI.ID
 ev:∀v∈V,EvOK n.DK.DI.ID v∧v.Kind≠1
 len:V.length≤1000
theorem Znu (e:Int) (m:Node) (V:List Event):(Z5u e m V).2.2.2=e:=by unfold Z5u;split<;>simp_all
theorem Zou (m:Node) (V:List Event):Z5u 0 m V=((Z6t m [] V).1,(Z6t m [] V).2.1,(Z6t m [] V).2.2,0):=rfl
theorem Zqu {n:Node} (hu:n.DK.DI.SD.Pairwise fun x y=>x.Peer<y.Peer) {x:Side} (hx:x∈n.DK.DI.SD):Zgp n.DK.DI x.Peer=some x:=by
 cases h:Zgp n.DK.DI x.Peer with
 | none=>
   unfold Zgp at h
   rw [List.find?_eq_none] at h
   have:=h x hx
   simp at this
 | some y=>
   obtain ⟨h1,h2⟩:=sideO_some h
   rw [up_eq hu h1 hx h2]
@[go_sem] def e5:EC:=(by have h:=hF Tryz.f5;(conv at h=>rhs;reduce);dsimp only[go_sem] at h;exact ⟨_,h⟩:DP Tryz.f5).1
theorem ok5:FnOK Tryz.prog 5 Tryz.f5 e5 [.t 4] 2 130:=okA
def Zow:Bool→Option Bool
| x56=>
 some x56
def Zpw (x2:Int) (x8:(Node×List Mail×List Event×Int)):Unit→Option Bool
| ()=>
 (Z2m x8.1.DK.DI x2).bind fun x51=>
 ifb x51.2 (
 (Zkb x8.1).bind fun x52=>
 (Ztl x52 x2).bind fun x53=>
 ifb (!x53) (
 ifb (decide (0<(ln Event.row x8.2.2.1))) (
 (at_ x8.2.2.1 0).bind fun x54=>
 ifb (decide (x54.Kind=7)) (
 (at_ x8.2.2.1 0).bind fun x55=>
 Zow (decide (x55.Peer=x2))) (
 Zow false)) (
 Zow false)) (
 Zow false)) (
 Zow false)
def Zqw (x37:Int):Bool→Option (Int ⊕ Bool)
| x43=>
 ifb x43 (
 Option.map Sum.inr (some false)) (
 some (.inl (wr (x37+1))))
def Zrw (x8:(Node×List Mail×List Event×Int)) (x29:List Int) (x37:Int) (x38:Sess):Bool→Option (Int ⊕ Bool)
| x40=>
 (Ztl x29 x38.ID).bind fun x41=>
 ifb (!(x40==x41)) (
 (Zqw x37) true) (
 (Z0n x8.1.Book x38.ID).bind fun x42=>
 (Zqw x37) (x40==(decide (0≤x42))))
def Zsw (x1:Node) (x2:Int) (x8:(Node×List Mail×List Event×Int)) (x29:List Int):Int→Option (Int ⊕ Bool)
| x37=>
 ifb (decide (x37<(ln Sess.row x1.Book.Sess))) (
 (at_ x1.Book.Sess x37).bind fun x38=>
 ifb (decide (x38.State=0)) (
 (Ztl x38.Need x2).bind fun x39=>
 (Zrw x8 x29 x37 x38) x39) (
 (Zrw x8 x29 x37 x38) false)) (
 Option.map Sum.inr ((Zpw x2 x8) ()))
def Ztw (x1:Node) (x2:Int) (x8:(Node×List Mail×List Event×Int)):List Int→Option Bool
| x29=>
 loop (Zsw x1 x2 x8 x29) 0
def Zuw (x15:Int):List Int→Option ((Int×List Int) ⊕ Bool)
| x20=>
 some (.inl (wr (x15+1),x20))
def Zvw (x1:Node) (x2:Int) (x8:(Node×List Mail×List Event×Int)):(Int×List Int)→Option ((Int×List Int) ⊕ Bool)
| (x15,x16)=>
 ifb (decide (x15<(ln Event.row x8.2.2.1))) (
 (at_ x8.2.2.1 x15).bind fun x17=>
 ifb (decide (x17.Kind=5)) (
 (at_ x8.2.2.1 x15).bind fun x18=>
 (Zj4 8 x16 ([x18.ID])).bind fun x19=>
 (Zuw x15) x19) (
 (Zuw x15) x16)) (
 Option.map Sum.inr ((Ztw x1 x2 x8) x16))
def Zww (x1:Node) (x2:Int):Bool→Option Bool
| x5=>
 ifb x5 (
 (Zql).bind fun x6=>
 some x6) (
 (Z8f x1).bind fun x7=>
 (Zfl x7 (Do.mk 5 0 x2 0 (([]:List Int)))).bind fun x8=>
 ifb (!decide (x8.2.2.2=0)) (
 some true) (
 loop (Zvw x1 x2 x8) (0,([]:List Int))))
def Zxw (x1:Node) (x2:Int):Option Bool:=
 (Zql).bind fun x3=>
 ifb (!x3) (
 (Zww x1 x2) true) (
 (Z6d x1).bind fun x4=>
 (Zww x1 x2) (!x4))
theorem Zyw (x1:Node) (x2:Int) (r:Bool) (h:Zxw x1 x2=some r):Z03 Tryz.prog 5 [.agg (Node.row x1),.iv x2] (.bv r):=by
 refine FP ok5 fun w0 H0=>?_
 rw [Zxw] at h
 refine Zv2 8 ?_;dsimp only[go_sem];refine An ?_;have ⟨x3,ex3,h⟩:=Bs h;refine VC (k_narthexlaw18_awake _ ex3) (Zv2 2 ?_);dsimp only[go_sem];refine An ?_
 refine Zo4 (fun (x5:Bool)=>(⟨(.any :: .iv x2 :: .ptr 0 0::an 19 (.bv x5::an 109 [])),[some ⟨35,Node.row x1⟩],[]⟩:St)) (Zww x1 x2) r ?_ fun J1=>?_
 ·intro x5 h;rw [Zww] at h;(try dsimp only);refine MI h (fun h=>?_) fun h=>?_
  ·refine Zv2 2 ?_;dsimp only[go_sem];refine An ?_;have ⟨x6,ex6,h⟩:=Bs h;refine VC (k_narthexlaw18_awake _ ex6) (Zv2 2 ?_);dsimp only[go_sem];refine An ?_;exact Zw4 (res:=fun (r:Bool)=>.bv r) ok5 h
  ·refine Zv2 4 ?_;dsimp only[go_sem];refine An ?_;have ⟨x7,ex7,h⟩:=Bs h;refine VC (k_narthexlaw18_Own x1 _ ex7) (Zv2 2 ?_);dsimp only[go_sem];refine An ?_;have ⟨x8,ex8,h⟩:=Bs h;refine VC (Zgl x7 (Do.mk 5 0 x2 0 (([]:List Int))) _ ex8) (Zv2 17 ?_);dsimp only[go_sem];refine An (MI h (fun h=>?_) fun h=>?_)
   ·refine Zv2 4 ?_;dsimp only[go_sem];refine An ?_;exact Zw4 (res:=fun (r:Bool)=>.bv r) ok5 h
   ·refine Zv2 11 ?_;dsimp only[go_sem];refine An ?_
    refine Zo4 (fun (x29:List Int)=>(⟨(.any :: .iv x2 :: .ptr 0 0 :: .any :: .any :: .ptr 1 0 :: .any :: Sp5 x8.2.2.1 :: .any :: .osl 0::an 122 []),[some ⟨35,Node.row x1⟩,some ⟨35,Node.row x8.1⟩],[Sq7 x29]⟩:St)) (Ztw x1 x2 x8) r ?_ fun J2=>?_
    ·intro x29 h;rw [Ztw] at h;(try dsimp only);refine Zv2 5 ?_;dsimp only[go_sem];refine An ?_
     refine Zo4 (fun (_:Unit)=>(⟨(.any :: .iv x2::an 3 (.ptr 1 0 :: .any :: Sp5 x8.2.2.1::an 124 [])),[none,some ⟨35,Node.row x8.1⟩],[]⟩:St)) (Zpw x2 x8) r ?_ fun J4=>?_
     ·rintro ⟨⟩ h;rw [Zpw] at h;(try dsimp only);refine Zv2 6 ?_;dsimp only[go_sem];refine An ?_;have ⟨x51,ex51,h⟩:=Bs h;refine VC (Z3m x8.1.DK.DI x2 _ ex51) (Zv2 11 ?_);dsimp only[go_sem];refine An (Zo4 (fun (x56:Bool)=>(⟨an 4 (.bv x56::an 127 []),[],[]⟩:St)) Zow r ?_ fun J7=>?_)
      ·intro x56 h;rw [Zow] at h;(try dsimp only);exact Zw4 (res:=fun (r:Bool)=>.bv r) ok5 h
      ·refine MC 105 h (fun h=>?_) fun h=>?_
       ·dsimp only[go_sem];refine Zv2 1 ?_;dsimp only[go_sem];refine An ?_;have ⟨x52,ex52,h⟩:=Bs h;refine VC (Zlb x8.1 _ ex52) (Zv2 1 ?_);dsimp only[go_sem];refine An ?_;have ⟨x53,ex53,h⟩:=Bs h;refine VC (Zul x52 x2 _ ex53) (Zv2 3 ?_);dsimp only[go_sem];refine An (MC 112 h (fun h=>?_) fun h=>?_)
        ·dsimp only[go_sem];refine Zv2 5 ?_;dsimp only[go_sem];refine An (MC 117 h (fun h=>?_) fun h=>?_)
         ·dsimp only[go_sem];refine Zv2 1 ?_;dsimp only[go_sem];refine An ?_;have ⟨x54,ex54,h⟩:=Bs h;refine Zs4 Event.row ex54 trivial rfl rfl rfl (Zv2 5 ?_);dsimp only[go_sem];refine An (MC 124 h (fun h=>?_) fun h=>?_)
          ·dsimp only[go_sem];refine Zv2 1 ?_;dsimp only[go_sem];refine An ?_;have ⟨x55,ex55,h⟩:=Bs h;refine Zs4 Event.row ex55 trivial rfl rfl rfl (Zv2 7 ?_);dsimp only[go_sem];refine An ?_;exact Zy4 J7 (s:=decide (x55.Peer=x2)) h
          ·dsimp only[go_sem];refine Zv2 9 ?_;dsimp only[go_sem];refine An ?_;exact Zy4 J7 (s:=false) h
         ·dsimp only[go_sem];refine Zv2 16 ?_;dsimp only[go_sem];refine An ?_;exact Zy4 J7 (s:=false) h
        ·dsimp only[go_sem];refine Zv2 21 ?_;dsimp only[go_sem];refine An ?_;exact Zy4 J7 (s:=false) h
       ·dsimp only[go_sem];refine Zv2 28 ?_;dsimp only[go_sem];refine An ?_;exact Zy4 J7 (s:=false) h
     ·refine Zv2 1 ?_;dsimp only[go_sem];refine An ?_
      refine Zp4 h (fun (x37:Int)=>(⟨(.any :: .iv x2 :: .ptr 0 0 :: .any :: .any :: .ptr 1 0 :: .any :: Sp5 x8.2.2.1 :: .any :: .osl 0 :: .any :: .iv x37::an 120 []),[some ⟨35,Node.row x1⟩,some ⟨35,Node.row x8.1⟩],[Sq7 x29]⟩:St)) (by simp [go_sem]) (by intro x37;first | rfl | simp [go_sem]) ?_
      rintro n1 x37 y1 h hin1 hout1;rw [Zsw] at h;(try dsimp only);refine Zv2 10 ?_;dsimp only[go_sem];refine An (MI h (fun h=>?_) fun h=>?_)
      ·refine Zv2 9 ?_;dsimp only[go_sem];refine An ?_;have ⟨x38,ex38,h⟩:=Bs h;refine Zs4 Sess.row ex38 trivial rfl rfl rfl (Zv2 10 ?_);dsimp only[go_sem];refine An ?_
       refine Zo4 (fun (x40:Bool)=>(⟨(.any :: .iv x2 :: .ptr 0 0 :: .any :: .any :: .ptr 1 0 :: .any :: Sp5 x8.2.2.1 :: .any :: .osl 0 :: .any :: .iv x37 :: .ptr 2 0 :: .bv x40::an 118 []),[some ⟨35,Node.row x1⟩,some ⟨35,Node.row x8.1⟩,some ⟨60,Sess.row x38⟩],[Sq7 x29]⟩:St)) (Zrw x8 x29 x37 x38) y1 ?_ fun J5=>?_
       ·intro x40 h;rw [Zrw] at h;(try dsimp only);refine Zv2 6 ?_;dsimp only[go_sem];refine An ?_;have ⟨x41,ex41,h⟩:=Bs h;refine VL (LR.slice 0 rfl) (Zul x29 x38.ID _ ex41) (Zv2 2 ?_);dsimp only[go_sem];refine An ?_
        refine Zo4 (fun (x43:Bool)=>(⟨(.any :: .iv x2 :: .ptr 0 0 :: .any :: .any :: .ptr 1 0 :: .any :: Sp5 x8.2.2.1 :: .any :: .osl 0 :: .any :: .iv x37::an 83 (.bv x43::an 36 [])),[some ⟨35,Node.row x1⟩,some ⟨35,Node.row x8.1⟩],[Sq7 x29]⟩:St)) (Zqw x37) y1 ?_ fun J6=>?_
        ·intro x43 h;rw [Zqw] at h;(try dsimp only);refine MI h (fun h=>?_) fun h=>?_
         ·refine Zv2 4 ?_;dsimp only[go_sem];refine An ?_;exact Zw4 (res:=fun (r:Bool)=>.bv r) ok5 (Zn4 h hout1)
         ·refine Zv2 7 ?_;dsimp only[go_sem];refine An ?_;exact Zx4 h hin1
        ·refine MC 86 h (fun h=>?_) fun h=>?_
         ·dsimp only[go_sem];refine Zv2 10 ?_;dsimp only[go_sem];refine An ?_;exact Zy4 J6 (s:=true) h
         ·dsimp only[go_sem];refine Zv2 5 ?_;dsimp only[go_sem];refine An ?_;have ⟨x42,ex42,h⟩:=Bs h;refine VC (Z1n x8.1.Book x38.ID _ ex42) (Zv2 4 ?_);dsimp only[go_sem];refine An ?_;exact Zy4 J6 (s:=x40==(decide (0≤x42))) h
       ·refine MC 74 h (fun h=>?_) fun h=>?_
        ·dsimp only[go_sem];refine Zv2 3 ?_;dsimp only[go_sem];refine An ?_;have ⟨x39,ex39,h⟩:=Bs h;refine VC (Zul x38.Need x2 _ ex39) (Zv2 3 ?_);dsimp only[go_sem];refine An ?_;exact Zy4 J5 (s:=x39) h
        ·dsimp only[go_sem];refine Zv2 7 ?_;dsimp only[go_sem];refine An ?_;exact Zy4 J5 (s:=false) h
      ·refine Zv2 1 ?_;dsimp only[go_sem];refine An ?_;exact Zy4 J4 (s:=()) (Zn4 h hout1)
    ·refine Zv2 1 ?_;dsimp only[go_sem];refine An ?_
     refine Zp4 h (fun ((x15,x16):(Int×List Int))=>(⟨(.any :: .iv x2 :: .ptr 0 0 :: .any :: .any :: .ptr 1 0 :: .any :: Sp5 x8.2.2.1 :: .any :: .osl 0 :: .iv x15::an 121 []),[some ⟨35,Node.row x1⟩,some ⟨35,Node.row x8.1⟩],[Sq7 x16]⟩:St)) (by simp [go_sem]) (by rintro ⟨x15,x16⟩;first | rfl | simp [go_sem]) ?_
     rintro n1 ⟨x15,x16⟩ y1 h hin1 hout1;rw [Zvw] at h;(try dsimp only);refine Zv2 8 ?_;dsimp only[go_sem];refine An (MI h (fun h=>?_) fun h=>?_)
     ·refine Zv2 7 ?_;dsimp only[go_sem];refine An ?_;have ⟨x17,ex17,h⟩:=Bs h;refine Zs4 Event.row ex17 trivial rfl rfl rfl (Zv2 4 ?_);dsimp only[go_sem];refine An ?_
      refine Zo4 (fun (x20:List Int)=>(⟨(.any :: .iv x2 :: .ptr 0 0 :: .any :: .any :: .ptr 1 0 :: .any :: Sp5 x8.2.2.1 :: .any :: .osl 0 :: .iv x15::an 121 []),[some ⟨35,Node.row x1⟩,some ⟨35,Node.row x8.1⟩],[Sq7 x20]⟩:St)) (Zuw x15) y1 ?_ fun J3=>?_
      ·intro x20 h;rw [Zuw] at h;(try dsimp only);refine Zv2 6 ?_;dsimp only[go_sem];refine An ?_;exact Zx4 h hin1
      ·refine MI h (fun h=>?_) fun h=>?_
       ·refine Zv2 4 ?_;dsimp only[go_sem];refine An ?_;have ⟨x18,ex18,h⟩:=Bs h;refine Zs4 Event.row ex18 trivial rfl rfl rfl (Zv2 3 ?_);dsimp only[go_sem];refine An ?_;have ⟨x19,ex19,h⟩:=Bs h;refine Zu4 Z15 ex19 trivial rfl rfl rfl (Zv2 2 ?_);dsimp only[go_sem];refine An (Z17 2 0 ?_);dsimp only[go_sem];exact Zy4 J3 (s:=x19) h
       ·refine Zv2 1 ?_;dsimp only[go_sem];refine An ?_;exact Zy4 J3 (s:=x16) h
     ·refine Zv2 1 ?_;dsimp only[go_sem];refine An ?_;exact Zy4 J2 (s:=x16) (Zn4 h hout1)
 ·refine MC 18 h (fun h=>?_) fun h=>?_
  ·dsimp only[go_sem];refine Zv2 5 ?_;dsimp only[go_sem];refine An ?_;exact Zy4 J1 (s:=true) h
  ·dsimp only[go_sem];refine Zv2 1 ?_;dsimp only[go_sem];refine An ?_;have ⟨x4,ex4,h⟩:=Bs h;refine VC (k_narthexref18_Few x1 _ ex4) (Zv2 3 ?_);dsimp only[go_sem];refine An ?_;exact Zy4 J1 (s:=!x4) h
theorem once_ids (n:Node):(Z0s n).Book.Sess.map (·.ID)=n.Book.Sess.map (·.ID):=by
 show (graB (Zzr n)).Sess.map (·.ID)=_
 have hb:(Zzr n).Book=n.Book:=(Zzs n).2.1
 rcases Zms (Zzr n) with ⟨e,_⟩ | ⟨s,l,e1,_,_,e2,_⟩
 ·rw [e,hb]
 ·rw [e2,←hb,e1];rfl
theorem onceNV_kind {n:Node} {v:Event} (h:v∈Z2s n):v.Kind≠5:=by
 rcases Zku h with ⟨k,_,rfl⟩ | h
 ·show (6:Int)≠5;omega
 ·rcases Zms (Zzr n) with ⟨_,e⟩ | ⟨s,l,_,_,_,_,e⟩
  ·rw [e] at h;simp at h
  ·rw [e] at h;simp at h;subst h;show (1:Int)≠5;omega
def shutP (p:Int) (n:Node):Prop:=n.DK.DI.ID<p∧∃x∈n.DK.DI.SD,x.Peer=p∧x.State≠0
theorem once_shutP {n:Node} {p:Int} (h:shutP p n):shutP p (Z0s n):=by
 obtain ⟨h1,x,hx,h2,h3⟩:=h
 refine ⟨by rw [once_id];exact h1,?_⟩
 obtain ⟨y,hy,e1,_,e3⟩:=once_keep (Z0t hx) (.inr (by omega))
 exact ⟨y,hy,by omega,by omega⟩
theorem rest_shut {n:Node} {p:Int} (h:OkN n) (hp:shutP p n) (V:List Event):
  shutP p (Z6t n [] V).1∧(Z6t n [] V).1.Book.Sess.map (·.ID)=n.Book.Sess.map (·.ID)∧∃W,(Z6t n [] V).2.2=V++W∧∀v∈W,v.Kind≠5:=
 Zdt (P:=fun m _ V'=>shutP p m∧m.Book.Sess.map (·.ID)=n.Book.Sess.map (·.ID)∧∃W,V'=V++W∧∀v∈W,v.Kind≠5) (fun m E V' _ ⟨q1,q2,W,q3,q4⟩=>
  ⟨once_shutP q1,(once_ids m).trans q2,W++Z2s m,by rw [q3,List.append_assoc],fun v hv=>by
    rcases List.mem_append.1 hv with hv | hv
    ·exact q4 v hv
    ·exact onceNV_kind hv⟩) h ⟨hp,rfl,[],by simp,by simp⟩
def gone5 (l:List Event):List Int:=(l.filter fun v=>decide (v.Kind=5)).map (·.ID)
theorem actN_shut {n:Node} {p:Int} (he:(Z6u n ⟨5,0,p,0,[]⟩).1=0):∃j x,n.DK.DI.ID<p∧n.DK.DI.SD[j]?=some x∧x.Peer=p∧x.State=0∧Z6u n ⟨5,0,p,0,[]⟩=(0,Z0u n j x,Z2u n p):=by
 revert he
 unfold Z6u
 rw [if_neg (by simp),if_neg (by simp),if_pos rfl]
 dsimp only
 split
 ·rename_i hp
  cases h6:Zst n.DK.DI.SD p with
  | none=>intro he;simp at he
  | some j=>
    dsimp only
    obtain ⟨x,hx,h8⟩:=Ztt h6
    rw [hx]
    dsimp only
    split
    ·rename_i h0;exact fun _=>⟨j,x,hp.1,hx,h8,h0,rfl⟩
    ·intro he;simp at he
 ·intro he;simp at he
theorem id_inj {l:List Sess} (h:l.Pairwise fun x y=>x.ID<y.ID) {s t:Sess} (hs:s∈l) (ht:t∈l) (e:s.ID=t.ID):s=t:=by
 induction l with
 | nil=>simp at hs
 | cons z l ih=>
   rw [List.pairwise_cons] at h
   rcases List.mem_cons.1 hs with h1 | h1<;>rcases List.mem_cons.1 ht with h2 | h2
   ·rw [h1,h2]
   ·have:=h.1 t h2;rw [←h1] at this;omega
   ·have:=h.1 s h1;rw [←h2] at this;omega
   ·exact ih h.2 h1 h2
theorem Zzw (n:Node) (p:Int):Zxw n p=some true:=by
 have j1t:Zww n p true=some true:=by
  dsimp only [Zww]
  rw [Zvn,Zhu];rfl
 obtain ⟨z,hz,hF⟩:=Zeu n
 unfold Zxw
 rw [Zhu,OB,Bool.not_true,Zwn,hz,OB]
 cases z with
 | false=>exact j1t
 | true=>
   have hf:=hF rfl
   rw [Bool.not_true]
   dsimp only [Zww]
   rw [Zwn,Zdu n hf,OB]
   cases hk:okN n with
   | false=>rw [s_ActBad n _ hf hk,OB];rfl
   | true=>
     have h:=(Zbs n).1 hk
     rw [s_Act n _ h (by simp),OB,Znu]
     by_cases he:(Z6u n ⟨5,0,p,0,[]⟩).1=0
     ·obtain ⟨j,x,hp,hx,hA,h0,ea⟩:=actN_shut he
      rw [ea,DT rfl,Bool.not_true,Zwn,Zou]
      have hm:=h.shut hx h0
      have hI:(Z0u n j x).DK.DI=shutD n j x:=by unfold Z0u;dsimp only;split<;>rfl
      have h6:shutP p (Z0u n j x):=by
       unfold shutP
       rw [hI]
       exact ⟨hp,_,(Zzt h.rowS.up hx {x with State:=2}).2 (.inl rfl),hA,by show (2:Int)≠0;omega⟩
      obtain ⟨r1,r2,W,r3,r4⟩:=rest_shut hm h6 (Z2u n p)
      have rok:=Zet hm [] (Z2u n p)
      have rl:=(Zju hm [] (Z2u n p)).2
      have hb:=(Zcs _).1 h.bk
      have hR:=hb.len
      have hT:=Zkt p n.Book.Sess
      have hV:(Z2u n p).length≤1000:=by unfold Z2u Z1u;simp only [List.length_cons,List.length_map];omega
      have r2:(Z6t (Z0u n j x) [] (Z2u n p)).1.Book.Sess.map (·.ID)=(n.Book.Sess.filter fun s=>!Zht p s).map (·.ID):=by rw [r2,←hA];rfl
      generalize Z6t (Z0u n j x) [] (Z2u n p)=R at *
      obtain ⟨r,E,L⟩:=R
      dsimp only at r1 r2 r3 rok rl ⊢
      have hJ:gone5 L=Zit p n.Book.Sess:=by
       unfold gone5
       rw [r3,List.filter_append,List.map_append]
       have e1:W.filter (fun v=>decide (v.Kind=5))=[]:=by
        rw [List.filter_eq_nil_iff];intro v hv;simpa using r4 v hv
       have e2:∀(id:Int) (l:List Int),((Z1u id l).filter fun v=>decide (v.Kind=5)).map (·.ID)=l:=by
        intro id l
        induction l with
        | nil=>rfl
        | cons i l ih=>
          show (List.filter _ (⟨5,id,i,0,[]⟩::Z1u id l)).map _=_
          rw [List.filter_cons,if_pos (by rfl),List.map_cons,ih]
       rw [e1]
       show ((List.filter _ (⟨7,n.DK.DI.ID,0,p,[]⟩::Z1u n.DK.DI.ID (Zit p n.Book.Sess))).map _)++_=_
       rw [List.filter_cons,if_neg (by simp),e2];simp
      have hK:Zpw p (r,E,L,0) ()=some true:=by
       obtain ⟨_,y,hy,hN,hO⟩:=r1
       have hS:=rok.few.sides
       have hB:=Zqu rok.rowS.up hy
       rw [hN] at hB
       have hU:=Zxq r Zpq
       dsimp only [Zpw]
       rw [Zip _ _ (by omega),OB,hB,show (Zhp (some y)).2=true from rfl,Zvn,s_Live r rok.few,OB,Zwo _ _ (by omega),OB]
       have hG:¬p∈Zoq r Zpq:=by
        rw [Zas]
        rintro ⟨w,hw,hd,hW⟩
        have:=up_eq rok.rowS.up hw hy (by omega)
        subst this
        unfold Zpq at hd;rw [decide_eq_true_eq] at hd
        exact hO hd
       have hL:L=⟨7,n.DK.DI.ID,0,p,[]⟩::(Z1u n.DK.DI.ID (Zit p n.Book.Sess)++W):=r3
       have hP:at_ L 0=some ⟨7,n.DK.DI.ID,0,p,[]⟩:=by rw [hL];rfl
       rw [DN hG,Bool.not_false,Zvn,ln_eq,DT (show (0:Int)<L.length by rw [hL,List.length_cons];omega),Zvn,hP,OB]
       dsimp only [Zow]
       rw [DT rfl,Zvn,OB,DT rfl]
      have hQ:Ztw n p (r,E,L,0) (gone5 L)=some true:=by
       dsimp only [Ztw]
       rw [hJ]
       refine Zco n.Book.Sess _ (fun pre=>(pre.length:Int)) _ (fun pre b post h6=>?_) ?_
       ·have hC:=Zdo h6
        have hX:=Zeo h6
        have h8:=Zfo h6
        have hY:=Zds (hb.ok b h8).nb
        have c1:decide (b.ID∈Zit p n.Book.Sess)=Zht p b:=by
         rw [Bool.eq_iff_iff,decide_eq_true_eq]
         unfold Zit
         constructor
         ·intro h9
          obtain ⟨t,ht,e⟩:=List.mem_map.1 h9
          obtain ⟨hn,ho⟩:=List.mem_filter.1 ht
          have:=id_inj hb.up hn h8 e
          subst this;exact ho
         ·intro hg
          exact List.mem_map.2 ⟨b,List.mem_filter.2 ⟨h8,hg⟩,rfl⟩
        have hZ:=((Zcs _).1 rok.bk).len
        have c2:decide (0≤plc (Zep r.Book b.ID))=!Zht p b:=by
         have h9:(∃s∈r.Book.Sess,s.ID=b.ID)↔Zht p b=false:=by
          have:(∃s∈r.Book.Sess,s.ID=b.ID)↔b.ID∈r.Book.Sess.map (·.ID):=by rw [List.mem_map]
          rw [this,r2,List.mem_map]
          constructor
          ·rintro ⟨t,ht,e⟩
           obtain ⟨hn,ho⟩:=List.mem_filter.1 ht
           have:=id_inj hb.up hn h8 e
           subst this;simpa using ho
          ·intro hg
           exact ⟨b,List.mem_filter.2 ⟨h8,by rw [hg];rfl⟩,rfl⟩
         cases hg:Zht p b with
         | false=>
           obtain ⟨s,hs,e⟩:=h9.2 hg
           cases hc:Zep r.Book b.ID with
           | none=>
             unfold Zep at hc
             rw [List.findIdx?_eq_none_iff] at hc
             have:=hc s hs
             simp [e] at this
           | some i=>exact DT (by show (0:Int)≤i;omega)
         | true=>
           cases hc:Zep r.Book b.ID with
           | none=>rfl
           | some i=>
             obtain ⟨s,hs,e⟩:=findB_lt hc
             have:=h9.1 ⟨s,List.mem_of_getElem? hs,e⟩
             rw [hg] at this;simp at this
        have j5:∀z,z=Zht p b→Zrw (r,E,L,0) (Zit p n.Book.Sess) (pre.length:Int) b z=some (.inl (((pre++[b]).length:Int))):=fun z hz=>by
         dsimp only [Zrw,Zqw]
         rw [Zwo _ _ (by omega),OB,c1,s_r17Find _ _ (by omega),OB,c2,hz,Z3o (by omega),Zio]
         cases Zht p b<;>rfl
        dsimp only [Zsw]
        rw [Z1o hC,Zvn,Zzn hC,OB,Zwo _ _ (by omega),OB]
        unfold Zht at j5
        cases hD:decide (b.State=0) with
        | false=>rw [Zwn];exact j5 false (by rw [hD];rfl)
        | true=>rw [Zvn];exact j5 _ (by rw [hD];rfl)
       ·dsimp only [Zsw]
        rw [Z2o,Zwn,hK];rfl
      refine Zco L _ (fun pre=>((pre.length:Int),gone5 pre)) _ (fun pre v post h6=>?_) ?_
      ·have hE:=Zdo h6
       have hvm:=Zeo h6
       have hgp:(gone5 pre).length≤pre.length:=by unfold gone5;rw [List.length_map];exact List.length_filter_le _ _
       dsimp only [Zvw,Zuw]
       rw [Z1o hE,Zvn,Zzn hE,OB,OB,Z0o _ _ (by omega) (by simp;omega),OB,Z3o (by omega),Zio]
       unfold gone5
       by_cases h5:v.Kind=5<;>simp [h5,ifb]
      ·dsimp only [Zvw]
       rw [Z2o,Zwn,hQ];rfl
     ·rw [DN he];rfl
end
end NX
end Go.Proofs.YtdjkbodnjhgbcaaGreat
namespace Go.Proofs.YtdjkbodnjhgbcaaGreat
namespace NX
open Go Go.ChangeShapes Go.WideShapes Go.ChangeAt Go.RowKit
theorem Z0x:Opn Tryz.prog 65 Side.row:=by
 intro H enc w base sp h6 fuel cs x h
 obtain ⟨xs,n,_,_,hl,h8,hf⟩:=DataW.trod_struct Tryz.underlying65 h
 rw [show Tryz.prog.cellsOf 65=8 from by kernel_rfl] at hl
 have c0:DataW.trod enc Tryz.prog w base sp h6 n 3 ((cs.drop 0).take (Tryz.prog.cellsOf 3))=xs[0]?:=hf 0 _ rfl
 rw [show Tryz.prog.cellsOf 3=1 from by kernel_rfl] at c0
 have h9:0<xs.length:=by rw [h8];decide
 obtain ⟨y0,hB⟩:∃y,xs[0]?=some y:=⟨_,List.getElem?_eq_getElem h9⟩
 obtain ⟨v0,k0⟩:=(opn_int Tryz.underlying3) enc w _ _ _ _ _ _ (c0.trans hB)
 have c1:DataW.trod enc Tryz.prog w base sp h6 n 3 ((cs.drop 1).take (Tryz.prog.cellsOf 3))=xs[1]?:=hf 1 _ rfl
 rw [show Tryz.prog.cellsOf 3=1 from by kernel_rfl] at c1
 have hc:1<xs.length:=by rw [h8];decide
 obtain ⟨y1,hy1⟩:∃y,xs[1]?=some y:=⟨_,List.getElem?_eq_getElem hc⟩
 obtain ⟨v1,k1⟩:=(opn_int Tryz.underlying3) enc w _ _ _ _ _ _ (c1.trans hy1)
 have c2:DataW.trod enc Tryz.prog w base sp h6 n 63 ((cs.drop 2).take (Tryz.prog.cellsOf 63))=xs[2]?:=hf 2 _ rfl
 rw [show Tryz.prog.cellsOf 63=1 from by kernel_rfl] at c2
 have hd:2<xs.length:=by rw [h8];decide
 obtain ⟨y2,hC⟩:∃y,xs[2]?=some y:=⟨_,List.getElem?_eq_getElem hd⟩
 obtain ⟨v2,k2⟩:=(opn_int Tryz.underlying63) enc w _ _ _ _ _ _ (c2.trans hC)
 have c3:DataW.trod enc Tryz.prog w base sp h6 n 4 ((cs.drop 3).take (Tryz.prog.cellsOf 4))=xs[3]?:=hf 3 _ rfl
 rw [show Tryz.prog.cellsOf 4=1 from by kernel_rfl] at c3
 have he:3<xs.length:=by rw [h8];decide
 obtain ⟨y3,hD⟩:∃y,xs[3]?=some y:=⟨_,List.getElem?_eq_getElem he⟩
 obtain ⟨v3,k3⟩:=(opn_bool Tryz.underlying4) enc w _ _ _ _ _ _ (c3.trans hD)
 have c4:DataW.trod enc Tryz.prog w base sp h6 n 4 ((cs.drop 4).take (Tryz.prog.cellsOf 4))=xs[4]?:=hf 4 _ rfl
 rw [show Tryz.prog.cellsOf 4=1 from by kernel_rfl] at c4
 have hn:4<xs.length:=by rw [h8];decide
 obtain ⟨y4,hE⟩:∃y,xs[4]?=some y:=⟨_,List.getElem?_eq_getElem hn⟩
 obtain ⟨v4,k4⟩:=(opn_bool Tryz.underlying4) enc w _ _ _ _ _ _ (c4.trans hE)
 have c5:DataW.trod enc Tryz.prog w base sp h6 n 4 ((cs.drop 5).take (Tryz.prog.cellsOf 4))=xs[5]?:=hf 5 _ rfl
 rw [show Tryz.prog.cellsOf 4=1 from by kernel_rfl] at c5
 have ho:5<xs.length:=by rw [h8];decide
 obtain ⟨y5,hG⟩:∃y,xs[5]?=some y:=⟨_,List.getElem?_eq_getElem ho⟩
 obtain ⟨v5,k5⟩:=(opn_bool Tryz.underlying4) enc w _ _ _ _ _ _ (c5.trans hG)
 have c6:DataW.trod enc Tryz.prog w base sp h6 n 4 ((cs.drop 6).take (Tryz.prog.cellsOf 4))=xs[6]?:=hf 6 _ rfl
 rw [show Tryz.prog.cellsOf 4=1 from by kernel_rfl] at c6
 have hw:6<xs.length:=by rw [h8];decide
 obtain ⟨y6,hI⟩:∃y,xs[6]?=some y:=⟨_,List.getElem?_eq_getElem hw⟩
 obtain ⟨v6,k6⟩:=(opn_bool Tryz.underlying4) enc w _ _ _ _ _ _ (c6.trans hI)
 have c7:DataW.trod enc Tryz.prog w base sp h6 n 4 ((cs.drop 7).take (Tryz.prog.cellsOf 4))=xs[7]?:=hf 7 _ rfl
 rw [show Tryz.prog.cellsOf 4=1 from by kernel_rfl] at c7
 have hA:7<xs.length:=by rw [h8];decide
 obtain ⟨y7,hJ⟩:∃y,xs[7]?=some y:=⟨_,List.getElem?_eq_getElem hA⟩
 obtain ⟨v7,k7⟩:=(opn_bool Tryz.underlying4) enc w _ _ _ _ _ _ (c7.trans hJ)
 have e:cs=(cs.drop 0).take 1++(cs.drop 1).take 1++(cs.drop 2).take 1++(cs.drop 3).take 1++(cs.drop 4).take 1++(cs.drop 5).take 1++(cs.drop 6).take 1++(cs.drop 7).take 1:=by
  match cs,hl with
  | [a0,a1,a2,a3,a4,a5,a6,a7],_=>rfl
 rw [e]
 exact ⟨⟨v0,v1,v2,v3,v4,v5,v6,v7⟩,(Zk1 (Zk1 (Zk1 (Zk1 (Zk1 (Zk1 (Zk1 k0 k1) k2) k3) k4) k5) k6) k7)⟩
theorem Z1x:Opn Tryz.prog 23 (Z25 8 Side.row):=opn_slice (n:=8) (row:=Side.row) Tryz.underlying23 (by kernel_rfl) (by decide) (fun _=>⟨rfl,rfl,rfl⟩) Z0x
theorem Z2x:Opn Tryz.prog 25 DI.row:=by
 intro H enc w base sp h6 fuel cs x h
 obtain ⟨xs,n,_,_,hl,h8,hf⟩:=DataW.trod_struct Tryz.underlying25 h
 rw [show Tryz.prog.cellsOf 25=3 from by kernel_rfl] at hl
 have c0:DataW.trod enc Tryz.prog w base sp h6 n 3 ((cs.drop 0).take (Tryz.prog.cellsOf 3))=xs[0]?:=hf 0 _ rfl
 rw [show Tryz.prog.cellsOf 3=1 from by kernel_rfl] at c0
 have h9:0<xs.length:=by rw [h8];decide
 obtain ⟨y0,he⟩:∃y,xs[0]?=some y:=⟨_,List.getElem?_eq_getElem h9⟩
 obtain ⟨v0,k0⟩:=(opn_int Tryz.underlying3) enc w _ _ _ _ _ _ (c0.trans he)
 have c1:DataW.trod enc Tryz.prog w base sp h6 n 22 ((cs.drop 1).take (Tryz.prog.cellsOf 22))=xs[1]?:=hf 1 _ rfl
 rw [show Tryz.prog.cellsOf 22=1 from by kernel_rfl] at c1
 have hc:1<xs.length:=by rw [h8];decide
 obtain ⟨y1,hy1⟩:∃y,xs[1]?=some y:=⟨_,List.getElem?_eq_getElem hc⟩
 obtain ⟨v1,k1⟩:=(opn_int Tryz.underlying22) enc w _ _ _ _ _ _ (c1.trans hy1)
 have c2:DataW.trod enc Tryz.prog w base sp h6 n 23 ((cs.drop 2).take (Tryz.prog.cellsOf 23))=xs[2]?:=hf 2 _ rfl
 rw [show Tryz.prog.cellsOf 23=1 from by kernel_rfl] at c2
 have hd:2<xs.length:=by rw [h8];decide
 obtain ⟨y2,hn⟩:∃y,xs[2]?=some y:=⟨_,List.getElem?_eq_getElem hd⟩
 obtain ⟨v2,k2⟩:=Z1x enc w _ _ _ _ _ _ (c2.trans hn)
 have e:cs=(cs.drop 0).take 1++(cs.drop 1).take 1++(cs.drop 2).take 1:=by
  match cs,hl with
  | [a0,a1,a2],_=>rfl
 rw [e]
 exact ⟨⟨v0,v1,v2⟩,(Zk1 (Zk1 k0 k1) k2)⟩
theorem Z3x:Opn Tryz.prog 27 (Z25 1 Z15):=opn_slice (n:=1) (row:=Z15) Tryz.underlying27 (by kernel_rfl) (by decide) (fun _=>⟨rfl,rfl,rfl⟩) (opn_int Tryz.underlying3)
theorem Z4x:Opn Tryz.prog 29 DK.row:=by
 intro H enc w base sp h6 fuel cs x h
 obtain ⟨xs,n,_,_,hl,h8,hf⟩:=DataW.trod_struct Tryz.underlying29 h
 rw [show Tryz.prog.cellsOf 29=5 from by kernel_rfl] at hl
 have c0:DataW.trod enc Tryz.prog w base sp h6 n 25 ((cs.drop 0).take (Tryz.prog.cellsOf 25))=xs[0]?:=hf 0 _ rfl
 rw [show Tryz.prog.cellsOf 25=3 from by kernel_rfl] at c0
 have h9:0<xs.length:=by rw [h8];decide
 obtain ⟨y0,he⟩:∃y,xs[0]?=some y:=⟨_,List.getElem?_eq_getElem h9⟩
 obtain ⟨v0,k0⟩:=Z2x enc w _ _ _ _ _ _ (c0.trans he)
 have c1:DataW.trod enc Tryz.prog w base sp h6 n 26 ((cs.drop 3).take (Tryz.prog.cellsOf 26))=xs[1]?:=hf 1 _ rfl
 rw [show Tryz.prog.cellsOf 26=1 from by kernel_rfl] at c1
 have hc:1<xs.length:=by rw [h8];decide
 obtain ⟨y1,hy1⟩:∃y,xs[1]?=some y:=⟨_,List.getElem?_eq_getElem hc⟩
 obtain ⟨v1,k1⟩:=(opn_int Tryz.underlying26) enc w _ _ _ _ _ _ (c1.trans hy1)
 have c2:DataW.trod enc Tryz.prog w base sp h6 n 27 ((cs.drop 4).take (Tryz.prog.cellsOf 27))=xs[2]?:=hf 2 _ rfl
 rw [show Tryz.prog.cellsOf 27=1 from by kernel_rfl] at c2
 have hd:2<xs.length:=by rw [h8];decide
 obtain ⟨y2,hn⟩:∃y,xs[2]?=some y:=⟨_,List.getElem?_eq_getElem hd⟩
 obtain ⟨v2,k2⟩:=Z3x enc w _ _ _ _ _ _ (c2.trans hn)
 have e:cs=(cs.drop 0).take 3++(cs.drop 3).take 1++(cs.drop 4).take 1:=by
  match cs,hl with
  | [a0,a1,a2,a3,a4],_=>rfl
 rw [e]
 exact ⟨⟨v0,v1,v2⟩,(Zk1 (Zk1 k0 k1) k2)⟩
theorem Z5x:Opn Tryz.prog 60 Sess.row:=by
 intro H enc w base sp h6 fuel cs x h
 obtain ⟨xs,n,_,_,hl,h8,hf⟩:=DataW.trod_struct Tryz.underlying60 h
 rw [show Tryz.prog.cellsOf 60=4 from by kernel_rfl] at hl
 have c0:DataW.trod enc Tryz.prog w base sp h6 n 3 ((cs.drop 0).take (Tryz.prog.cellsOf 3))=xs[0]?:=hf 0 _ rfl
 rw [show Tryz.prog.cellsOf 3=1 from by kernel_rfl] at c0
 have h9:0<xs.length:=by rw [h8];decide
 obtain ⟨y0,hn⟩:∃y,xs[0]?=some y:=⟨_,List.getElem?_eq_getElem h9⟩
 obtain ⟨v0,k0⟩:=(opn_int Tryz.underlying3) enc w _ _ _ _ _ _ (c0.trans hn)
 have c1:DataW.trod enc Tryz.prog w base sp h6 n 27 ((cs.drop 1).take (Tryz.prog.cellsOf 27))=xs[1]?:=hf 1 _ rfl
 rw [show Tryz.prog.cellsOf 27=1 from by kernel_rfl] at c1
 have hc:1<xs.length:=by rw [h8];decide
 obtain ⟨y1,hy1⟩:∃y,xs[1]?=some y:=⟨_,List.getElem?_eq_getElem hc⟩
 obtain ⟨v1,k1⟩:=Z3x enc w _ _ _ _ _ _ (c1.trans hy1)
 have c2:DataW.trod enc Tryz.prog w base sp h6 n 58 ((cs.drop 2).take (Tryz.prog.cellsOf 58))=xs[2]?:=hf 2 _ rfl
 rw [show Tryz.prog.cellsOf 58=1 from by kernel_rfl] at c2
 have hd:2<xs.length:=by rw [h8];decide
 obtain ⟨y2,ho⟩:∃y,xs[2]?=some y:=⟨_,List.getElem?_eq_getElem hd⟩
 obtain ⟨v2,k2⟩:=(opn_int Tryz.underlying58) enc w _ _ _ _ _ _ (c2.trans ho)
 have c3:DataW.trod enc Tryz.prog w base sp h6 n 3 ((cs.drop 3).take (Tryz.prog.cellsOf 3))=xs[3]?:=hf 3 _ rfl
 rw [show Tryz.prog.cellsOf 3=1 from by kernel_rfl] at c3
 have he:3<xs.length:=by rw [h8];decide
 obtain ⟨y3,hw⟩:∃y,xs[3]?=some y:=⟨_,List.getElem?_eq_getElem he⟩
 obtain ⟨v3,k3⟩:=(opn_int Tryz.underlying3) enc w _ _ _ _ _ _ (c3.trans hw)
 have e:cs=(cs.drop 0).take 1++(cs.drop 1).take 1++(cs.drop 2).take 1++(cs.drop 3).take 1:=by
  match cs,hl with
  | [a0,a1,a2,a3],_=>rfl
 rw [e]
 exact ⟨⟨v0,v1,v2,v3⟩,(Zk1 (Zk1 (Zk1 k0 k1) k2) k3)⟩
theorem Z6x:Opn Tryz.prog 30 (Z25 4 Sess.row):=opn_slice (n:=4) (row:=Sess.row) Tryz.underlying30 (by kernel_rfl) (by decide) (fun _=>⟨rfl,rfl,rfl⟩) Z5x
theorem Z7x:Opn Tryz.prog 32 Book.row:=by
 intro H enc w base sp h6 fuel cs x h
 obtain ⟨xs,n,_,_,hl,h8,hf⟩:=DataW.trod_struct Tryz.underlying32 h
 rw [show Tryz.prog.cellsOf 32=2 from by kernel_rfl] at hl
 have c0:DataW.trod enc Tryz.prog w base sp h6 n 3 ((cs.drop 0).take (Tryz.prog.cellsOf 3))=xs[0]?:=hf 0 _ rfl
 rw [show Tryz.prog.cellsOf 3=1 from by kernel_rfl] at c0
 have h9:0<xs.length:=by rw [h8];decide
 obtain ⟨y0,hd⟩:∃y,xs[0]?=some y:=⟨_,List.getElem?_eq_getElem h9⟩
 obtain ⟨v0,k0⟩:=(opn_int Tryz.underlying3) enc w _ _ _ _ _ _ (c0.trans hd)
 have c1:DataW.trod enc Tryz.prog w base sp h6 n 30 ((cs.drop 1).take (Tryz.prog.cellsOf 30))=xs[1]?:=hf 1 _ rfl
 rw [show Tryz.prog.cellsOf 30=1 from by kernel_rfl] at c1
 have hc:1<xs.length:=by rw [h8];decide
 obtain ⟨y1,hy1⟩:∃y,xs[1]?=some y:=⟨_,List.getElem?_eq_getElem hc⟩
 obtain ⟨v1,k1⟩:=Z6x enc w _ _ _ _ _ _ (c1.trans hy1)
 have e:cs=(cs.drop 0).take 1++(cs.drop 1).take 1:=by
  match cs,hl with
  | [a0,a1],_=>rfl
 rw [e]
 exact ⟨⟨v0,v1⟩,(Zk1 k0 k1)⟩
theorem Z8x:Opn Tryz.prog 95 KE.row:=by
 intro H enc w base sp h6 fuel cs x h
 obtain ⟨xs,n,_,_,hl,h8,hf⟩:=DataW.trod_struct Tryz.underlying95 h
 rw [show Tryz.prog.cellsOf 95=2 from by kernel_rfl] at hl
 have c0:DataW.trod enc Tryz.prog w base sp h6 n 3 ((cs.drop 0).take (Tryz.prog.cellsOf 3))=xs[0]?:=hf 0 _ rfl
 rw [show Tryz.prog.cellsOf 3=1 from by kernel_rfl] at c0
 have h9:0<xs.length:=by rw [h8];decide
 obtain ⟨y0,hd⟩:∃y,xs[0]?=some y:=⟨_,List.getElem?_eq_getElem h9⟩
 obtain ⟨v0,k0⟩:=(opn_int Tryz.underlying3) enc w _ _ _ _ _ _ (c0.trans hd)
 have c1:DataW.trod enc Tryz.prog w base sp h6 n 3 ((cs.drop 1).take (Tryz.prog.cellsOf 3))=xs[1]?:=hf 1 _ rfl
 rw [show Tryz.prog.cellsOf 3=1 from by kernel_rfl] at c1
 have hc:1<xs.length:=by rw [h8];decide
 obtain ⟨y1,hy1⟩:∃y,xs[1]?=some y:=⟨_,List.getElem?_eq_getElem hc⟩
 obtain ⟨v1,k1⟩:=(opn_int Tryz.underlying3) enc w _ _ _ _ _ _ (c1.trans hy1)
 have e:cs=(cs.drop 0).take 1++(cs.drop 1).take 1:=by
  match cs,hl with
  | [a0,a1],_=>rfl
 rw [e]
 exact ⟨⟨v0,v1⟩,(Zk1 k0 k1)⟩
theorem Z9x:Opn Tryz.prog 33 (Z25 2 KE.row):=opn_slice (n:=2) (row:=KE.row) Tryz.underlying33 (by kernel_rfl) (by decide) (fun _=>⟨rfl,rfl,rfl⟩) Z8x
theorem Zax:Opn Tryz.prog 35 Node.row:=by
 intro H enc w base sp h6 fuel cs x h
 obtain ⟨xs,n,_,_,hl,h8,hf⟩:=DataW.trod_struct Tryz.underlying35 h
 rw [show Tryz.prog.cellsOf 35=10 from by kernel_rfl] at hl
 have c0:DataW.trod enc Tryz.prog w base sp h6 n 29 ((cs.drop 0).take (Tryz.prog.cellsOf 29))=xs[0]?:=hf 0 _ rfl
 rw [show Tryz.prog.cellsOf 29=5 from by kernel_rfl] at c0
 have h9:0<xs.length:=by rw [h8];decide
 obtain ⟨y0,ho⟩:∃y,xs[0]?=some y:=⟨_,List.getElem?_eq_getElem h9⟩
 obtain ⟨v0,k0⟩:=Z4x enc w _ _ _ _ _ _ (c0.trans ho)
 have c1:DataW.trod enc Tryz.prog w base sp h6 n 32 ((cs.drop 5).take (Tryz.prog.cellsOf 32))=xs[1]?:=hf 1 _ rfl
 rw [show Tryz.prog.cellsOf 32=2 from by kernel_rfl] at c1
 have hc:1<xs.length:=by rw [h8];decide
 obtain ⟨y1,hy1⟩:∃y,xs[1]?=some y:=⟨_,List.getElem?_eq_getElem hc⟩
 obtain ⟨v1,k1⟩:=Z7x enc w _ _ _ _ _ _ (c1.trans hy1)
 have c2:DataW.trod enc Tryz.prog w base sp h6 n 33 ((cs.drop 7).take (Tryz.prog.cellsOf 33))=xs[2]?:=hf 2 _ rfl
 rw [show Tryz.prog.cellsOf 33=1 from by kernel_rfl] at c2
 have hd:2<xs.length:=by rw [h8];decide
 obtain ⟨y2,hw⟩:∃y,xs[2]?=some y:=⟨_,List.getElem?_eq_getElem hd⟩
 obtain ⟨v2,k2⟩:=Z9x enc w _ _ _ _ _ _ (c2.trans hw)
 have c3:DataW.trod enc Tryz.prog w base sp h6 n 27 ((cs.drop 8).take (Tryz.prog.cellsOf 27))=xs[3]?:=hf 3 _ rfl
 rw [show Tryz.prog.cellsOf 27=1 from by kernel_rfl] at c3
 have he:3<xs.length:=by rw [h8];decide
 obtain ⟨y3,hA⟩:∃y,xs[3]?=some y:=⟨_,List.getElem?_eq_getElem he⟩
 obtain ⟨v3,k3⟩:=Z3x enc w _ _ _ _ _ _ (c3.trans hA)
 have c4:DataW.trod enc Tryz.prog w base sp h6 n 33 ((cs.drop 9).take (Tryz.prog.cellsOf 33))=xs[4]?:=hf 4 _ rfl
 rw [show Tryz.prog.cellsOf 33=1 from by kernel_rfl] at c4
 have hn:4<xs.length:=by rw [h8];decide
 obtain ⟨y4,hB⟩:∃y,xs[4]?=some y:=⟨_,List.getElem?_eq_getElem hn⟩
 obtain ⟨v4,k4⟩:=Z9x enc w _ _ _ _ _ _ (c4.trans hB)
 have e:cs=(cs.drop 0).take 5++(cs.drop 5).take 2++(cs.drop 7).take 1++(cs.drop 8).take 1++(cs.drop 9).take 1:=by
  match cs,hl with
  | [a0,a1,a2,a3,a4,a5,a6,a7,a8,a9],_=>rfl
 rw [e]
 exact ⟨⟨v0,v1,v2,v3,v4⟩,(Zk1 (Zk1 (Zk1 (Zk1 k0 k1) k2) k3) k4)⟩
theorem Zbx:laidOutB Tryz.prog=true:=by kernel_rfl
theorem own_nodeShuts:ownKnob Tryz.prog.godebug=none:=by kernel_rfl
theorem Zcx (H:Type) (enc:TypeId×Value→H) (W:World) (base:Nat) (args:Array Value) (ds gs:List (DataW H)) (before:List MemPlace)
  (h6:∀(j:Nat) t v,Tryz.f5.params[j]?=some t→args[j]?=some v→Value.okWide Tryz.prog W .any base t v)
  (hW:DataW.Whole enc Tryz.prog Tryz.f5.params.toList Rows.nodeShutsSpec.vars false W args.toList ds gs before):
  Calls Tryz.prog 5 args W fun e W'=>∃v,e = .returned v∧Rows.nodeShutsSpec.post enc Tryz.prog Tryz.f5 false true false false W args v W':=by
 have h8:=hW
 obtain ⟨p,q,h9,hV,rfl,he,hf⟩:=hW
 have hA:DataW.TrodAll enc Tryz.prog W 0 (fun _=>true) true Tryz.f5.params.toList args.toList ds p:=h9
 rw [Tryz.params5] at hA h6
 obtain ⟨v0,vs0,d0,ds0,p0,q0,hc,rfl,rfl,h0,r0⟩:=trodAll_cons hA
 obtain ⟨v1,vs1,d1,ds1,p1,q1,hd,rfl,rfl,h1,r1⟩:=trodAll_cons r0
 obtain ⟨hz,rfl,rfl⟩:=trodAll_nil r1
 obtain rfl:args = #[v0,v1]:=by cases args;simp_all
 obtain ⟨x1,k0⟩:=arg_agg Zax Tryz.underlying35 (h6 0 35 v0 rfl rfl) h0
 obtain ⟨x2,k1⟩:=arg_int Tryz.underlying3 (h6 1 3 v1 rfl rfl) h1
 refine (Zyw x1 x2 true (Zzw x1 x2) (fun k=>W.heap[k]?) W [v0,v1] (fun _ _ h=>h) (fun _ hs=>absurd hs List.not_mem_nil) ⟨v0,_,rfl,k0,⟨v1,_,rfl,k1,rfl⟩⟩).mono ?_
 rintro e W' ⟨v,H',rfl,hB,_,_,hv⟩
 have hv:v = .bool true:=hv
 subst hv
 exact ⟨_,rfl,law_post Zbx (by kernel_rfl) rfl (rfl:Tryz.f5.resultTypes = #[4]) Tryz.underlying4 (fun _=>rfl) h8 hB⟩
theorem Zdx (os:Os) (started:os.Started) (H:Type) (enc:TypeId×Value→H):
  ReturnsInHanded {} Tryz.checked os 5 .any (Rows.nodeShutsSpec.pre6 enc Tryz.prog Tryz.f5 Rows.nodeShutsRow.domain false) (Rows.nodeShutsSpec.post enc Tryz.prog Tryz.f5 false true false false):=by
 refine returnsInHanded_of_change (C:=Tryz.checked) own_nodeShuts started (by kernel_rfl) Tryz.func5
  (ChangeSpec.witness6 (enc:=enc) (C:=Tryz.checked) false ⟨#[], #[.agg #[.int .i64 0,.int .i64 0,.slice none 0 0,.int .i64 0,.slice none 0 0,.int .i64 0,.slice none 0 0,.slice none 0 0,.slice none 0 0,.slice none 0 0],.int .i64 0],[]⟩ 8 (by kernel_rfl) (by kernel_rfl) (by kernel_rfl) (by kernel_rfl)) ?_
 intro W base args ds gs before h6 hW _ _
 exact Zcx H enc W base args ds gs before h6 hW
theorem nodeShuts_holds:Rows.NodeShutsSaid:=
 OpenClaim.holds_of_wide 5 Tryz.f5 rfl rfl rfl rfl rfl rfl rfl ⟨rfl,rfl,rfl,rfl,rfl⟩ rfl rfl rfl rfl rfl (by kernel_rfl) Tryz.func5 (by kernel_rfl)
  (of_decide_eq_true (by kernel_rfl)) (by unfold Func.isWrapper;first | (rw [if_pos (by decide +kernel)];kernel_rfl) | (rw [if_neg (by decide +kernel)];exact ⟨rfl,rfl⟩))
  (fun os started H enc _=>Zdx os started H enc)
#print axioms nodeShuts_holds
end NX
end Go.Proofs.YtdjkbodnjhgbcaaGreat
