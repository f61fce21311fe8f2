/-
  Plain laws: what always holds of a node. No statement of the seat is proved here.
-/
import Derived.Test.YtjemlejoladlcaaGreatLHallRound29
namespace Go.Proofs.YtjemlejoladlcaaGreat
namespace NX
open Go
structure SideOK (id:Int) (x:SX):Prop where
 lo:0≤x.PE
 ne:x.PE≠id
 e0:0≤x.EP
 e1:x.EP≤65535
 s0:0≤x.SS
 s3:x.SS≤3
 df:x.DY=true→x.FK=true
theorem kV (id:Int):∀(S:List SX) (q:Int),FD id q S=true↔(S.Pairwise fun x y=>x.PE<y.PE)∧∀x∈S,CS id q x=true
 | [],q=>by simp [FD]
 | x::S,q=>by
   have hx:∀ {y:SX},CS id q x=true→CS id x.PE y=true→CS id q y=true:=by intro y h1 h2;simp only [CS,Bool.and_eq_true,decide_eq_true_eq] at h1 h2 ⊢;exact ⟨Om,h2.2⟩
   have hy:∀ {y:SX},x.PE<y.PE→CS id q y=true→CS id x.PE y=true:=by intro y h1 h2;simp only [CS,Bool.and_eq_true,decide_eq_true_eq] at h2 ⊢;exact ⟨h1,h2.2⟩
   simp only [FD,Bool.and_eq_true,kV id S x.PE,List.pairwise_cons,List.mem_cons,forall_eq_or_imp];constructor
   ·rintro ⟨h1,h2,h3⟩;refine ⟨⟨fun y hy=>?_,h2⟩,h1,fun y hy=>hx h1 (h3 y hy)⟩;have:=h3 y hy;simp only [CS,Bool.and_eq_true,decide_eq_true_eq] at this;exact this.1
   ·rintro ⟨⟨h1,h2⟩,h3,h4⟩;exact ⟨h3,h2,fun y hy'=>hy (h1 y hy') (h4 y hy')⟩
theorem Z13 (id:Int) (x:SX):CS id (-1) x=true↔SideOK id x:=by
 simp only [CS,Bool.and_eq_true,decide_eq_true_eq,Bool.not_eq_true',decide_eq_false_iff_not,Bool.and_eq_false_iff,Bool.not_eq_false'];constructor
 ·rintro ⟨h1,h2,h3,h4,h5,h6,h7⟩;refine ⟨Om,h2,h3,h4,h5,h6,fun h=>?_⟩;rcases h7 with h7 | h7
  ·rw [h] at h7;simp at h7
  ·exact h7
 ·rintro ⟨h1,h2,h3,h4,h5,h6,h7⟩;refine ⟨Om,h2,h3,h4,h5,h6,?_⟩;cases hd:x.DY with
  | false=>exact .inl rfl
  | true=>exact .inr (h7 hd)
structure DinOK (d:DI):Prop where
 id0:0≤d.ID
 p0:0≤d.PH
 p2:d.PH≤2
 len:d.SD.length<64
 up:d.SD.Pairwise fun x y=>x.PE<y.PE
 side:∀x∈d.SD,SideOK d.ID x
theorem Yz (d:DI):Cc d=true↔DinOK d:=by
 simp only [Cc,Bool.and_eq_true,decide_eq_true_eq,kV,Z13];constructor
 ·rintro ⟨h1,h2,h3,h4,h5,h6⟩;exact ⟨h1,h2,h3,h4,h5,h6⟩
 ·rintro ⟨h1,h2,h3,h4,h5,h6⟩;exact ⟨h1,h2,h3,h4,h5,h6⟩
theorem cR:∀(l:List Int) (q:Option Int),Gb q l=true↔l.Pairwise (· < ·)∧∀y,q=some y→∀x∈l,y<x
 | [],q=>by simp [Gb]
 | x::l,q=>by
   simp only [Gb,Bool.and_eq_true,cR l (some x),List.pairwise_cons,List.mem_cons,forall_eq_or_imp,Option.some.injEq];cases q with
   | none=>
     constructor
     ·rintro ⟨_,h1,h2⟩;exact ⟨⟨h2 x rfl,h1⟩,by simp⟩
     ·rintro ⟨⟨h2,h1⟩,_⟩;exact ⟨rfl,h1,fun y e=>by subst e;exact h2⟩
   | some y=>
     simp only [decide_eq_true_eq];constructor
     ·rintro ⟨h0,h1,h2⟩;exact ⟨⟨h2 x rfl,h1⟩,fun z e=>by simp only [Option.some.injEq] at e;subst e;exact ⟨h0,fun w hw=>Int.lt_trans h0 (h2 x rfl w hw)⟩⟩
     ·rintro ⟨⟨h2,h1⟩,h3⟩;exact ⟨(h3 y rfl).1,h1,fun z e=>by subst e;exact h2⟩
theorem lR:∀(l:List KE) (q:Int),HE q l=true↔(l.Pairwise fun x y=>x.PE<y.PE)∧∀k∈l,q<k.PE∧k.PE<64∧1≤k.EP∧k.EP≤65535
 | [],q=>by simp [HE]
 | x::l,q=>by
   simp only [HE,Bool.and_eq_true,decide_eq_true_eq,lR l x.PE,List.pairwise_cons,List.mem_cons,forall_eq_or_imp];constructor
   ·rintro ⟨⟨h1,h2,h3,h4⟩,h5,h6⟩;exact ⟨⟨fun y hy=>(h6 y hy).1,h5⟩,⟨h1,h2,h3,h4⟩,fun y hy=>⟨Int.lt_trans h1 (h6 y hy).1,(h6 y hy).2⟩⟩
   ·rintro ⟨⟨h1,h2⟩,⟨h3,h4,h5,h6⟩,h7⟩;exact ⟨⟨h3,h4,h5,h6⟩,h2,fun y hy=>⟨h1 y hy,(h7 y hy).2⟩⟩
structure DrOK (d:DK):Prop where
 din:DinOK d.DI
 t0:0≤d.TH
 t2:d.TH≤2
 up:d.NE.Pairwise (· < ·)
 nz:d.TH=0→d.NE=[]
 has:∀p∈d.NE,∃x∈d.DI.SD,x.PE=p
theorem uv (d:DI) (p:Int):Jk d p=true↔∃x∈d.SD,x.PE=p:=by unfold Jk;rw [List.any_eq_true];simp
theorem U5 (d:DK):EJ d=true↔DrOK d:=by
 unfold EJ;simp only [Bool.and_eq_true,decide_eq_true_eq,Yz,cR,List.all_eq_true,uv,Bool.not_eq_true',Bool.and_eq_false_iff,decide_eq_false_iff_not];constructor
 ·rintro ⟨h1,h2,h3,h4,h5,h6⟩;refine ⟨h1,h2,h3,h4.1,fun h=>?_,h6⟩;rcases h5 with h5 | h5
  ·exact absurd h h5
  ·exact List.eq_nil_of_length_eq_zero Om
 ·rintro ⟨h1,h2,h3,h4,h5,h6⟩;refine ⟨h1,h2,h3,⟨h4,by simp⟩,?_,h6⟩;by_cases h:d.TH=0
  ·right;rw [h5 h];simp
  ·left;exact h
structure OkN (n:NO):Prop where
 dr:DrOK n.DK
 bk:DB n.BK=true
 may:∀k∈n.AK,(∀x∈n.DK.DI.SD,x.PE≠k.PE)∧0≤k.PE∧k.PE<n.DK.DI.ID∧BG n.KN k.PE<k.EP∧k.EP≤65535
 dis:(n.AK.map (·.PE)).Nodup
 id:n.DK.DI.ID<64
 kup:n.KN.Pairwise fun x y=>x.PE<y.PE
 kr:∀k∈n.KN,0≤k.PE∧k.PE<64∧1≤k.EP∧k.EP≤65535
 sd:∀x∈n.DK.DI.SD,x.PE<64∧1≤x.EP∧BG n.KN x.PE=x.EP∧(x.SS=1∨x.SS=3→n.DK.DI.ID≤x.PE)
 told:n.TL.Pairwise (· < ·)
 tin:∀p∈n.TL,∃x∈n.DK.DI.SD,x.SS=1∧x.PE=p
 th:n.DK.TH=2↔Fv n=true
 hq:n.DK.TH=0∨PR n=true
 nl:∀x∈n.DK.DI.SD,x.PE∈n.DK.NE→x.SS≠3
 wt:∀s∈n.BK.SE,s.SS=0→∀p∈s.NE,∃x∈n.DK.DI.SD,x.SS=0∧x.PE=p
theorem cy (n:NO) (k:KE):Fb n k=true↔(∀x∈n.DK.DI.SD,x.PE≠k.PE)∧0≤k.PE∧k.PE<n.DK.DI.ID∧BG n.KN k.PE<k.EP∧k.EP≤65535:=by unfold Fb;simp only [Bool.and_eq_true,decide_eq_true_eq,Bool.not_eq_true',List.any_eq_false]
theorem Z14 (n:NO) (x:SX):IS n x=true↔x.PE<64∧1≤x.EP∧BG n.KN x.PE=x.EP∧(x.SS=1∨x.SS=3→n.DK.DI.ID≤x.PE):=by
 unfold IS;simp only [Bool.and_eq_true,decide_eq_true_eq,Bool.not_eq_true',Bool.and_eq_false_iff,Bool.or_eq_false_iff,decide_eq_false_iff_not];constructor
 ·rintro ⟨h1,h2,h3,h4⟩;exact ⟨h1,h2,h3,fun h=>Om⟩
 ·rintro ⟨h1,h2,h3,h4⟩;exact ⟨h1,h2,h3,Om⟩
theorem cD (n:NO) (q:SX→Bool) (p:Int):p∈CR n q↔∃x∈n.DK.DI.SD,q x=true∧x.PE=p:=by
 unfold CR;simp only [List.mem_map,List.mem_filter];constructor
 ·rintro ⟨x,⟨h1,h2⟩,h3⟩;exact ⟨x,h1,h2,h3⟩
 ·rintro ⟨x,h1,h2,h3⟩;exact ⟨x,⟨h1,h2⟩,h3⟩
theorem Z1Y (n:NO) (s:SE):IV n s=true↔(s.SS=0→∀p∈s.NE,∃x∈n.DK.DI.SD,x.SS=0∧x.PE=p):=by
 unfold IV;simp only [Bool.not_eq_true',Bool.and_eq_false_iff,decide_eq_false_iff_not,Bool.not_eq_false',List.all_eq_true,decide_eq_true_eq,cD,E4];constructor
 ·rintro (h | h)
  ·exact fun e=>absurd e h
  ·exact fun _=>h
 ·intro h;by_cases e:s.SS=0
  ·exact .inr (h e)
  ·exact .inl e
theorem IL (n:NO):Lv n=true↔OkN n:=by
 unfold Lv PM Vn Ur EB;simp only [Bool.and_eq_true,U5,List.all_eq_true,cy,decide_eq_true_eq,lR,Z14,cR,cD,EL,G2,Bool.or_eq_true,beq_iff_eq,Bool.not_eq_true',List.any_eq_false,Z1Y];constructor
 ·rintro ⟨h1,h2,⟨h3,h4,h5,h6,h7,h8,h9⟩,hd,hw,hA,hB⟩;exact ⟨h1,h2,h3,h4,h5,h6.1,fun k hk=>by have:=h6.2 k hk;omega,h7,h8.1,h9,by rw [←hd];simp,hw,fun x hx hn e=>hA x.PE hn ⟨x,hx,e,rfl⟩,hB⟩
 ·rintro ⟨h1,h2,h3,h4,h5,h6,h6',h7,h8,h9,hd,hw,hA,hB⟩;refine ⟨h1,h2,⟨h3,h4,h5,⟨h6,fun k hk=>by have:=h6' k hk;omega⟩,h7,⟨h8,by simp⟩,h9⟩,?_,hw,?_,hB⟩
  ·rw [Bool.eq_iff_iff];simpa using hd
  ·rintro p hp ⟨x,hx,e,rfl⟩;exact hA x hx hp e
structure SessOK (top last:Int) (s:SE):Prop where
 lo:last<s.ID
 hi:s.ID≤top
 nb:Ga s.NE=true
 up:s.NE.Pairwise (· < ·)
 age:0≤s.Age
 st:s.SS=1∨s.SS=0∧s.Age=0
theorem nj (top:Int):∀(l:List SE) (last:Int) (first:Bool),HJ top last first l=true↔(l.Pairwise fun x y=>x.ID<y.ID)∧(∀s∈l,SessOK top last s)∧∀s∈(if first then l.tail else l),s.SS=0
 | [],_,_=>by simp [HJ]
 | x::l,last,first=>by
   have e:K7 last top first x=true↔SessOK top last x∧(first=false→x.SS=0):=by
    unfold K7;simp only [Bool.and_eq_true,decide_eq_true_eq,Bool.or_eq_true];constructor
    ·rintro ⟨h1,h2,h3,h4,h5,h6⟩;refine ⟨⟨h1,h2,h3,h4,h5,?_⟩,fun hf=>?_⟩
     ·rcases h6 with h | h
      ·exact .inl h.1
      ·exact .inr h
     ·rcases h6 with h | h
      ·rw [hf] at h;simp at h
      ·exact h.1
    ·rintro ⟨⟨h1,h2,h3,h4,h5,h6⟩,h7⟩;refine ⟨h1,h2,h3,h4,h5,?_⟩;rcases h6 with h | h
     ·cases first with
      | true=>exact .inl ⟨h,rfl⟩
      | false=>have:=h7 rfl;omega
     ·exact .inr h
   simp only [HJ,Bool.and_eq_true,e,nj top l x.ID false,List.pairwise_cons,List.mem_cons,forall_eq_or_imp];constructor
   ·rintro ⟨⟨h1,h2⟩,h3,h4,h5⟩;have h5:∀s∈l,s.SS=0:=h5;refine ⟨⟨fun y hy=>(h4 y hy).lo,h3⟩,⟨h1,fun y hy=>?_⟩,?_⟩
    ·have:=h4 y hy;exact {this with lo:=Int.lt_trans h1.lo this.lo}
    ·cases first with
     | true=>exact h5
     | false=>
       intro s hs;rcases List.mem_cons.1 hs with rfl | hs
       ·exact h2 rfl
       ·exact h5 s hs
   ·rintro ⟨⟨h1,h2⟩,⟨h3,h4⟩,h5⟩;refine ⟨⟨h3,fun hf=>?_⟩,h2,fun y hy=> {h4 y hy with lo:=h1 y hy},?_⟩
    ·subst hf;exact h5 x (by simp)
    ·cases first with
     | true=>exact h5
     | false=>exact fun s hs=>h5 s (List.mem_cons_of_mem _ hs)
structure BkOK (b:BK):Prop where
 last:0≤b.LA
 len:b.SE.length≤8
 up:b.SE.Pairwise fun x y=>x.ID<y.ID
 ok:∀s∈b.SE,SessOK b.LA 0 s
 tl:∀s∈b.SE.tail,s.SS=0
theorem Eh (b:BK):DB b=true↔BkOK b:=by
 unfold DB;simp only [Bool.and_eq_true,decide_eq_true_eq,nj];constructor
 ·rintro ⟨h1,h2,h3,h4,h5⟩;exact ⟨h1,h2,h3,h4,h5⟩
 ·rintro ⟨h1,h2,h3,h4,h5⟩;exact ⟨h1,h2,h3,h4,h5⟩
theorem cI {l:List Int} (h:Ga l=true):l.length≤64:=by unfold Ga at h;rw [Bool.and_eq_true,decide_eq_true_eq] at h;exact h.1
theorem BkOK.few {b:BK} (h:BkOK b):F1 b:=⟨by have:=h.len;omega,fun s hs=>by have:=cI (h.ok s hs).nb;omega⟩
theorem Pn {l:List Int} (h:l.Pairwise (· < ·)) {n:Int} (hn:0≤n) (hr:∀x∈l,0≤x∧x<n):(l.length:Int)≤n:=by
 rcases lG l 0 n h hr with rfl | h
 ·simpa using hn
 ·omega
theorem Z1X {l:List Int} (h:l.Pairwise (· < ·)) {n id:Int} (hi:0≤id∧id<n) (hr:∀x∈l,0≤x∧x<n∧x≠id):(l.length:Int)<n:=by
 have h1:(l.take (AF l (fun x=>x) id)++id::l.drop (AF l (fun x=>x) id)).Pairwise fun x y=>x<y:=V7 (Af:=fun x:Int=>x) (p:=id) h rfl fun y hy=>(hr y hy).2.2;have h2:=Pn h1 (n:=n) Om fun x hx=>by
  rw [List.mem_append,List.mem_cons] at hx;rcases hx with hx | rfl | hx
  ·have:=hr x (List.mem_of_mem_take hx);omega
  ·omega
  ·have:=hr x (List.mem_of_mem_drop hx);omega
 rw [List.length_append,List.length_cons] at h2;have h3:l.length=(l.take (AF l (fun x=>x) id)).length+(l.drop (AF l (fun x=>x) id)).length:=by rw [←List.length_append,List.take_append_drop]
 omega
theorem OkN.peer0 {n:NO} (h:OkN n) {x:SX} (hx:x∈n.DK.DI.SD):0≤x.PE∧x.PE<64∧x.PE≠n.DK.DI.ID:=⟨(h.dr.din.side x hx).lo,(h.sd x hx).1,(h.dr.din.side x hx).ne⟩
theorem OkN.needL {n:NO} (h:OkN n):n.DK.NE.length≤64:=by
 have:=Pn h.dr.up (n:=64) Om fun p hp=>by obtain ⟨x,hx,rfl⟩:=h.dr.has p hp;have:=h.peer0 hx;omega
 omega
theorem OkN.toldL {n:NO} (h:OkN n):n.TL.length≤64:=by
 have:=Pn h.told (n:=64) Om fun p hp=>by obtain ⟨x,hx,_,rfl⟩:=h.tin p hp;have:=h.peer0 hx;omega
 omega
theorem OkN.knownL {n:NO} (h:OkN n):n.KN.length≤64:=by
 have:=Pn (l:=n.KN.map (·.PE)) (List.pairwise_map.2 h.kup) (n:=64) Om fun p hp=>by obtain ⟨k,hk,rfl⟩:=List.mem_map.1 hp;have:=h.kr k hk;omega
 rw [List.length_map] at this;omega
theorem xe {l:List Int} (h:l.Nodup) {n:Nat} (hr:∀x∈l,0≤x∧x<(n:Int)):l.length≤n:=by
 have hs:=FH l;have h1:∀(a b:List Int),a.Nodup→(∀x∈a,x∈b)→a.length≤b.length:=by
  intro a;induction a with
  | nil=>intro b _ _;simp
  | cons x a ih=>intro b ha hb;rw [List.nodup_cons] at ha;have h6:=hb x (by simp);have:=ih (b.erase x) ha.2 fun y hy=>(List.mem_erase_of_ne (fun e=>ha.1 (by rw [←e];exact hy))).2 (hb y (List.mem_cons_of_mem _ hy));rw [List.length_erase_of_mem h6] at this;have:=List.length_pos_of_mem h6;simp only [List.length_cons];omega
 have h2:=h1 l (Bm l) h fun x hx=>(hs.2 x).2 hx;have h3:=Pn hs.1 (n:=n) Om fun x hx=>hr x ((hs.2 x).1 hx);omega
theorem OkN.askedL {n:NO} (h:OkN n):n.AK.length≤64:=by
 have:=xe h.dis (n:=64) fun p hp=>by obtain ⟨k,hk,rfl⟩:=List.mem_map.1 hp;have:=h.may k hk;have:=h.id;omega
 rw [List.length_map] at this;exact this
theorem OkN.few {n:NO} (h:OkN n):FewN n:=by have h1:=h.needL;have h2:=h.toldL;have h3:=h.knownL;have h4:=h.askedL;have h5:=h.dr.din.len;have h6:=(Eh _).1 h.bk;have h7:=h6.len;exact ⟨Om,Om,Om,fun s hs=>by have:=cI (h6.ok s hs).nb;omega,Om,Om,Om⟩
theorem OkN.rowS {n:NO} (h:OkN n):RowS n.DK.DI.SD:=⟨by have:=h.dr.din.len;omega,h.dr.din.up,fun x hx=>by have:=h.peer0 hx;omega⟩
theorem OkN.rowK {n:NO} (h:OkN n):RowK n.KN:=⟨by have:=h.knownL;omega,h.kup,fun k hk=>by have:=h.kr k hk;omega⟩
theorem PN {K:List KE} (hu:K.Pairwise fun x y=>x.PE<y.PE) (h:∀k∈K,1≤k.EP∧k.EP≤65535) (p:Int):0≤BG K p∧BG K p≤65535:=by
 by_cases hx:∃k∈K,k.PE=p
 ·obtain ⟨k,hk,rfl⟩:=hx;rw [M9 hu hk];have:=h k hk;omega
 ·rw [UT fun k hk e=>hx ⟨k,hk,e⟩];omega
theorem Kb {S:List SX} (h:S.Pairwise fun x y=>x.PE<y.PE) {x y:SX} (hx:x∈S) (hy:y∈S) (e:x.PE=y.PE):x=y:=by
 induction S with
 | nil=>simp at hx
 | cons z S ih=>
   rw [List.pairwise_cons] at h;rcases List.mem_cons.1 hx with hx1 | hx1<;>rcases List.mem_cons.1 hy with hy1 | hy1
   ·rw [hx1,hy1]
   ·have:=h.1 y hy1;rw [←hx1] at this;omega
   ·have:=h.1 x hx1;rw [←hy1] at this;omega
   ·exact ih h.2 hx1 hy1
def IN (n:NO) (x:SX) (A:List KE):NO:=⟨⟨⟨n.DK.DI.ID,n.DK.DI.PH,D9 n.DK.DI.SD x⟩,n.DK.TH,n.DK.NE⟩,n.BK,CZ n.KN x.PE x.EP,n.TL,A⟩
theorem OkN.put {n:NO} (h:OkN n) {x:SX} {A:List KE} (hp:0≤x.PE∧x.PE<64∧x.PE≠n.DK.DI.ID) (hn:∀y∈n.DK.DI.SD,y.PE≠x.PE) (he:1≤x.EP∧x.EP≤65535)
  (hs:x.SS=0∨x.SS=1∧n.DK.DI.ID≤x.PE) (J:x.DY=true→x.FK=true) (E:∀k∈A,k∈n.AK∧k.PE≠x.PE) (hw:(A.map (·.PE)).Nodup):OkN (IN n x A):=by
 have h8:=h.id;have h6:=h.dr.din;have h9:(D9 n.DK.DI.SD x).Pairwise fun x y=>x.PE<y.PE:=V7 h.rowS.up rfl hn;refine ⟨⟨⟨h6.id0,h6.p0,h6.p2,?_,h9,fun y hy=>?_⟩,h.dr.t0,h.dr.t2,h.dr.up,h.dr.nz,fun p hp=>?_⟩,h.bk,fun k hk=>?_,hw,h8,Vh h.kup _ _,fun k hk=>?_,fun y hy=>?_,h.told,fun p hp=>?_,h.th,h.hq,fun y hy hB=>?_,fun s hs' h0 p hp=>?_⟩
 ·have:=Z1X (l:=(D9 n.DK.DI.SD x).map (·.PE)) (List.pairwise_map.2 h9) (n:=64) (id:=n.DK.DI.ID) ⟨h6.id0,h8⟩ fun p hp'=>by
   obtain ⟨y,hy,rfl⟩:=List.mem_map.1 hp';rcases FA.1 hy with rfl | hy
   ·exact hp
   ·exact h.peer0 hy
  rw [List.length_map] at this;show (D9 n.DK.DI.SD x).length<64;omega
 ·rcases FA.1 hy with rfl | hy
  ·exact ⟨hp.1,hp.2.2,Om,he.2,Om,Om,J⟩
  ·exact h6.side y hy
 ·obtain ⟨y,hy,e⟩:=h.dr.has p hp;exact ⟨y,FA.2 (.inr hy),e⟩
 ·obtain ⟨hk,hne⟩:=E k hk;have hm:=h.may k hk;refine ⟨fun y hy=>?_,hm.2.1,hm.2.2.1,?_,hm.2.2.2.2⟩
  ·rcases FA.1 hy with rfl | hy
   ·exact fun e=>hne e.symm
   ·exact hm.1 y hy
  ·show BG (CZ n.KN x.PE x.EP) k.PE<k.EP;rw [UU h.kup,if_neg hne];exact hm.2.2.2.1
 ·rcases cB h.kup hk with rfl | ⟨hk,_⟩
  ·exact ⟨hp.1,hp.2.1,he⟩
  ·exact h.kr k hk
 ·show y.PE<64∧1≤y.EP∧BG (CZ n.KN x.PE x.EP) y.PE=y.EP∧(y.SS=1∨y.SS=3→n.DK.DI.ID≤y.PE)
  rw [UU h.kup];rcases FA.1 hy with rfl | hy
  ·exact ⟨hp.2.1,he.1,if_pos rfl,fun _=>Om⟩
  ·rw [if_neg (hn y hy)];exact h.sd y hy
 ·obtain ⟨y,hy,e⟩:=h.tin p hp;exact ⟨y,FA.2 (.inr hy),e⟩
 ·rcases FA.1 hy with rfl | hy
  ·omega
  ·exact h.nl y hy hB
 ·obtain ⟨y,hy,e⟩:=h.wt s hs' h0 p hp;exact ⟨y,FA.2 (.inr hy),e⟩
theorem OkN.ans1:∀(A:List KE) (n:NO),OkN n→n.AK=A→OkN ⟨⟨⟨n.DK.DI.ID,n.DK.DI.PH,CW n.DK.DI.SD A⟩,n.DK.TH,n.DK.NE⟩,n.BK,DG n.KN A,n.TL,[]⟩
 | [],n,h,e=>by obtain ⟨d,b,k,t,a⟩:=n;dsimp only at e;subst e;exact h
 | k::A,n,h,e=>by have hm:=h.may k (by rw [e];simp);have hd:=h.dis;rw [e,List.map_cons,List.nodup_cons] at hd;have h6:=h.id;have h0:=PN h.kup (fun k hk=>(h.kr k hk).2.2) k.PE;have h1:OkN (IN n (D7 k) A):=h.put (x:=D7 k) ⟨hm.2.1,by show k.PE<64;omega,by show k.PE≠_;omega⟩ hm.1 ⟨by show 1≤k.EP;omega,hm.2.2.2.2⟩ (.inl rfl) (by simp [D7]) (fun q hq=>⟨by rw [e];simp [hq],fun eq=>hd.1 (List.mem_map.2 ⟨q,hq,eq⟩)⟩) hd.2;exact OkN.ans1 A (IN n (D7 k) A) h1 rfl
theorem OkN.ans {n:NO} (h:OkN n):OkN (AM n):=by
 unfold AM;split
 ·exact h
 ·exact OkN.ans1 n.AK n h rfl
theorem i6 {n:NO} (h:BkOK n.BK) {s:SE} {l:List SE} (hb:n.BK.SE=s::l):s.SS=1∨s.SS=0:=by have:=(h.ok s (by rw [hb];simp)).st;omega
theorem Z20 {n:NO} {s:SE} (h:Cx n=some s):∃l,n.BK.SE=s::l∧s.SS=0:=by
 unfold Cx at h;split at h
 ·simp at h
 ·rename_i s' l hb;split at h
  ·simp at h;subst h;exact ⟨l,hb,by assumption⟩
  ·simp at h
theorem OkN.thi {n:NO} (h:OkN n):OkN (BF n):=by
 unfold BF CM;cases hw:Cx n with
 | none=>exact h
 | some s=>
   dsimp only;split
   ·rename_i h0;obtain ⟨l,hb,hs⟩:=Z20 hw;have h6:=(Eh _).1 h.bk;have hm:s∈n.BK.SE:=by rw [hb];simp
    have hok:=h6.ok s hm;have hl:=h.wt s hm hs;refine {h with dr:=⟨h.dr.din,by show (0:Int)≤1;omega,by show (1:Int)≤2;omega,hok.up,fun e=>by simp at e,fun p hp=>?_⟩,th:=?_,hq:=.inr ?_,nl:=fun x hx hn e3=>?_}
    ·obtain ⟨x,hx,_,e⟩:=hl p hp;exact ⟨x,hx,e⟩
    ·have:Fv n=false:=by unfold Fv;rw [hb];simp [hs]
     show (1:Int)=2↔Fv n=true;rw [this];simp
    ·show (match n.BK.SE with | []=>false | s'::_=>decide (s'.NE=s.NE))=true;rw [hb];simp
    ·obtain ⟨y,hy,h8,e⟩:=hl x.PE hn;have:=Kb h.rowS.up hx hy e.symm;subst this;omega
   ·exact h
theorem uw {n:NO} (h:OkN n):0≤Fw n∧Fw n≤2:=by have h0:=h.dr.din.p0;have h2:=h.dr.din.p2;unfold Fw;split<;>omega
theorem OkN.hun {n:NO} (h:OkN n):OkN (BA n):=by have hp:=uw h;exact {h with dr:= {h.dr with din:= {h.dr.din with p0:=hp.1,p2:=hp.2}}}
theorem OkN.pre {n:NO} (h:OkN n):OkN (Bx n):=h.ans.thi.hun
theorem OkN.go {n:NO} (h:OkN n):GoN n:=by have h1:=h.dr.din.len;have h2:=h.askedL;have h3:=h.knownL;have h4:=(Eh _).1 h.bk;have h5:=h.toldL;have h6:=h.needL;have h8:=h.id;exact ⟨h.rowS,h.rowK,⟨fun k hk=>by have:=h.may k hk;omega,fun k hk=>(h.may k hk).1,h.dis⟩,Om,Om,(U5 _).2 h.pre.dr,h4.few,h.bk,Om,Om,fun s hs=>by have:=cI (h4.ok s hs).nb;omega⟩
def CP (x:SX):Int×Int×Int:=(x.PE,x.EP,x.SS)
def Em (d:DK) (x:SX):SX:=C2 (Ch d x) d.TH (BU (AC d) x)
theorem GU (d:DK):(Aw d).DI.SD=d.DI.SD.map (Em d):=by show Gc d=_;unfold Gc;rw [Hd,List.map_map];refine List.map_congr_left fun x _=>?_;show C2 (Ch d (BU (AC d) x)) d.TH _=C2 (Ch d x) d.TH _;rw [show Ch d (BU (AC d) x)=Ch d x by unfold Ch;rw [(Mb (AC d) x).1]]
theorem IT (d:DK) (x:SX):CP (Em d x)=CP x:=by obtain ⟨p1,p2,p3,_⟩:=Ki (Ch d x) d.TH (BU (AC d) x);obtain ⟨q1,q2,q3,_⟩:=Mb (AC d) x;unfold CP Em;rw [p1,p2,p3,q1,q2,q3]
theorem l7 (d:DK):Gd d=d.TH∨d.TH=1∧Gd d=2∧∀x∈(Aw d).DI.SD,x.PE∈d.NE→x.BO=true:=by
 unfold Gd;cases hh:decide (d.TH=1)&&(Gc d).all (fun x=>!Ch d x||x.BO) with
 | false=>left;rfl
 | true=>right;rw [Bool.and_eq_true,decide_eq_true_eq,List.all_eq_true] at hh;refine ⟨hh.1,rfl,fun x hx hn=>?_⟩;have:=hh.2 x hx;unfold Ch at this;simpa [hn] using this
structure FireR (a b:DK):Prop where
 id:b.DI.ID=a.DI.ID
 need:b.NE=a.NE
 core:b.DI.SD.map CP=a.DI.SD.map CP
 th:b.TH=a.TH∨a.TH=1∧b.TH=2
theorem FireR.refl (a:DK):FireR a a:=⟨rfl,rfl,rfl,.inl rfl⟩
theorem FireR.once {a b:DK} (h:FireR a b):FireR a (Aw b):=by
 refine ⟨h.id,h.need,?_,?_⟩
 ·rw [GU,List.map_map,←h.core];exact List.map_congr_left fun x _=>IT b x
 ·show Gd b=a.TH∨a.TH=1∧Gd b=2;have:=h.th;rcases l7 b with e | ⟨e1,e2,_⟩
  ·rw [e];exact this
  ·omega
theorem Md {P:DK→Prop} (hs:∀d,P d→P (Aw d)):∀(n:Nat) (d:DK) (out:List ML),P d→P (BZ n d out).1
 | 0,_,_,h=>h
 | n+1,d,out,h=>by
   unfold BZ;split
   ·exact h
   ·exact Md hs n _ _ (hs d h)
theorem Mc (d:DK):FireR d (Bo d).1:=Md (P:=FireR d) (fun _ h=>h.once) 300 d [] (FireR.refl d)
theorem HV {S S':List SX} (h:S'.map CP=S.map CP) {x:SX} (hx:x∈S'):∃y∈S,y.PE=x.PE∧y.EP=x.EP∧y.SS=x.SS:=by
 have:CP x∈S.map CP:=by rw [←h];exact List.mem_map_of_mem hx
 obtain ⟨y,hy,e⟩:=List.mem_map.1 this;unfold CP at e;simp only [Prod.mk.injEq] at e;exact ⟨y,hy,e⟩
theorem rg {S S':List SX} (h:S'.map CP=S.map CP):S'.map (·.PE)=S.map (·.PE):=by have:=congrArg (List.map fun c:Int×Int×Int=>c.1) h;rw [List.map_map,List.map_map] at this;exact this
theorem gA:∀(n:Nat) (d:DK) (out:List ML),Cc d.DI=true→mu d<n→Aw (BZ n d out).1=(BZ n d out).1
 | 0,_,_,_,h=>by omega
 | n+1,d,out,hk,h=>by
   have hp:=YA hk;unfold BZ;by_cases hq:Aw d=d
   ·rw [if_pos hq];exact hq
   ·rw [if_neg hq];rcases YE hp.1 hp.2 with h1 | h1
    ·exact absurd h1.1 hq
    ·exact gA n (Aw d) _ (d6 hk) Om
theorem td {d:DK} (h:Cc d.DI=true):Aw (Bo d).1=(Bo d).1:=gA 300 d [] h (by have:=jU h;omega)
theorem tc {d:DK} (h:Aw d=d):Bo d=(d,[]):=by unfold Bo BZ;rw [if_pos h]
theorem DrOK.once {d:DK} (h:DrOK d):DrOK (Aw d):=by have hk:=(Yz _).1 (d6 ((Yz _).2 h.din));have hr:=(FireR.refl d).once;have ht:=hr.th;have h0:=h.t0;have h2:=h.t2;refine ⟨hk,Om,Om,h.up,fun e=>h.nz Om,fun p hp=>?_⟩;obtain ⟨x,hx,e⟩:=h.has p hp;obtain ⟨y,hy,e1,_⟩:=HV hr.core.symm hx;exact ⟨y,hy,Om⟩
theorem DrOK.fire {d:DK} (h:DrOK d):DrOK (Bo d).1:=Md (P:=DrOK) (fun _ h=>h.once) 300 d [] h
def Cl (d:DK):Prop:=d.TH=2→∀x∈d.DI.SD,x.PE∈d.NE→x.BO=true
theorem sY (ph:Int) (x:SX):(Bj ph x).BO=x.BO∧(Bj ph x).Ask=x.Ask:=by unfold Bj D4;split<;>split<;>exact ⟨rfl,rfl⟩
theorem t7 (d:DI) (x:SX):(BU d x).BO=x.BO∧(BU d x).Ask=x.Ask:=by unfold BU;split<;>exact sY _ _
theorem um {d:DK} (h:Cl d):Cl (Aw d):=by
 intro h2 x hx hn;have h6:=hx;rw [GU] at hx;obtain ⟨y,hy,rfl⟩:=List.mem_map.1 hx;have h2:Gd d=2:=h2;rcases l7 d with e | ⟨_,_,e⟩
 ·have hd:d.TH=2:=by omega
  have hc:=IT d y;unfold CP at hc;simp only [Prod.mk.injEq] at hc;have hn:y.PE∈d.NE:=by rw [←hc.1];exact hn
  have hb:=h hd y hy hn;unfold Em C2 DM F4 Ch;rw [hd];simp [hn,(t7 (AC d) y).1,hb]
 ·exact e _ h6 hn
theorem uk {d:DK} (h:Cl d):Cl (Bo d).1:=Md (P:=Cl) (fun _ h=>um h) 300 d [] h
def LX (d:DK):Prop:=d.DI.PH≠0∧∃x∈d.DI.SD,x.SS=1
theorem qG {d:DK} (h:LX d):LX (Aw d):=by
 obtain ⟨h0,x,hx,h1⟩:=h;refine ⟨?_,?_⟩
 ·show (BV (AC d)).PH≠0;have hp:C5 d≠0:=by unfold C5;have:d.DI.SD.any (fun x=>decide (x.SS=1))=true:=List.any_eq_true.2 ⟨x,hx,by simpa using h1⟩;rw [this,DN h0];simp [h0]
  rcases UY (AC d) with ⟨e,_⟩ | ⟨_,e⟩
  ·rw [e];exact hp
  ·rw [e];omega
 ·obtain ⟨y,hy,_,_,e⟩:=HV ((FireR.refl d).once).core.symm hx;exact ⟨y,hy,Om⟩
theorem qF {d:DK} (h:LX d):LX (Bo d).1:=Md (P:=LX) (fun _ h=>qG h) 300 d [] h
def Km (d:DK):Prop:=d.DI.PH=2∧∃x∈d.DI.SD,x.SS=1
theorem sL {d:DK} (h:Km d):Km (Aw d):=by
 obtain ⟨h0,x,hx,h1⟩:=h;refine ⟨?_,?_⟩
 ·show (BV (AC d)).PH=2;have hp:C5 d=2:=by unfold C5;have:d.DI.SD.any (fun x=>decide (x.SS=1))=true:=List.any_eq_true.2 ⟨x,hx,by simpa using h1⟩;rw [this,h0];simp
  rcases UY (AC d) with ⟨e,_⟩ | ⟨_,e⟩
  ·rw [e];exact hp
  ·exact e
 ·obtain ⟨y,hy,_,_,e⟩:=HV ((FireR.refl d).once).core.symm hx;exact ⟨y,hy,Om⟩
theorem sK {d:DK} (h:Km d):Km (Bo d).1:=Md (P:=Km) (fun _ h=>sL h) 300 d [] h
def Lq (id:Int) (S:List SX) (m:ML):Prop:=m.From=id∧(∃x∈S,x.PE=m.To)∧m.Msg.Num=0
theorem fH {id:Int} {nd:Bool} {th:Int} {x:SX} {m:ML} (h:m∈Ct id nd th x):m.From=id∧m.To=x.PE∧m.Msg.Num=0:=by
 unfold Ct at h;rw [List.mem_append] at h;rcases h with h | h
 ·split at h
  ·simp at h;subst h;exact ⟨rfl,rfl,rfl⟩
  ·simp at h
 ·split at h
  ·simp at h;subst h;exact ⟨rfl,rfl,rfl⟩
  ·simp at h
theorem l3 {d:DK} {m:ML} (h:m∈Cq d):Lq d.DI.ID d.DI.SD m:=by
 unfold Cq at h;rw [List.mem_append] at h;rcases h with h | h
 ·unfold He at h;obtain ⟨x,hx,hm⟩:=List.mem_flatMap.1 h;obtain ⟨h1,h2,_,_,h3⟩:=gz hm;exact ⟨h1,⟨x,hx,h2.symm⟩,h3⟩
 ·obtain ⟨x,hx,hm⟩:=List.mem_flatMap.1 h;obtain ⟨h1,h2,h3⟩:=fH hm;rw [Hd] at hx;obtain ⟨y,hy,rfl⟩:=List.mem_map.1 hx;exact ⟨h1,⟨y,hy,by rw [h2,(Mb (AC d) y).1]⟩,h3⟩
theorem gC {id:Int} {S:List SX}:∀(n:Nat) (d:DK) (out:List ML),d.DI.ID=id→d.DI.SD.map CP=S.map CP→(∀m∈out,Lq id S m)→∀m∈(BZ n d out).2,Lq id S m
 | 0,_,_,_,_,h=>h
 | n+1,d,out,h1,h2,h=>by
   unfold BZ;split
   ·exact h
   ·refine gC n (Aw d) _ h1 ?_ fun m hm=>?_
    ·rw [GU,List.map_map,←h2];exact List.map_congr_left fun x _=>IT d x
    ·rcases List.mem_append.1 hm with hm | hm
     ·exact h m hm
     ·obtain ⟨q1,⟨x,hx,q2⟩,q3⟩:=l3 hm;obtain ⟨y,hy,e,_⟩:=HV h2 hx;exact ⟨Om,⟨y,hy,Om⟩,q3⟩
theorem te {d:DK}:∀m∈(Bo d).2,Lq d.DI.ID d.DI.SD m:=gC 300 d [] rfl rfl (by simp)
theorem aJ (n:NO):FX n=n.BK∧DX n=[]∨∃s l,n.BK.SE=s::l∧s.SS=0∧n.DK.TH=2∧FX n=⟨n.BK.LA,⟨s.ID,s.NE,1,s.Age⟩::l⟩∧DX n=[⟨1,n.DK.DI.ID,s.ID,0,[]⟩]:=by
 unfold FX DX Cx;cases hb:n.BK.SE with
 | nil=>left;exact ⟨rfl,rfl⟩
 | cons s l=>
   dsimp only;by_cases h0:s.SS=0
   ·rw [if_pos h0,if_pos h0];by_cases h2:n.DK.TH=2
    ·right;rw [if_pos h2];dsimp only;rw [if_pos h2];exact ⟨s,l,rfl,h0,h2,rfl,rfl⟩
    ·left;rw [if_neg h2];dsimp only;rw [if_neg h2];exact ⟨rfl,rfl⟩
   ·left;rw [if_neg h0,if_neg h0];exact ⟨rfl,rfl⟩
theorem BkOK.grant {b:BK} (h:BkOK b) {s:SE} {l:List SE} (e:b.SE=s::l):BkOK ⟨b.LA,⟨s.ID,s.NE,1,s.Age⟩::l⟩:=by
 have h1:=h.up;have h2:=h.len;have h3:=h.tl;rw [e] at h1 h2 h3;have hs:=h.ok s (by rw [e];simp);refine ⟨h.last,h2,?_,fun t ht=>?_,h3⟩
 ·rw [List.pairwise_cons] at h1 ⊢;exact h1
 ·rcases List.mem_cons.1 ht with rfl | ht
  ·exact {hs with st:=.inl rfl}
  ·exact h.ok t (by rw [e];exact List.mem_cons_of_mem _ ht)
theorem Hf (n:NO):PR n=true↔∃s l,n.BK.SE=s::l∧s.NE=n.DK.NE:=by
 unfold PR;split
 ·rename_i h;simp [h]
 ·rename_i s l h;rw [decide_eq_true_eq];constructor
  ·exact fun e=>⟨s,l,h,e⟩
  ·rintro ⟨s',l',h',e⟩;rw [h] at h';simp only [List.cons.injEq] at h';rw [h'.1];exact e
theorem EF (n:NO):Fv n=true↔∃s l,n.BK.SE=s::l∧s.SS=1:=by
 unfold Fv;split
 ·rename_i h;simp [h]
 ·rename_i s l h;rw [decide_eq_true_eq];constructor
  ·exact fun e=>⟨s,l,h,e⟩
  ·rintro ⟨s',l',h',e⟩;rw [h] at h';simp only [List.cons.injEq] at h';rw [h'.1];exact e
theorem OkN.thirsty {n:NO} (h:OkN n) (h1:n.DK.TH=1):∃s l,n.BK.SE=s::l∧s.SS=0∧s.NE=n.DK.NE:=by
 have hq:=h.hq;have h6:=(Eh _).1 h.bk;obtain ⟨s,l,hb,hn⟩:=(Hf n).1 (by rcases hq with hq | hq;omega;exact hq);refine ⟨s,l,hb,?_,hn⟩;rcases i6 h6 hb with e | e
 ·have:=h.th.2 ((EF n).2 ⟨s,l,hb,e⟩);omega
 ·exact e
theorem OkN.drinks {n:NO} (h:OkN n) (h1:n.DK.TH=2):∃s l,n.BK.SE=s::l∧s.SS=1∧s.NE=n.DK.NE:=by have hq:=h.hq;obtain ⟨s,l,hb,hn⟩:=(Hf n).1 (by rcases hq with hq | hq;omega;exact hq);obtain ⟨s',l',hb',hs⟩:=(EF n).1 (h.th.1 h1);rw [hb] at hb';simp only [List.cons.injEq] at hb';exact ⟨s,l,hb,by rw [hb'.1];exact hs,hn⟩
theorem OkN.nowait {n:NO} (h:OkN n) (h1:n.DK.TH=2):Cx n=none:=by obtain ⟨s,l,hb,hs,_⟩:=h.drinks h1;unfold Cx;rw [hb];dsimp only;rw [if_neg Om]
theorem OkN.firgra {m:NO} (h:OkN m):OkN (AG (BC m)):=by
 have hR:=Mc m.DK;have h9:=(Eh _).1 h.bk;have hd:=h.dr.fire;have h8:(AG (BC m)).DK.DI.ID=m.DK.DI.ID:=hR.id;have side:∀ {x:SX},x∈(AG (BC m)).DK.DI.SD→∃y∈m.DK.DI.SD,y.PE=x.PE∧y.EP=x.EP∧y.SS=x.SS:=fun hx=>HV hR.core hx;have edis:∀ {x:SX},x∈m.DK.DI.SD→∃y∈(AG (BC m)).DK.DI.SD,y.PE=x.PE∧y.EP=x.EP∧y.SS=x.SS:=fun hx=>HV hR.core.symm hx;have hg:=aJ (BC m);have hb':(AG (BC m)).BK=FX (BC m):=rfl;have ht':(AG (BC m)).DK.TH=(Bo m.DK).1.TH:=rfl;have hw:=hR.th;refine ⟨hd,?_,fun k hk=>?_,h.dis,by rw [h8];exact h.id,h.kup,h.kr,fun x hx=>?_,h.told,fun p hp=>?_,?_,?_,fun x hx hn=>?_,fun s hs h0 p hp=>?_⟩
 ·rw [hb',Eh];rcases hg with ⟨e,_⟩ | ⟨s,l,e1,_,_,e2,_⟩
  ·rw [e];exact h9
  ·rw [e2];exact h9.grant e1
 ·have hm:=h.may k hk;rw [h8];exact ⟨fun x hx=>by obtain ⟨y,hy,e,_⟩:=side hx;rw [←e];exact hm.1 y hy,hm.2⟩
 ·obtain ⟨y,hy,e1,e2,e3⟩:=side hx;have:=h.sd y hy;rw [h8,←e1,←e2,←e3];exact this
 ·obtain ⟨x,hx,h1,e⟩:=h.tin p hp;obtain ⟨y,hy,e1,_,e3⟩:=edis hx;exact ⟨y,hy,Om,Om⟩
 ·rw [EF,hb',ht'];constructor
  ·intro h2;rcases hg with ⟨e,_⟩ | ⟨s,l,e1,_,_,e2,_⟩
   ·rw [e];rcases hw with q | ⟨q1,_⟩
    ·exact (EF m).1 (h.th.1 Om)
    ·exfalso;obtain ⟨s,l,hb,hs,_⟩:=h.thirsty q1;have:FX (BC m)=⟨m.BK.LA,⟨s.ID,s.NE,1,s.Age⟩::l⟩:=by unfold FX;rw [show (BC m).BK.SE=s::l from hb];dsimp only;rw [if_pos hs,if_pos (show (BC m).DK.TH=2 from h2)];rfl
     rw [this] at e;have e:=congrArg BK.SE e;rw [show (BC m).BK.SE=s::l from hb] at e;simp only [List.cons.injEq] at e;have:=congrArg SE.SS e.1;simp only at this;omega
   ·rw [e2];exact ⟨_,l,rfl,rfl⟩
  ·rintro ⟨s',l',e',hs'⟩;rcases hg with ⟨e,_⟩ | ⟨s,l,e1,_,e3,_,_⟩
   ·rw [e] at e';have:=h.th.2 ((EF m).2 ⟨s',l',e',hs'⟩);omega
   ·exact e3
 ·rw [ht'];rcases h.hq with q | q
  ·left;omega
  ·right;obtain ⟨s,l,hb,hn⟩:=(Hf m).1 q;rw [Hf,hb'];have h6:(AG (BC m)).DK.NE=m.DK.NE:=hR.need;rw [h6];rcases hg with ⟨e,_⟩ | ⟨s',l',e1,_,_,e2,_⟩
   ·rw [e];exact ⟨s,l,hb,hn⟩
   ·rw [e2];have e1:m.BK.SE=s'::l':=e1;rw [hb] at e1;simp only [List.cons.injEq] at e1;exact ⟨_,l',rfl,by rw [←hn,e1.1]⟩
 ·have h6:(AG (BC m)).DK.NE=m.DK.NE:=hR.need;rw [h6] at hn;obtain ⟨y,hy,e1,_,e3⟩:=side hx;rw [←e3];rw [←e1] at hn;exact h.nl y hy hn
 ·rw [hb'] at hs;have hs':s∈m.BK.SE:=by
   rcases hg with ⟨e,_⟩ | ⟨s',l',e1,_,_,e2,_⟩
   ·rw [e] at hs;exact hs
   ·rw [e2] at hs;rcases List.mem_cons.1 hs with rfl | hs
    ·exact absurd h0 (by show ¬(1:Int)=0;omega)
    ·have e1:m.BK.SE=s'::l':=e1;rw [e1];exact List.mem_cons_of_mem _ hs
  obtain ⟨x,hx,e0,e⟩:=h.wt s hs' h0 p hp;obtain ⟨y,hy,e1,_,e3⟩:=edis hx;exact ⟨y,hy,Om,Om⟩
theorem eB (id:Int):∀(S:List SX) (T:List Int) (E:List ML) (p:Int),p∈(Ca id S T E).1↔p∈T∨∃x∈S,x.SS=1∧x.PE=p
 | [],T,E,p=>by simp [Ca]
 | x::S,T,E,p=>by
   have hs:=(FH (T++[x.PE])).2;unfold Ca;cases hu:Cw T x with
   | true=>
     rw [if_pos rfl,eB id S];unfold Cw EL at hu;rw [Bool.and_eq_true,decide_eq_true_eq] at hu;rw [hs,List.mem_append,List.mem_singleton];constructor
     ·rintro ((h | h) | ⟨y,hy,h⟩)
      ·exact .inl h
      ·exact .inr ⟨x,by simp,hu.1,h.symm⟩
      ·exact .inr ⟨y,List.mem_cons_of_mem _ hy,h⟩
     ·rintro (h | ⟨y,hy,h⟩)
      ·exact .inl (.inl h)
      ·rcases List.mem_cons.1 hy with rfl | hy
       ·exact .inl (.inr h.2.symm)
       ·exact .inr ⟨y,hy,h⟩
   | false=>
     rw [if_neg (by simp),eB id S];unfold Cw EL at hu;rw [Bool.and_eq_false_iff,decide_eq_false_iff_not,Bool.not_eq_false',decide_eq_true_eq] at hu;constructor
     ·rintro (h | ⟨y,hy,h⟩)
      ·exact .inl h
      ·exact .inr ⟨y,List.mem_cons_of_mem _ hy,h⟩
     ·rintro (h | ⟨y,hy,h⟩)
      ·exact .inl h
      ·rcases List.mem_cons.1 hy with rfl | hy
       ·rcases hu with hu | hu
        ·exact absurd h.1 hu
        ·rw [h.2] at hu;exact .inl hu
       ·exact .inr ⟨y,hy,h⟩
theorem eC (id:Int):∀(S:List SX) (T:List Int) (E:List ML),T.Pairwise (· < ·)→(Ca id S T E).1.Pairwise (· < ·)
 | [],T,E,h=>h
 | x::S,T,E,h=>by
   unfold Ca;split
   ·exact eC id S _ _ (FH _).1
   ·exact eC id S _ _ h
theorem ez (id:Int) (J:List SX):∀(S:List SX) (T:List Int) (E:List ML),(∀x∈S,x∈J)→(∀m∈E,Lq id J m)→∀m∈(Ca id S T E).2,Lq id J m
 | [],T,E,_,h=>h
 | x::S,T,E,hS,h=>by
   unfold Ca;split
   ·refine ez id J S _ _ (fun y hy=>hS y (List.mem_cons_of_mem _ hy)) fun m hm=>?_;rcases List.mem_append.1 hm with hm | hm
    ·exact h m hm
    ·simp at hm;subst hm;exact ⟨rfl,⟨x,hS x (by simp),rfl⟩,rfl⟩
   ·exact ez id J S _ _ (fun y hy=>hS y (List.mem_cons_of_mem _ hy)) h
theorem o0 (id:Int):∀(S:List SX) (T:List Int) (E:List ML),(∀x∈S,Cw T x=false)→Ca id S T E=(T,E)
 | [],T,E,_=>rfl
 | x::S,T,E,h=>by unfold Ca;rw [h x (by simp),if_neg (by simp)];exact o0 id S T E fun y hy=>h y (List.mem_cons_of_mem _ hy)
theorem Zl (n:NO) (p:Int):p∈(Cv n).1↔p∈n.TL∨n.DK.DI.PH=2∧∃x∈n.DK.DI.SD,x.SS=1∧x.PE=p:=by
 unfold Cv;split
 ·rename_i h;rw [eB];simp [h]
 ·rename_i h;simp [h]
theorem OkN.tel {m:NO} (h:OkN m):OkN (BT m):=by
 refine {h with told:=?_,tin:=fun p hp=>?_}
 ·show (Cv m).1.Pairwise _;unfold Cv;split
  ·exact eC _ _ _ _ h.told
  ·exact h.told
 ·rcases (Zl m p).1 hp with hp | ⟨_,hp⟩
  ·exact h.tin p hp
  ·exact hp
theorem TR {id th:Int} {N:List Int} {S:List SX} {x:SX} (h:x∈AR id th N S):∃y∈S,(x=y∧C0 th N y=false)∨(C0 th N y=true∧id<y.PE∧x={y with SS:=3}):=by
 obtain ⟨y,hy,e⟩:=List.mem_filterMap.1 h;refine ⟨y,hy,?_⟩;unfold Dp at e;cases hg:C0 th N y with
 | false=>rw [hg,if_neg (by simp)] at e;simp at e;exact .inl ⟨e.symm,rfl⟩
 | true=>
   rw [hg,if_pos rfl] at e;split at e
   ·simp at e;exact .inr ⟨rfl,by assumption,e.symm⟩
   ·simp at e
theorem wR {id th:Int} {N:List Int} {S:List SX} {y:SX} (h:y∈S) (hg:C0 th N y=false):y∈AR id th N S:=List.mem_filterMap.2 ⟨y,h,by unfold Dp;rw [hg,if_neg (by simp)]⟩
theorem aH {th:Int} {N:List Int} {x:SX} (h:C0 th N x=true):x.SS=2:=by unfold C0 at h;rw [Bool.and_eq_true,decide_eq_true_eq] at h;exact h.1
theorem aG {th:Int} {N:List Int} {x:SX} (h:x.SS≠2):C0 th N x=false:=by unfold C0;rw [DN h];rfl
theorem OkN.needed {m:NO} (h:OkN m) {x:SX} (hx:x∈m.DK.DI.SD) (hn:x.PE∈m.DK.NE):C0 m.DK.TH m.DK.NE x=false:=by
 cases hg:C0 m.DK.TH m.DK.NE x with
 | false=>rfl
 | true=>
   exfalso;have h2:=aH hg;unfold C0 at hg;rw [DT h2,DT hn] at hg;simp at hg;have h0:=h.dr.t0;have ht:=h.dr.t2;have hz:m.DK.TH≠0:=fun e=>by rw [h.dr.nz e] at hn;simp at hn
   obtain ⟨s,l,hb,hs,e⟩:=h.thirsty Om;obtain ⟨y,hy,h6,ey⟩:=h.wt s (by rw [hb];simp) hs x.PE (by rw [e];exact hn);have:=Kb h.rowS.up hx hy ey.symm;subst this;omega
theorem OkN.lea {m:NO} (h:OkN m):OkN (Dn m):=by
 have h8:∀ {x:SX},x∈(Dn m).DK.DI.SD→∃y∈m.DK.DI.SD,(x=y∧C0 m.DK.TH m.DK.NE y=false)∨(C0 m.DK.TH m.DK.NE y=true∧m.DK.DI.ID<y.PE∧x={y with SS:=3}):=fun hx=>TR hx;have hd:∀ {x:SX},x∈(Dn m).DK.DI.SD→∃y∈m.DK.DI.SD,x.PE=y.PE:=fun hx=>by
  obtain ⟨y,hy,(⟨rfl,_⟩ | ⟨_,_,rfl⟩)⟩:=h8 hx
  ·exact ⟨_,hy,rfl⟩
  ·exact ⟨y,hy,rfl⟩
 have h9:∀ {y:SX},y∈m.DK.DI.SD→C0 m.DK.TH m.DK.NE y=false→y∈(Dn m).DK.DI.SD:=fun hy hg=>wR hy hg;have h6:=h.dr.din;refine ⟨⟨⟨h6.id0,h6.p0,h6.p2,?_,?_,fun x hx=>?_⟩,h.dr.t0,h.dr.t2,h.dr.up,h.dr.nz,fun p hp=>?_⟩,h.bk,fun k hk=>⟨fun x hx=>?_,(h.may k hk).2⟩,h.dis,h.id,h.kup,h.kr,fun x hx=>?_,h.told,fun p hp=>?_,h.th,h.hq,fun x hx hn=>?_,fun s hs h0 p hp=>?_⟩
 ·have:=ji m.DK.DI.ID m.DK.TH m.DK.NE m.DK.DI.SD;have:=h6.len;show (AR _ _ _ _).length<64;omega
 ·show (AR _ _ _ _).Pairwise _;unfold AR;rw [List.pairwise_filterMap];refine h6.up.imp fun {a b} hab y hy z hz=>?_;have e:∀ {a y:SX},Dp m.DK.DI.ID m.DK.TH m.DK.NE a=some y→y.PE=a.PE:=by
   intro a y hy;unfold Dp at hy;split at hy
   ·split at hy
    ·simp at hy;subst hy;rfl
    ·simp at hy
   ·simp at hy;subst hy;rfl
  rw [e hy,e hz];exact hab
 ·obtain ⟨y,hy,(⟨rfl,_⟩ | ⟨_,_,rfl⟩)⟩:=h8 hx
  ·exact h6.side _ hy
  ·have:=h6.side y hy;exact ⟨this.lo,this.ne,this.e0,this.e1,by show (0:Int)≤3;omega,by show (3:Int)≤3;omega,this.df⟩
 ·obtain ⟨x,hx,e⟩:=h.dr.has p hp;exact ⟨x,h9 hx (h.needed hx (by rw [e];exact hp)),e⟩
 ·obtain ⟨y,hy,e⟩:=hd hx;rw [e];exact (h.may k hk).1 y hy
 ·obtain ⟨y,hy,(⟨rfl,_⟩ | ⟨_,hi,rfl⟩)⟩:=h8 hx
  ·exact h.sd _ hy
  ·have:=h.sd y hy;exact ⟨this.1,this.2.1,this.2.2.1,fun _=>by show m.DK.DI.ID≤y.PE;omega⟩
 ·obtain ⟨x,hx,h1,e⟩:=h.tin p hp;exact ⟨x,h9 hx (aG Om),h1,e⟩
 ·obtain ⟨y,hy,(⟨rfl,_⟩ | ⟨hg,_,rfl⟩)⟩:=h8 hx
  ·exact h.nl _ hy hn
  ·have:=h.needed hy hn;rw [hg] at this;simp at this
 ·obtain ⟨x,hx,e0,e⟩:=h.wt s hs h0 p hp;exact ⟨x,h9 hx (aG Om),e0,e⟩
theorem OkN.once {n:NO} (h:OkN n):OkN (onceN n):=h.pre.firgra.tel.lea
theorem oQ (x y:KE):(decide (x.PE=y.PE)&&(decide (x.EP=y.EP)&&true))=decide (x=y):=by obtain ⟨a,b⟩:=x;obtain ⟨c,d⟩:=y;simp only [KE.mk.injEq,Bool.and_true];by_cases h1:a=c<;>by_cases h2:b=d<;>simp [h1,h2]
theorem m9 (l m:List KE) (hl:l.length≤1000000):Oi l m=some (decide (l=m)):=by
 simp only [Oi,Mz];by_cases h:l.length=m.length
 ·simp only [h,decide_true,Bool.not_true,A1];rw [MA l m _ (fun x y=>decide (x=y)) h Om (fun k x y hx hy=>by simp only [XF,Ay hx,A3,Aj hx,Aj hy,OB,oQ,Di hx (show l.length≤4000000000000000000 by omega),Jl];cases decide (x=y)<;>rfl) (by simp only [XF,AB,A1,XE,Option.map_some]),LK l m h]
 ·simp [h,My h]
theorem Z0p (x y:SE) (hx:x.NE.length≤1000000):NY x y=some (decide (x=y)):=by obtain ⟨i,n,s,a⟩:=x;obtain ⟨i',n',s',a'⟩:=y;simp only at hx;simp only [NY,Le,YU n n' hx,OB,SE.mk.injEq];by_cases h1:i=i'<;>by_cases h2:s=s'<;>by_cases h3:a=a'<;>by_cases h4:n=n'<;>simp [h1,h2,h3,h4]
theorem Z0o (b c:BK) (hb:F1 b):SR b c=some (decide (b=c)):=by
 obtain ⟨L,l⟩:=b;obtain ⟨L',m⟩:=c;have h1:l.length≤1000000:=hb.1;have h2:∀s∈l,s.NE.length≤1000000:=hb.2;have e:Tp l m (fun z=>NY z.1 z.2)=some (decide (l=m)):=by
  simp only [Tp,Mz];by_cases h:l.length=m.length
  ·simp only [h,decide_true,Bool.not_true,A1];rw [MA l m _ (fun x y=>decide (x=y)) h Om (fun k x y hx hy=>by have hm:=h2 x (List.mem_of_getElem? hx);simp only [XD,Ay hx,A3,Aj hx,Aj hy,OB,Z0p x y hm,Di hx (show l.length≤4000000000000000000 by omega),Jl];cases decide (x=y)<;>rfl) (by simp only [XD,AB,A1,XC,Option.map_some]),LK l m h]
  ·simp [h,My h]
 simp only [SR,SU,e,OB,BK.mk.injEq];by_cases q1:L=L'<;>by_cases q2:l=m<;>simp [q1,q2]
theorem mA (a b:NO) (h:FewN a):Ip a b=some (decide (a=b)):=by have h1:=h.sides;have h2:=h.need;have h3:=h.told;have h4:=h.known;have h5:=h.asked;obtain ⟨d,k,K,T,A⟩:=a;obtain ⟨d',k',K',T',A'⟩:=b;simp only at h1 h2 h3 h4 h5;simp only [Ip,JK,mo d d' Om Om,Z0o k k' h.bk,m9 K K' Om,m9 A A' Om,YU T T' Om,OB,NO.mk.injEq];by_cases q1:d=d'<;>by_cases q2:k=k'<;>by_cases q3:K=K'<;>by_cases q4:T=T'<;>by_cases q5:A=A'<;>simp [q1,q2,q3,q4,q5]
theorem HF (l:List KE) (h:l.length≤1000000):Et l=some l:=by simp only [Et];rw [B0 _ _ Om (by simp;omega),List.nil_append]
theorem Z0g (n:NO) (a b c d:Int) (h:FewN n):NM a b c d n.BK.SE n.TL n.DK.DI.SD n.DK.NE n.KN n.AK=some (n.DK.DI.SD,n.DK.NE,n.KN,n.TL,n.AK,n.BK.SE):=by
 have h1:=h.sides;have h2:=h.need;have h3:=h.told;have h4:=h.known;have h5:=h.asked;have h6:=h.book;dsimp only [NM,Xb,Xc];rw [HG _ Om,OB,EN _ Om,OB,HF _ Om,OB,EN _ Om,OB,HF _ Om,OB,Ud _ Om,OB];refine CK n.BK.SE _ (fun pre=>((pre.length:Int),n.BK.SE)) _ (fun pre x post h0=>?_) ?_
 ·have hx:=Br h0;have hm:=Bp h0;have hN:=h.needs x (Dt h0);dsimp only [Xf,Xe];rw [Ay hx,A3,Aj hx,OB,EN _ Om,OB,Al Om,Int.toNat_natCast,LD hx,AN]
 ·dsimp only [Xf,Xd];rw [AB,A1];rfl
theorem mC (n:NO) (h:FewN n):NL n=some (n.DK.DI.SD,n.DK.NE,n.KN,n.TL,n.AK,n.BK.SE):=by
 have h1:=h.sides;have h2:=h.need;have h3:=h.told;have h4:=h.known;have h5:=h.asked;have h6:=h.book;dsimp only [NL,X6,X7];rw [HG _ Om,OB,EN _ Om,OB,HF _ Om,OB,EN _ Om,OB,HF _ Om,OB,Ud _ Om,OB];refine CK n.BK.SE _ (fun pre=>((pre.length:Int),n.BK.SE)) _ (fun pre x post h0=>?_) ?_
 ·have hx:=Br h0;have hm:=Bp h0;have hN:=h.needs x (Dt h0);dsimp only [Xa,X9];rw [Ay hx,A3,Aj hx,OB,EN _ Om,OB,Al Om,Int.toNat_natCast,LD hx,AN]
 ·dsimp only [Xa,X8];rw [AB,A1];rfl
structure Quiet (n:NO):Prop where
 ask:n.DK.DI.PH=2∨n.AK=[]
 thi:Cx n=none∨n.DK.TH≠0
 hun:n.DK.DI.PH≠0∨n.DK.DI.SD.any (Cw n.TL)=false
 fire:Aw n.DK=n.DK
 tel:n.DK.DI.PH≠2∨n.DK.DI.SD.any (Cw n.TL)=false
 lea:n.DK.DI.SD.any (C0 n.DK.TH n.DK.NE)=false
theorem Quiet.pre {n:NO} (h:Quiet n):Bx n=n∧AM n=n∧DH n=[]∧Kg n=[]:=by
 obtain ⟨⟨⟨id,ph,S⟩,th,N⟩,B,K,T,A⟩:=n;have ha:=h.ask;have ht:=h.thi;have hh:=h.hun;simp only at ha ht hh;have e1:AM ⟨⟨⟨id,ph,S⟩,th,N⟩,B,K,T,A⟩=⟨⟨⟨id,ph,S⟩,th,N⟩,B,K,T,A⟩∧DH ⟨⟨⟨id,ph,S⟩,th,N⟩,B,K,T,A⟩=[]∧Kg ⟨⟨⟨id,ph,S⟩,th,N⟩,B,K,T,A⟩=[]:=by
  unfold AM DH Kg;dsimp only;split
  ·exact ⟨rfl,rfl,rfl⟩
  ·rename_i h2;rcases ha with ha | ha
   ·exact absurd ha h2
   ·subst ha;exact ⟨rfl,rfl,rfl⟩
 have e2:BF ⟨⟨⟨id,ph,S⟩,th,N⟩,B,K,T,A⟩=⟨⟨⟨id,ph,S⟩,th,N⟩,B,K,T,A⟩:=by
  unfold BF CM;split
  ·rename_i s hw;rcases ht with ht | ht
   ·rw [hw] at ht;simp at ht
   ·dsimp only;rw [if_neg ht]
  ·rfl
 have e3:BA ⟨⟨⟨id,ph,S⟩,th,N⟩,B,K,T,A⟩=⟨⟨⟨id,ph,S⟩,th,N⟩,B,K,T,A⟩:=by
  unfold BA Fw;dsimp only;rcases hh with hh | hh
  ·rw [DN hh];rfl
  ·rw [hh,Bool.and_false];rfl
 unfold Bx;rw [e1.1,e2,e3];exact ⟨rfl,rfl,e1.2⟩
theorem ZL {α:Type} {l:List α} {q:α→Bool} (h:l.any q=false):∀x∈l,q x=false:=by rw [List.any_eq_false] at h;intro x hx;simpa using h x hx
theorem Quiet.once {n:NO} (hk:OkN n) (h:Quiet n):onceN n=n∧Dg n=[]∧EK n=[]:=by
 obtain ⟨p1,p2,p3,p4⟩:=h.pre;have hf:=tc h.fire;have hm:AS n=n:=by unfold AS;rw [p1];unfold BC;rw [hf]
 have hg:AG n=n∧DX n=[]:=by
  rcases aJ n with ⟨e1,e2⟩ | ⟨s,l,e1,e2,e3,_⟩
  ·exact ⟨by unfold AG;rw [e1],e2⟩
  ·exfalso;have:=hk.nowait e3;unfold Cx at this;rw [e1] at this;dsimp only at this;rw [if_pos e2] at this;simp at this
 have ht:BT n=n∧(Cv n).2=[]:=by
  have:Cv n=(n.TL,[]):=by
   unfold Cv;split
   ·rename_i h2;rcases h.tel with q | q
    ·exact absurd h2 q
    ·exact o0 _ _ _ _ (ZL q)
   ·rfl
  unfold BT;rw [this];exact ⟨rfl,rfl⟩
 have hl:=bz (id:=n.DK.DI.ID) (ZL h.lea);have h6:Dn n=n:=by unfold Dn;rw [hl.1]
 unfold onceN Dg EK E3;rw [hm,hg.1,ht.1,h6,p1,p3,p4,hg.2,ht.2,hf,hl.2];exact ⟨rfl,rfl,rfl⟩
theorem H5 (n:NO):(AM n).TL=n.TL∧(AM n).BK=n.BK∧(AM n).DK.TH=n.DK.TH∧(AM n).DK.NE=n.DK.NE∧(AM n).DK.DI.ID=n.DK.DI.ID∧(AM n).DK.DI.PH=n.DK.DI.PH:=by unfold AM;split<;>exact ⟨rfl,rfl,rfl,rfl,rfl,rfl⟩
theorem fx {n:NO} {x:SX} (h:x∈(AM n).DK.DI.SD):x∈n.DK.DI.SD∨∃k∈n.AK,x=D7 k:=by
 unfold AM at h;split at h
 ·exact .inl h
 ·exact UD.1 h
theorem ZJ {n:NO} {x:SX} (h:x∈n.DK.DI.SD):x∈(AM n).DK.DI.SD:=by
 unfold AM;split
 ·exact h
 ·exact UD.2 (.inl h)
theorem eE (n:NO):(BF n).DK.DI=n.DK.DI:=by
 show (CM n).DI=_;unfold CM;split
 ·split<;>rfl
 ·rfl
theorem dh (n:NO):(Bx n).DK.DI.SD=(AM n).DK.DI.SD:=by show (BF (AM n)).DK.DI.SD=_;rw [eE]
theorem YL (n:NO):(Bx n).DK.DI.ID=n.DK.DI.ID:=by show (BF (AM n)).DK.DI.ID=_;rw [eE];exact (H5 n).2.2.2.2.1
theorem Z1Z (n:NO):Cx (AM n)=Cx n:=by unfold Cx;rw [(H5 n).2.1]
theorem lx (n:NO):(Bx n).DK.DI.PH=if decide (n.DK.DI.PH=0)&&(AM n).DK.DI.SD.any (Cw n.TL) then 1 else n.DK.DI.PH:=by show Fw (BF (AM n))=_;unfold Fw;rw [eE,(H5 n).2.2.2.2.2,show (BF (AM n)).TL=n.TL from (H5 n).1]
theorem ly (n:NO):(Cx n=none∨n.DK.TH≠0)∧(Bx n).DK.TH=n.DK.TH∧(Bx n).DK.NE=n.DK.NE∨n.DK.TH=0∧∃s,Cx n=some s∧(Bx n).DK.TH=1∧(Bx n).DK.NE=s.NE:=by
 have e1:(Bx n).DK.TH=(CM (AM n)).TH:=rfl;have e2:(Bx n).DK.NE=(CM (AM n)).NE:=rfl;rw [e1,e2];unfold CM;rw [Z1Z,(H5 n).2.2.1];cases hw:Cx n with
 | none=>left;exact ⟨.inl rfl,(H5 n).2.2.1,(H5 n).2.2.2.1⟩
 | some s=>
   by_cases h0:n.DK.TH=0
   ·right;dsimp only;rw [if_pos h0];exact ⟨h0,s,rfl,rfl,rfl⟩
   ·left;dsimp only;rw [if_neg h0];exact ⟨.inr h0,(H5 n).2.2.1,(H5 n).2.2.2.1⟩
theorem jQ {n:NO} {x:SX} (h:x∈(AS n).DK.DI.SD):∃y∈(AM n).DK.DI.SD,y.PE=x.PE∧y.EP=x.EP∧y.SS=x.SS:=by have:=HV (Mc (Bx n).DK).core h;rw [dh] at this;exact this
theorem xC {n:NO} {x:SX} (h:x∈(onceN n).DK.DI.SD):∃y∈(AM n).DK.DI.SD,y.PE=x.PE∧y.EP=x.EP∧(y.SS=x.SS∨y.SS=2∧x.SS=3):=by
 obtain ⟨z,hz,hq⟩:=TR h;obtain ⟨y,hy,e1,e2,e3⟩:=jQ (n:=n) hz;refine ⟨y,hy,?_⟩;rcases hq with ⟨rfl,_⟩ | ⟨hg,_,rfl⟩
 ·exact ⟨e1,e2,.inl e3⟩
 ·exact ⟨e1,e2,.inr ⟨by rw [e3];exact aH hg,rfl⟩⟩
theorem Z1V {n:NO} {p:Int} (h:p∈n.TL):p∈(onceN n).TL:=(Zl (AG (AS n)) p).2 (.inl (by show p∈(AM n).TL;rw [(H5 n).1];exact h))
theorem d7 {n:NO} (h:(onceN n).DK.DI.SD.any (Cw (onceN n).TL)=true):∃z∈n.DK.DI.SD,Cw n.TL z=true:=by
 obtain ⟨x,hx,hu⟩:=List.any_eq_true.1 h;unfold Cw EL at hu ⊢;simp only [Bool.and_eq_true,decide_eq_true_eq,Bool.not_eq_true',decide_eq_false_iff_not] at hu ⊢;obtain ⟨y,hy,e1,e2,e3⟩:=xC hx;rcases fx hy with hy | ⟨k,_,rfl⟩
 ·exact ⟨y,hy,Om,fun hm=>hu.2 (by rw [←e1];exact Z1V hm)⟩
 ·exfalso;have:(D7 k).SS=0:=rfl;omega
def Ka (th:Int):Nat:=if th=0 then 2 else if th=1 then 1 else 0
def I2 (n:NO):Bool:=n.DK.DI.SD.any (C0 n.DK.TH n.DK.NE)
def FN (n:NO):Bool:=n.DK.DI.SD.any (Cw n.TL)
def OD (n:NO):Nat:=bn (!n.AK.isEmpty)+Ka n.DK.TH+bn (decide (n.DK.DI.PH=0)&&FN n)+bn (!decide (Aw n.DK=n.DK))+bn (FN n)+2*bn (I2 n)
theorem LW (b:Bool):bn b≤1:=by cases b<;>simp [bn]
theorem qw {a b:Bool} (h:a=true→b=true):bn a≤bn b:=by
 cases a with
 | false=>simp [bn]
 | true=>rw [h rfl];exact Nat.le_refl _
theorem UH {a:Bool} (h:a=false):bn a=0:=by rw [h];rfl
theorem fF {a:Bool} (h:a=true):bn a=1:=by rw [h];rfl
theorem l8 (n:NO):(onceN n).AK=if n.DK.DI.PH=2 then n.AK else []:=by show (AM n).AK=_;unfold AM;split<;>rfl
theorem xx (n:NO):I2 (onceN n)=false:=by unfold I2;rw [List.any_eq_false];intro x hx;have:=jk _ _ _ _ x hx;rw [show (onceN n).DK.TH=(BT (AG (AS n))).DK.TH from rfl,show (onceN n).DK.NE=(BT (AG (AS n))).DK.NE from rfl,this];simp
theorem xE (n:NO) (h:OkN n):(Ka (onceN n).DK.TH≤Ka n.DK.TH)∧((Cx n=none∨n.DK.TH≠0)∨Ka (onceN n).DK.TH<Ka n.DK.TH):=by
 have hR:=(Mc (Bx n).DK).th;have e:(onceN n).DK.TH=(Bo (Bx n).DK).1.TH:=rfl;have h0:=h.dr.t0;have h2:=h.dr.t2;rw [e];unfold Ka;rcases ly n with ⟨q1,q2,_⟩ | ⟨q1,s,_,q2,_⟩
 ·refine ⟨?_,.inl q1⟩
  (repeat' split)<;>omega
 ·refine ⟨?_,.inr ?_⟩<;>(repeat' split)<;>omega
theorem xb {n:NO} (hg:I2 n=false):∀x∈(AS n).DK.DI.SD,C0 (AS n).DK.TH (AS n).DK.NE x=false:=by
 intro x hx;by_cases h2:x.SS=2
 ·obtain ⟨y,hy,e1,_,e3⟩:=jQ hx;rcases fx hy with hy | ⟨k,_,rfl⟩
  ·have:=ZL hg y hy;unfold C0 at this ⊢;rw [DT (show y.SS=2 by omega),Bool.true_and,Bool.not_eq_false',Bool.and_eq_true,decide_eq_true_eq,decide_eq_true_eq] at this;have hR:=Mc (Bx n).DK;have h9:=hR.th;have h6:(AS n).DK.NE=(Bx n).DK.NE:=hR.need;have h8:(AS n).DK.TH=(Bo (Bx n).DK).1.TH:=rfl;rcases ly n with ⟨_,q2,q3⟩ | ⟨q1,_⟩
   ·rw [h6,q3,h8,DT (show (Bo (Bx n).DK).1.TH=2 by omega),←e1,DT this.2];simp
   ·omega
  ·exfalso;have:(D7 k).SS=0:=rfl;omega
 ·exact aG h2
theorem xw {n:NO} (h:OkN n) (hg:I2 n=false):Aw (onceN n).DK=(onceN n).DK:=by
 have hc:=bz (id:=(AS n).DK.DI.ID) (xb hg);have e:(onceN n).DK=(AS n).DK:=by show (⟨⟨(AS n).DK.DI.ID,(AS n).DK.DI.PH,AR (AS n).DK.DI.ID (AS n).DK.TH (AS n).DK.NE (AS n).DK.DI.SD⟩,(AS n).DK.TH,(AS n).DK.NE⟩:DK)=_;rw [hc.1]
 rw [e];exact td ((Yz _).2 h.pre.dr.din)
theorem xz {n:NO} (hu:FN (onceN n)=true):(onceN n).DK.DI.PH≠0:=by
 obtain ⟨z,hz,hz'⟩:=d7 hu;have hs:z.SS=1:=by unfold Cw EL at hz';rw [Bool.and_eq_true,decide_eq_true_eq] at hz';exact hz'.1
 have hb:LX (Bx n).DK:=by
  refine ⟨?_,z,by rw [dh];exact ZJ hz,hs⟩;rw [lx];split
  ·omega
  ·rename_i hc;intro e;exact hc (by rw [DT e,Bool.true_and];exact List.any_eq_true.2 ⟨z,ZJ hz,hz'⟩)
 exact (qF hb).1
theorem yl {n:NO} (h:Km n.DK):Km (Bx n).DK:=by obtain ⟨h1,x,hx,h2⟩:=h;refine ⟨?_,x,by rw [dh];exact ZJ hx,h2⟩;rw [lx,DN Om];exact h1
theorem xD {n:NO} (hp:n.DK.DI.PH=2):FN (onceN n)=false:=by
 cases hu:FN (onceN n) with
 | false=>rfl
 | true=>
   exfalso;obtain ⟨x,hx,h6⟩:=List.any_eq_true.1 hu;obtain ⟨z,hz,hz'⟩:=d7 hu;have hs:z.SS=1:=by unfold Cw EL at hz';rw [Bool.and_eq_true,decide_eq_true_eq] at hz';exact hz'.1
   have he:=sK (yl (n:=n) ⟨hp,z,hz,hs⟩);unfold Cw EL at h6;simp only [Bool.and_eq_true,decide_eq_true_eq,Bool.not_eq_true',decide_eq_false_iff_not] at h6;refine h6.2 ?_;refine (Zl (AG (AS n)) x.PE).2 (.inr ⟨he.1,?_⟩);obtain ⟨y,hy,hq⟩:=TR hx;rcases hq with ⟨rfl,_⟩ | ⟨_,_,rfl⟩
   ·exact ⟨_,hy,h6.1,rfl⟩
   ·exact absurd h6.1 (by show ¬(3:Int)=1;omega)
theorem lc {n:NO} (h:OkN n):Quiet n∨OD (onceN n)<OD n:=by
 have a1:bn (!(onceN n).AK.isEmpty)≤bn (!n.AK.isEmpty):=by
  rw [l8];split
  ·exact Nat.le_refl _
  ·simp [bn]
 have a2:=xE n h;have a3:bn (decide ((onceN n).DK.DI.PH=0)&&FN (onceN n))=0:=UH (by
  cases hu:FN (onceN n) with
  | false=>simp
  | true=>rw [DN (xz hu)];rfl)
 have a4:bn (FN (onceN n))≤bn (FN n):=qw fun hu=>by obtain ⟨z,hz,hz'⟩:=d7 hu;exact List.any_eq_true.2 ⟨z,hz,hz'⟩
 have a5:bn (I2 (onceN n))=0:=UH (xx n);have a6:=LW (!decide (Aw (onceN n).DK=(onceN n).DK));have a7:I2 n=false→bn (!decide (Aw (onceN n).DK=(onceN n).DK))=0:=fun hg=>UH (by rw [DT (xw h hg)];rfl);unfold OD;cases hg:I2 n with
 | true=>right;rw [show bn true=1 from rfl,a3,a5];omega
 | false=>
   rw [a7 hg,a3,a5,show bn false=0 from rfl];by_cases c1:n.DK.DI.PH=2∨n.AK=[]
   ·by_cases c2:Cx n=none∨n.DK.TH≠0
    ·cases c3:decide (n.DK.DI.PH=0)&&FN n with
     | true=>right;rw [show bn true=1 from rfl];omega
     | false=>
       by_cases c4:Aw n.DK=n.DK
       ·by_cases c5:n.DK.DI.PH=2∧FN n=true
        ·right;rw [fF c5.2,UH (xD c5.1)];omega
        ·left;refine ⟨c1,c2,?_,c4,?_,hg⟩
         ·rw [Bool.and_eq_false_iff,decide_eq_false_iff_not] at c3;exact c3
         ·by_cases hp:n.DK.DI.PH=2
          ·right;cases hu:n.DK.DI.SD.any (Cw n.TL) with
           | false=>rfl
           | true=>exact absurd ⟨hp,hu⟩ c5
          ·exact .inl hp
       ·right;rw [DN c4,show bn (!false)=1 from rfl];omega
    ·right;rcases a2.2 with q | q
     ·exact absurd q c2
     ·omega
   ·right;have c1:=not_or.1 c1;rw [l8,if_neg c1.1];have:bn (!n.AK.isEmpty)=1:=fF (by cases he:n.AK with
     | nil=>exact absurd he c1.2
     | cons a l=>rfl)
    rw [this];have:bn (!([]:List KE).isEmpty)=0:=rfl;omega
theorem xa (n:NO):OD n≤8:=by
 have b1:=LW (!n.AK.isEmpty);have b2:=LW (decide (n.DK.DI.PH=0)&&FN n);have b3:=LW (!decide (Aw n.DK=n.DK));have b4:=LW (FN n);have b5:=LW (I2 n);have:Ka n.DK.TH≤2:=by unfold Ka;(repeat' split)<;>omega
 unfold OD;omega
theorem yt {n:NO} (h:OkN n):Quiet n↔onceN n=n:=by
 constructor
 ·exact fun q=>(q.once h).1
 ·intro e;rcases lc h with q | q
  ·exact q
  ·rw [e] at q;omega
def Fh:Nat→NO→List ML→List EV→NO×List ML×List EV
 | 0,n,E,V=>(n,E,V)
 | k+1,n,E,V=>if onceN n=n then (n,E,V) else Fh k (onceN n) (E++Dg n) (V++EK n)
def Bu (n:NO) (E:List ML) (V:List EV):NO×List ML×List EV:=Fh 9 n E V
theorem l4 {n:NO} (h:OkN n):(Dg n).length≤500:=by
 have h1:=h.askedL;have h2:=gx ((U5 _).2 h.pre.dr);have hm:OkN (AG (AS n)):=h.pre.firgra;have h3:=hm.dr.din.len;have h4:(Cv (AG (AS n))).2.length≤64:=by
  unfold Cv;split
  ·have:=Zm (AG (AS n)).DK.DI.ID (AG (AS n)).DK.DI.SD (AG (AS n)).TL [];simp only [List.length_nil] at this;omega
  ·simp
 have h5:(E3 (BT (AG (AS n)))).length≤64:=by have:=bw (AG (AS n)).DK.DI.ID (AG (AS n)).DK.TH (AG (AS n)).DK.NE (AG (AS n)).DK.DI.SD;unfold E3;show (BB (AG (AS n)).DK.DI.ID (AG (AS n)).DK.TH (AG (AS n)).DK.NE (AG (AS n)).DK.DI.SD).length≤64;omega
 have h6:(DH n).length≤64:=by
  unfold DH;split
  ·simp
  ·unfold Eo;rw [List.length_map];omega
 unfold Dg;simp only [List.length_append];omega
theorem l6 {n:NO} (h:OkN n):(EK n).length≤500:=by
 have h1:=h.askedL;have h6:(Kg n).length≤64:=by
  unfold Kg;split
  ·simp
  ·unfold H4;rw [List.length_map];omega
 have:(DX (AS n)).length≤1:=by rcases aJ (AS n) with ⟨_,e⟩ | ⟨s,l,_,_,_,_,e⟩<;>rw [e]<;>simp
 unfold EK;rw [List.length_append];omega
def eF (r:NO×List ML×List EV):Int×Int×Int×Int×List SE×List Int×Int×List SX×List Int×List KE×List KE×List ML×List EV:=(r.1.DK.DI.ID,r.1.DK.DI.PH,r.1.DK.TH,r.1.BK.LA,r.1.BK.SE,r.1.TL,0,r.1.DK.DI.SD,r.1.DK.NE,r.1.KN,r.1.AK,r.2.1,r.2.2)
theorem nu (body:Int×Int×Int×Int×List SE×List Int×List ML×List KE×List EV×List KE×List Int×List SX→Option ((Int×Int×Int×Int×List SE×List Int×List ML×List KE×List EV×List KE×List Int×List SX) ⊕ (Int×Int×Int×Int×List SE×List Int×Int×List SX×List Int×List KE×List KE×List ML×List EV)))
  (hb:∀(n:NO) E V,OkN n→E.length≤600000→V.length≤600000→body (n.DK.DI.ID,n.DK.DI.PH,n.DK.TH,n.BK.LA,n.BK.SE,n.TL,E,n.KN,V,n.AK,n.DK.NE,n.DK.DI.SD) =
    if n=onceN n then some (.inr (eF (onceN n,E++Dg n,V++EK n))) else some (.inl ((onceN n).DK.DI.ID,(onceN n).DK.DI.PH,(onceN n).DK.TH,(onceN n).BK.LA,(onceN n).BK.SE,(onceN n).TL,E++Dg n,(onceN n).KN,V++EK n,(onceN n).AK,(onceN n).DK.NE,(onceN n).DK.DI.SD))):
  ∀(k:Nat) (n:NO) (E:List ML) (V:List EV),OkN n→OD n<k→E.length+500*k≤500000→V.length+500*k≤500000→
   loop body (n.DK.DI.ID,n.DK.DI.PH,n.DK.TH,n.BK.LA,n.BK.SE,n.TL,E,n.KN,V,n.AK,n.DK.NE,n.DK.DI.SD)=some (eF (Fh k n E V))
 | 0,_,_,_,_,h,_,_=>by omega
 | k+1,n,E,V,hn,hm,hE,hV=>by
   have l1:=l4 hn;have l2:=l6 hn;rw [B5,hb n E V hn Om Om];unfold Fh;by_cases hq:onceN n=n
   ·obtain ⟨q1,q2,q3⟩:=((yt hn).2 hq).once hn;rw [if_pos hq.symm,if_pos hq,q2,q3,List.append_nil,List.append_nil,hq]
   ·rw [if_neg fun e=>hq e.symm,if_neg hq];refine nu body hb k (onceN n) _ _ hn.once ?_ (by rw [List.length_append];omega) (by rw [List.length_append];omega);rcases lc hn with q | q
    ·exact absurd (q.once hn).1 hq
    ·omega
theorem Z11 (f:Int) (n:NO) (E:List ML) (V:List EV) (hn:OkN n) (J:E.length≤600000) (U:V.length≤600000):
  (NM n.DK.DI.ID n.DK.DI.PH n.DK.TH n.BK.LA n.BK.SE n.TL n.DK.DI.SD n.DK.NE n.KN n.AK)=some (n.DK.DI.SD,n.DK.NE,n.KN,n.TL,n.AK,n.BK.SE)
  ∧Ny n.DK.DI.ID n.DK.DI.PH n.DK.TH n.BK.LA n.BK.SE n.TL f n.DK.DI.SD n.DK.NE n.KN n.AK E V=some (GZ (onceN n) (E++Dg n) (V++EK n))
  ∧Ip n (onceN n)=some (decide (n=onceN n)):=
 ⟨Z0g n _ _ _ _ hn.few,Z0f f n hn.go E V J U,mA n _ hn.few⟩
theorem mG (n:NO) (h:OkN n) (V:List EV) (J:V.length≤100000):
  JR n.DK.DI.ID n.DK.DI.PH n.DK.TH n.BK.LA n.BK.SE n.TL 0 n.DK.DI.SD n.DK.NE n.KN n.AK V=some (eF (Bu n [] V)):=by
 dsimp only [JR];rw [DT rfl,Bool.not_true,A1];refine nu _ (fun m E V hm hE J=>?_) 9 n [] V h (by have:=xa n;omega) (by simp) Om;obtain ⟨e1,e2,e3⟩:=Z11 0 m E V hm hE J;dsimp only [bX];rw [e1,OB,e2,OB];have e3':Ip m (onceN m)=some (decide (m=onceN m)):=e3;dsimp only [GZ];rw [e3',OB];by_cases hq:m=onceN m
 ·rw [if_pos hq,DT hq];rfl
 ·rw [if_neg hq,DN hq];rfl
theorem mH (a b c d e:Int) (B:List SE) (he:e≠0) (V:List EV) (N:List Int) (S:List SX) (T:List Int) (A K:List KE):
  JR a b c d B T e S N K A V=some (0,0,0,0,[],[],e,[],[],[],[],[],[]):=by
 dsimp only [JR];rw [DN he,Bool.not_false,A3]
theorem nn {P:NO→List ML→List EV→Prop} (hs:∀n E V,OkN n→P n E V→P (onceN n) (E++Dg n) (V++EK n)):∀(k:Nat) (n:NO) (E:List ML) (V:List EV),OkN n→P n E V→P (Fh k n E V).1 (Fh k n E V).2.1 (Fh k n E V).2.2
 | 0,_,_,_,_,h=>h
 | k+1,n,E,V,hn,h=>by
   unfold Fh;split
   ·exact h
   ·exact nn hs k _ _ _ hn.once (hs n E V hn h)
theorem P2 {P:NO→List ML→List EV→Prop} (hs:∀n E V,OkN n→P n E V→P (onceN n) (E++Dg n) (V++EK n)) {n:NO} {E:List ML} {V:List EV} (hn:OkN n) (h:P n E V):P (Bu n E V).1 (Bu n E V).2.1 (Bu n E V).2.2:=nn hs 9 n E V hn h
theorem yG {n:NO} (h:OkN n) (E:List ML) (V:List EV):OkN (Bu n E V).1:=P2 (P:=fun n _ _=>OkN n) (fun _ _ _ h _=>h.once) h h
def BW (p:Int) (s:SE):Bool:=decide (s.SS=0)&&decide (p∈s.NE)
def Dc (p:Int) (l:List SE):List Int:=(l.filter (BW p)).map (·.ID)
theorem ma (s:SE) (p:Int) (PT:List Int) (hs:s.NE.length≤1000000) (hi:PT.length≤1000000):NW s p PT=some (BW p s,if BW p s then PT++[s.ID] else PT):=by simp only [NW,SK,SL,IR s.NE p hs,OB];rw [B0 _ _ Om (by simp;omega),OB];unfold BW;cases decide (s.SS=0)<;>cases decide (p∈s.NE)<;>rfl
theorem gT (p:Int) (l:List SE) (s:SE):Dc p (l++[s])=if BW p s then Dc p l++[s.ID] else Dc p l:=by unfold Dc;rw [List.filter_append,List.map_append];cases h:BW p s<;>simp [h]
theorem Mh (p:Int) (l:List SE):(Dc p l).length≤l.length:=by unfold Dc;rw [List.length_map];exact List.length_filter_le _ _
theorem zq (p:Int) (l:List SE) (hl:l.length≤100000) (hn:∀s∈l,s.NE.length≤1000000):
  TA p l=some (match l.findIdx? (BW p) with | some i=>((i:Int),Dc p (l.take (i+1))) | none=>(-1,[])):=by
 unfold TA;have Af:∀(post pre:List SE),l=pre++post→(∀s∈pre,BW p s=false)→loop (TB p l) ((pre.length:Int),([]:List Int))=some (match l.findIdx? (BW p) with | some i=>((i:Int),Dc p (l.take (i+1))) | none=>(-1,[])):=by
  intro post;induction post with
  | nil=>
    intro pre h hp;have h:pre=l:=by simpa using h.symm
    subst h;have:pre.findIdx? (BW p)=none:=by rw [List.findIdx?_eq_none_iff];exact hp
    rw [this,B5];dsimp only [TB];rw [AB,A1];rfl
  | cons x post ih=>
    intro pre h hp;have hx:=Br h;have hm:=Bp h;rw [B5];dsimp only [TB];rw [Ay hx,A3,Aj hx,OB,ma x p [] (hn x (Dt h)) (by simp),OB];cases hg:BW p x with
    | true=>
      have hf:l.findIdx? (BW p)=some pre.length:=by
       rw [List.findIdx?_eq_some_iff_getElem];refine ⟨Om,?_,fun j hj=>?_⟩
       ·have:l[pre.length]'Om=x:=(List.getElem?_eq_some_iff.1 hx).2;rw [this];exact hg
       ·have h6:l[j]?=pre[j]?:=by rw [h,List.getElem?_append_left hj]
        have:l[j]'Om∈pre:=by have e:l[j]?=some (l[j]'Om):=List.getElem?_eq_getElem _;rw [h6] at e;exact List.mem_of_getElem? e
        simpa using hp _ this
      rw [hf];have ht:l.take (pre.length+1)=pre++[x]:=by rw [h,show pre++x::post=(pre++[x])++post by simp,List.take_left' (by simp)]
      have hz:Dc p pre=[]:=by unfold Dc;rw [List.filter_eq_nil_iff.2 fun s hs=>by rw [hp s hs];simp];rfl
      dsimp only;rw [ht,gT,hg,hz];rfl
    | false=>
      have:=ih (pre++[x]) (by simpa using h) fun s hs=>by
       rcases List.mem_append.1 hs with hs | hs
       ·exact hp s hs
       ·simp at hs;subst hs;exact hg
      rw [AN] at this;rw [←this];dsimp only;rw [if_neg (by simp),A1,Al Om]
 exact Af l [] rfl (by simp)
theorem zf (p:Int) (l:List SE) (hl:l.length≤100000) (hn:∀s∈l,s.NE.length≤1000000):
  Ti p l=some (Dc p l,l.filter fun s=>!BW p s):=by
 simp only [Ti,zq p l hl hn,OB];cases hf:l.findIdx? (BW p) with
 | none=>
   rw [List.findIdx?_eq_none_iff] at hf;dsimp only;rw [DT rfl,A3,List.filter_eq_self.2 (fun x hx=>by rw [hf x hx];rfl)];have:Dc p l=[]:=by unfold Dc;rw [List.filter_eq_nil_iff.2 fun s hs=>by rw [hf s hs];simp];rfl
   rw [this]
 | some i=>
   obtain ⟨hi,hq,hB⟩:=List.findIdx?_eq_some_iff_getElem.1 hf;dsimp only;rw [DN Om,A1,Al Om]
   let F:List SE→List SE:=fun pre=>pre.filter fun x=>!BW p x
   have hF:∀pre post,l=pre++post→(F pre).length≤pre.length:=fun pre post _=>List.length_filter_le _ _;have Af:=Q5 l (Tj p) (fun pre=>(((F pre).length:Int),(pre.length:Int),F pre++l.drop (F pre).length,Dc p pre)) (fun _ _=>some (Dc p l,F l)) (fun pre x post h=>?_) ?_ (l.drop (i+1)) (l.take (i+1)) (by simp)
   ·have e1:F (l.take (i+1))=l.take i:=by
     show (l.take (i+1)).filter _=_;rw [List.take_succ_eq_append_getElem hi,List.filter_append];have a1:(l.take i).filter (fun x=>!BW p x)=l.take i:=by rw [List.filter_eq_self];intro x hx;obtain ⟨j,hj,rfl⟩:=List.mem_iff_getElem.1 hx;rw [List.getElem_take];have:=hB j (by simp at hj;omega);simpa using this
     have a2: [l[i]].filter (fun x=>!BW p x)=[]:=by simp [hq]
     rw [a1,a2,List.append_nil]
    rw [e1] at Af;have e2:(l.take i).length=i:=by simp;omega
    have e3:(l.take (i+1)).length=i+1:=by simp;omega
    rw [e2,e3,List.take_append_drop] at Af;exact Af
   ·left;refine ⟨?_,rfl⟩;have hx:=Br h;have hm:=Bp h;have h8:=hF pre (x::post) h;have hE:=Mh p pre;have h6:(F pre++l.drop (F pre).length).length=l.length:=by simp;omega
    have h9:(F pre++l.drop (F pre).length)[pre.length]?=some x:=by rw [List.getElem?_append_right h8,List.getElem?_drop,show (F pre).length+(pre.length-(F pre).length)=pre.length by omega];exact hx
    dsimp only [Tj];rw [Ay h9,A3,Aj h9,OB,ma x p _ (hn x (Dt h)) Om,OB];have hw:F (pre++[x])=F pre++(if BW p x then [] else [x]):=by show (pre++[x]).filter _=_;rw [List.filter_append];congr 1;cases hC:BW p x<;>simp [hC]
    rw [←gT];cases hA:BW p x with
    | true=>rw [Bool.not_true,A1];dsimp only [Od];rw [Al Om,hw,hA,if_pos rfl,List.append_nil,AN]
    | false=>
      rw [Bool.not_false,A3];obtain ⟨d,hd⟩:=au (fun x=>!BW p x) pre post x;rw [←h] at hd;have hd':l.drop (F pre).length=d::l.drop ((F pre).length+1):=hd;have hD:(F pre++l.drop (F pre).length)[(F pre).length]?=some d:=by rw [hd'];simp
      rw [Aj hD,OB];dsimp only [Od];rw [Al Om,Al Om,hw,hA,if_neg (by simp),AN,hd',Int.toNat_natCast,AN];simp
   ·dsimp only [Tj];have h8:=hF l [] (by simp);have h6:(F l++l.drop (F l).length).length=l.length:=by simp;omega
    rw [show ((l.length:Int))=((F l++l.drop (F l).length).length:Int) by rw [h6],AB,A1];dsimp only [Xw];unfold DE;rw [B7,h6,if_pos ⟨Om,Om,Om,Om⟩,OB];unfold H9;rw [h6,if_pos ⟨Om,by simp;omega⟩,OB];unfold Cj;rw [if_pos ⟨Om,Om,by simp;omega⟩,OB];simp [Int.toNat_natCast,List.append_assoc]
theorem Z0n (b:BK) (p:Int) (hk:DB b=true):SJ b p=some (⟨b.LA,b.SE.filter fun s=>!BW p s⟩,Dc p b.SE,0):=by have h:=(Eh b).1 hk;have hf:=h.few;have hl:=h.len;simp only [SJ,Pb b hf,hk,if_true,OB,Uf b hf,zf p b.SE Om (fun s hs=>hf.2 s hs),decide_true,Bool.not_true,A1]
theorem BkOK.sub {b:BK} (h:BkOK b) {l:List SE} (hs:l.Sublist b.SE):BkOK ⟨b.LA,l⟩:=⟨h.last,Nat.le_trans hs.length_le h.len,h.up.sublist hs,fun s hm=>h.ok s (hs.subset hm),fun s hm=>h.tl s (hs.tail.subset hm)⟩
theorem US {α:Type} (l:List α) (i:Nat):(l.take i++l.drop (i+1)).Sublist l:=by
 conv=>rhs;rw [←List.take_append_drop i l]
 refine List.Sublist.append (List.Sublist.refl _) ?_;rw [←List.drop_drop];exact List.drop_sublist _ _
def FL (s:SE):SE:=⟨s.ID,s.NE,s.SS,max s.Age (min s.Age 4611686018427387903+1)⟩
def FJ (b:BK) (hold:Int):BK×Int:=match b.SE with
 | []=>(b,0)
 | s::l=>if s.SS=1 then (if (FL s).Age<hold then (⟨b.LA,FL s::l⟩,0) else (⟨b.LA,l⟩,s.ID)) else (b,0)
theorem zH (b:BK) (hold:Int) (hk:DB b=true):SV b hold=some ((FJ b hold).1,(FJ b hold).2,0):=by
 have h:=(Eh b).1 hk;have hf:=h.few;have hl:=h.len;simp only [SV,Pb b hf,hk,if_true,OB,Uf b hf,decide_true,Bool.not_true,A1,B7];unfold FJ;cases hb:b.SE with
 | nil=>dsimp only;rw [show decide (((([]:List SE).length:Nat):Int)=0)=true from rfl,A3];dsimp only [NZ];rw [A3,←hb]
 | cons s l=>
   have hs:=h.ok s (by rw [hb];simp);have h0:A4 (s::l) 0=some s:=rfl;dsimp only;rw [DN (by simp;omega),A1,h0,OB];dsimp only [NZ];by_cases h1:s.SS=1
   ·have h8:=hs.age;have h6:wr (min s.Age 4611686018427387903+1)=min s.Age 4611686018427387903+1:=CT Om Om;rw [DT h1,Bool.not_true,A1,h0,OB,h6,if_pos h1];have e:(⟨s.ID,s.NE,s.SS,max s.Age (min s.Age 4611686018427387903+1)⟩:SE)=FL s:=rfl;rw [e];have es:(s::l).set (Int.toNat 0) (FL s)=FL s::l:=rfl;rw [es];by_cases hh:(FL s).Age<hold
    ·rw [if_pos hh,show decide (max s.Age (min s.Age 4611686018427387903+1)<hold)=true from DT hh,A3]
    ·rw [if_neg hh,show decide (max s.Age (min s.Age 4611686018427387903+1)<hold)=false from DN hh,A1];have hd:=m8 (FL s::l) 0 (by simp) (by rw [hb] at hl;simp at hl ⊢;omega);have hd:Lo 0 1 (FL s::l)=some l:=hd;rw [hd,OB]
   ·rw [DN h1,Bool.not_false,A3,if_neg h1,←hb]
theorem BkOK.tick {b:BK} (h:BkOK b) (hold:Int):BkOK (FJ b hold).1:=by
 unfold FJ;cases hb:b.SE with
 | nil=>exact h
 | cons s l=>
   dsimp only;split
   ·rename_i h1;split
    ·have hu:=h.up;have hl:=h.len;have ht:=h.tl;have hs:=h.ok s (by rw [hb];simp);rw [hb] at hu hl ht;refine ⟨h.last,hl,?_,fun t ht'=>?_,ht⟩
     ·rw [List.pairwise_cons] at hu ⊢;exact hu
     ·rcases List.mem_cons.1 ht' with rfl | ht'
      ·have:=hs.age;exact {hs with age:=by show 0≤max s.Age _;omega,st:=.inl h1}
      ·exact h.ok t (by rw [hb];exact List.mem_cons_of_mem _ ht')
    ·exact h.sub (by rw [hb];exact List.sublist_cons_self _ _)
   ·exact h
def De (is:Bool) (c e:Int):Int:=if decide (e=0)&&!is then c else e
theorem dF (is:Bool) (c a b d f:Int) (B:List SE) (e:Int) (S:List SX) (N:List Int) (K:List KE) (T:List Int) (A:List KE):L5 is c a b d f B e S N K T A=some (decide (De is c e=0),De is c e):=by simp only [L5,S9,Sa,De];by_cases h:e=0<;>cases is<;>simp [h,A0]
theorem Ug (is:Bool) (c a b d f e:Int) (S:List SX) (N:List Int) (B:List SE) (K:List KE) (T:List Int) (A:List KE):DU is c a b d f e S N B K T A=some (decide (De is c e=0),De is c e):=by simp only [DU,Sb,Sc,De];by_cases h:e=0<;>cases is<;>simp [h,A0]
theorem dG (c a b d f e:Int) (S:List SX) (N:List Int) (B:List SE) (K:List KE) (T:List Int) (A:List KE):F9 c a b d f e S N B K T A=some (decide (De false c e=0),De false c e):=by simp only [F9,Sd,Se,De];by_cases h:e=0<;>simp [h,A0]
theorem OI {c e:Int} (is:Bool) (h:e≠0):De is c e=e:=by unfold De;rw [DN h];rfl
theorem FB (c e:Int):De true c e=e:=by unfold De;simp
theorem Ev (c:Int):De false c 0=c:=rfl
def C6 (S:List SX) (p:Int):Option Nat:=S.findIdx? fun x=>decide (x.PE=p)
theorem dI (x:node_node) (p:Int) (h:x.NO.DK.DI.SD.length≤1000000):L8 x p=some (Bf (C6 x.NO.DK.DI.SD p)):=by simp only [L8,Lz x.NO.DK.DI.SD (fun z=>WU z p) (fun x=>decide (x.PE=p)) Om (fun _ _=>rfl),OB];rfl
theorem OY {S:List SX} {p:Int} {j:Nat} (h:C6 S p=some j):∃x,S[j]?=some x∧x.PE=p:=by obtain ⟨hi,hq,_⟩:=List.findIdx?_eq_some_iff_getElem.1 h;exact ⟨_,List.getElem?_eq_getElem hi,by simpa using hq⟩
theorem dg {S:List SX} {p:Int} (h:C6 S p=none):∀x∈S,x.PE≠p:=by unfold C6 at h;rw [List.findIdx?_eq_none_iff] at h;intro x hx;simpa using h x hx
theorem mJ (d:DK) (h:DrOK d) (E:d.NE.length≤1000000) (K A:List KE) (T:List Int) (V:List EV) (x:Int) (B:List SE) (e:Int):
  Ht d.DI.ID d.DI.PH d.TH x B e d.DI.SD d.NE K T A V=some (d.DI.ID,d.DI.PH,0,d.DI.SD,[]):=by
 simp only [Ht,Sr,zV d ((U5 d).2 h) E,OB];by_cases h0:d.TH=0
 ·rw [if_pos h0,h.nz h0,h0];rfl
 ·rw [if_neg h0];rfl
theorem dx (r:BK×Int) (b c d L:Int) (l:List SE) (S:List SX) (N:List Int) (K:List KE) (T:List Int) (A:List KE):L4 r.1 r.2 b c d L l 0 S N K T A=some (if r.2=0 then (true,r.1.LA,r.1.SE,0) else (false,L,l,r.2)):=by
 simp only [L4,S0,dF,OB];by_cases h:r.2=0
 ·rw [if_pos h,h];rfl
 ·rw [if_neg h,DN h,Ev,DN h];rfl
theorem dL (k i a b c d:Int) (B:List SE) (e:Int) (S:List SX) (N:List Int) (K:List KE) (T:List Int) (A:List KE):L9 k i a b c d B e S N K T A=some [⟨k,a,i,0,[]⟩]:=by simp only [L9];rw [B0 _ _ Om (by simp),OB];rfl
theorem zt (n:NO) (hn:FewN n) (a b c d:Int) (N:List Int) (B:List SE) (K:List KE) (T:List Int) (A:List KE):RD a b c d B n.DK.DI.SD N K T A=some (CR n E4):=by
 have hl:=hn.sides;simp only [RD,Xg];have:loop (Ss n.DK.DI.SD fun z=>Iq z) (0,([]:List Int))=some (CR n E4):=by
  refine CK n.DK.DI.SD _ (fun pre=>((pre.length:Int),(pre.filter E4).map (·.PE))) _ (fun pre x post h=>?_) ?_
  ·have hx:=Br h;have hm:=Bp h;have hf:=List.length_filter_le E4 pre;dsimp only [Ss];rw [Ay hx,A3,Aj hx,OB,show Iq x=some (E4 x) from rfl,OB];cases hq:E4 x with
   | true=>rw [A3,B0 _ _ Om (by simp;omega),OB];dsimp only [NN];rw [Al Om,AN];simp [hq]
   | false=>rw [A1];dsimp only [NN];rw [Al Om,AN];simp [hq]
  ·dsimp only [Ss];rw [AB,A1];rfl
 rw [this];rfl
def UJ (n:NO) (b:BK):NO:=⟨n.DK,b,n.KN,n.TL,n.AK⟩
def M3 (n:NO) (b:BK):NO:=⟨⟨n.DK.DI,0,[]⟩,b,n.KN,n.TL,n.AK⟩
def CG (n:NO) (a:Do):Int×NO×List EV:=
 if a.KI=0 then
  (if (Ge n.BK a.ID a.NE).2=0 then (if (a.NE.all fun z=>decide (z∈CR n E4))=true then (0,UJ n (Ge n.BK a.ID a.NE).1,[⟨0,n.DK.DI.ID,a.ID,0,Bm a.NE⟩]) else (181,n,[])) else ((Ge n.BK a.ID a.NE).2,n,[]))
 else if a.KI=1 then
  (if (DA n.BK a.ID 1).2=0 then (0,M3 n (DA n.BK a.ID 1).1,[⟨2,n.DK.DI.ID,a.ID,0,[]⟩]) else ((DA n.BK a.ID 1).2,n,[]))
 else if a.KI=2 then
  (if (DA n.BK a.ID 0).2=0 then (0,if (CQ n).1.ID=a.ID∧n.DK.TH=1 then M3 n (DA n.BK a.ID 0).1 else UJ n (DA n.BK a.ID 0).1,[⟨3,n.DK.DI.ID,a.ID,0,[]⟩]) else ((DA n.BK a.ID 0).2,n,[]))
 else if a.KI=3 then
  (if (FJ n.BK a.Hold).2=0 then (0,UJ n (FJ n.BK a.Hold).1,[]) else (0,M3 n (FJ n.BK a.Hold).1,[⟨4,n.DK.DI.ID,(FJ n.BK a.Hold).2,0,[]⟩]))
 else (0,n,[])
def Z1W (e:Int) (m:NO) (V:List EV):Int×Int×Int×Int×List SE×Int×List EV×List SX×List Int:=(m.DK.DI.ID,m.DK.DI.PH,m.DK.TH,m.BK.LA,m.BK.SE,e,V,m.DK.DI.SD,m.DK.NE)
theorem Z03 (n:NO) (a b c d:Int) (S:List SX) (N:List Int) (K:List KE) (T:List Int) (A:List KE):RU a b c d S N n.BK.SE K T A=some (CQ n):=by
 simp only [RU,B7];unfold CQ;cases h:n.BK.SE with
 | nil=>rfl
 | cons s l=>rw [DN (by simp;omega),A1];rfl
theorem Z04 (n:NO) (a b c d:Int) (S:List SX) (N:List Int) (K:List KE) (T:List Int) (A:List KE):RW a b c d n.BK.SE S N K T A=some (CQ n):=by
 simp only [RW,B7];unfold CQ;cases h:n.BK.SE with
 | nil=>rfl
 | cons s l=>rw [DN (by simp;omega),A1];rfl
theorem Z0r (n:NO) (a:Do) (h:OkN n) (ha:a.NE.length≤1000):
  NG a n.DK.DI.ID n.DK.DI.PH n.DK.TH n.BK.LA 0 n.DK.DI.SD n.DK.NE n.BK.SE n.KN n.TL n.AK=some (Z1W (CG n a).1 (CG n a).2.1 (CG n a).2.2):=by
 have hf:=h.few;have hb:=hf.bk;have hN:=hf.need;have hS:=hf.sides;have hp:=YJ n E4;have h6:∀(x:Int) (B:List SE) (e:Int) (K A:List KE) (T:List Int) (V:List EV),Ht n.DK.DI.ID n.DK.DI.PH n.DK.TH x B e n.DK.DI.SD n.DK.NE K T A V=some (n.DK.DI.ID,n.DK.DI.PH,0,n.DK.DI.SD,[]):=fun x B e K A T V=>mJ n.DK h.dr Om K A T V x B e;unfold NG CG;have eb:(⟨n.BK.LA,n.BK.SE⟩:BK)=n.BK:=rfl;rw [eb];by_cases k0:a.KI=0
 ·rw [DT k0,A3,if_pos k0,zv n.BK a.ID a.NE hb Om,OB];dsimp only [WW];rw [dF,OB];by_cases e0:(Ge n.BK a.ID a.NE).2=0
  ·rw [if_pos e0,e0,DT rfl,FB];dsimp only;rw [DT rfl,A3,zt n hf,OB,dw a.NE (CR n E4) Om Om,OB,dF,OB];dsimp only [Sm];cases hw:(a.NE.all fun z=>decide (z∈CR n E4)) with
   | true=>rw [FB,DT rfl,A3,Uh a.NE Om,OB,B0 _ _ Om (by simp),OB];rfl
   | false=>rfl
  ·rw [if_neg e0,DN e0,Ev];dsimp only;rw [DN e0,A1];rfl
 ·rw [DN k0,A1,if_neg k0];by_cases k1:a.KI=1
  ·rw [DT k1,A3,if_pos k1,zy n.BK a.ID hb,OB,dx,OB];by_cases e0:(DA n.BK a.ID 1).2=0
   ·rw [if_pos e0,if_pos e0];dsimp only;rw [A3,dL,OB,h6,OB];rfl
   ·rw [if_neg e0,if_neg e0];rfl
  ·rw [DN k1,A1,if_neg k1];by_cases k2:a.KI=2
   ·rw [DT k2,A3,if_pos k2,Z03 n,OB,yW n.BK a.ID hb,OB,dx,OB];by_cases e0:(DA n.BK a.ID 0).2=0
    ·rw [if_pos e0,if_pos e0];dsimp only;rw [A3,dL,OB];dsimp only [Sn];rw [h6,OB];by_cases c1:(CQ n).1.ID=a.ID
     ·rw [DT c1];by_cases c2:n.DK.TH=1
      ·rw [DT c2,if_pos ⟨c1,c2⟩];rfl
      ·rw [DN c2,if_neg fun c=>c2 c.2];rfl
     ·rw [DN c1,if_neg fun c=>c1 c.1];rfl
    ·rw [if_neg e0,if_neg e0];rfl
   ·rw [DN k2,A1,if_neg k2];by_cases k3:a.KI=3
    ·rw [DT k3,A3,if_pos k3,zH n.BK a.Hold h.bk,OB];dsimp only [WX,So];have:=dx ((FJ n.BK a.Hold).1,0) n.DK.DI.ID n.DK.DI.PH n.DK.TH n.BK.LA n.BK.SE n.DK.DI.SD n.DK.NE n.KN n.TL n.AK;dsimp only at this;rw [this,OB,if_pos rfl];dsimp only;rw [A3];by_cases e0:(FJ n.BK a.Hold).2=0
     ·rw [if_pos e0,DT e0];rfl
     ·rw [if_neg e0,DN e0,Bool.not_false,A3,dL,OB,h6,OB];rfl
    ·rw [DN k3,A1,if_neg k3];rfl
theorem dR {α:Type} {S:List α} {j:Nat} {x:α} (h:S[j]?=some x) (y:α):S=S.take j++x::S.drop (j+1)∧S.set j y=S.take j++y::S.drop (j+1):=by
 obtain ⟨hj,hx⟩:=List.getElem?_eq_some_iff.1 h;have e1:S=S.take j++x::S.drop (j+1):=by rw [←hx];simp
 refine ⟨e1,?_⟩;have hl:(S.take j).length=j:=by simp;omega
 conv=>lhs;rw [e1]
 rw [List.set_append_right _ _ Om,hl,Nat.sub_self];rfl
theorem Pd {S:List SX} (hu:S.Pairwise fun x y=>x.PE<y.PE) {j:Nat} {x:SX} (h:S[j]?=some x) (y:SX) {z:SX}:z∈S.set j y↔z=y∨z∈S∧z.PE≠x.PE:=by
 obtain ⟨e1,e2⟩:=dR h y;have hu':=hu;rw [e1,List.pairwise_append,List.pairwise_cons] at hu';obtain ⟨_,⟨u2,_⟩,u3⟩:=hu';rw [e2,List.mem_append,List.mem_cons];constructor
 ·rintro (hz | hz | hz)
  ·have:=u3 z hz x (by simp);exact .inr ⟨by rw [e1];simp [hz],Om⟩
  ·exact .inl hz
  ·have:=u2 z hz;exact .inr ⟨by rw [e1];simp [hz],Om⟩
 ·rintro (hz | ⟨hz,hn⟩)
  ·exact .inr (.inl hz)
  ·rw [e1,List.mem_append,List.mem_cons] at hz;rcases hz with hz | hz | hz
   ·exact .inl hz
   ·rw [hz] at hn;exact absurd rfl hn
   ·exact .inr (.inr hz)
theorem Z10 {S:List SX} {j:Nat} {x y:SX} (h:S[j]?=some x) (hp:y.PE=x.PE):(S.set j y).map (·.PE)=S.map (·.PE):=by
 obtain ⟨e1,e2⟩:=dR h y;rw [e2]
 conv=>rhs;rw [e1]
 simp [hp]
theorem DrOK.state {d:DK} (h:DrOK d) {j:Nat} {x:SX} (hx:d.DI.SD[j]?=some x) {s:Int} (hs:0≤s∧s≤3):DrOK ⟨⟨d.DI.ID,d.DI.PH,d.DI.SD.set j {x with SS:=s}⟩,d.TH,d.NE⟩:=by
 have h6:=h.din.up;have hm:=fun {z:SX}=>Pd (z:=z) h6 hx {x with SS:=s};have h8:=List.mem_of_getElem? hx;refine ⟨⟨h.din.id0,h.din.p0,h.din.p2,by rw [List.length_set];exact h.din.len,P0 (Z10 hx rfl) h6,fun z hz=>?_⟩,h.t0,h.t2,h.up,h.nz,fun p hp=>?_⟩
 ·rcases hm.1 hz with rfl | ⟨hz,_⟩
  ·have:=h.din.side x h8;exact ⟨this.lo,this.ne,this.e0,this.e1,hs.1,hs.2,this.df⟩
  ·exact h.din.side z hz
 ·obtain ⟨y,hy,e⟩:=h.has p hp;by_cases hq:y.PE=x.PE
  ·exact ⟨_,hm.2 (.inl rfl),by show x.PE=p;omega⟩
  ·exact ⟨y,hm.2 (.inr ⟨hy,hq⟩),e⟩
def Pe (n:NO) (p:Int):Bool:=(CQ n).2&&(decide (n.DK.TH=1)&&decide ((CQ n).1.ID∈Dc p n.BK.SE))
def dS (n:NO) (p:Int):BK:=⟨n.BK.LA,n.BK.SE.filter fun s=>!BW p s⟩
def Pf (n:NO) (j:Nat) (x:SX):DI:=⟨n.DK.DI.ID,n.DK.DI.PH,n.DK.DI.SD.set j {x with SS:=2}⟩
def Bg (n:NO) (j:Nat) (x:SX):NO:=⟨if Pe n x.PE then ⟨Pf n j x,0,[]⟩ else ⟨Pf n j x,n.DK.TH,n.DK.NE⟩,dS n x.PE,n.KN,n.TL,n.AK⟩
def I1 (id:Int) (l:List Int):List EV:=l.map fun i=>⟨5,id,i,0,[]⟩
def Gg (n:NO) (p:Int):List EV:=⟨7,n.DK.DI.ID,0,p,[]⟩::I1 n.DK.DI.ID (Dc p n.BK.SE)
theorem mI (n:NO) (h:OkN n) (p:Int) (j:Nat) (x:SX) (hp:C6 n.DK.DI.SD p=some j) (hx:n.DK.DI.SD[j]?=some x) (h8:x.PE=p) (e:Int):
  La p n.DK.DI.ID n.DK.DI.PH n.DK.TH n.BK.LA e n.DK.DI.SD n.DK.NE n.BK.SE n.KN n.TL n.AK =
   some ((Bg n j x).DK.DI.ID,(Bg n j x).DK.DI.PH,(Bg n j x).DK.TH,(Bg n j x).BK.LA,(Bg n j x).BK.SE,Gg n p,(Bg n j x).DK.DI.SD,(Bg n j x).DK.NE):=by
 subst h8;have hf:=h.few;have hS:=hf.sides;have hN:=hf.need;have hB:=hf.book;have hg:=Mh x.PE n.BK.SE;have h9:=h.dr.state hx (s:=2) Om;unfold La;rw [dI _ _ (show _≤_ by dsimp only;omega),OB];dsimp only;rw [hp];dsimp only [Bf];rw [Aj hx,OB,Int.toNat_natCast];have hd:(⟨x.PE,x.EP,2,x.FK,x.DY,x.TO,x.BO,x.Ask⟩:SX)={x with SS:=2}:=rfl;rw [hd];dsimp only [WY];have h6:∀(S:List SX),JO 7 x.PE n.DK.DI.ID n.DK.DI.PH n.DK.TH n.BK.LA e S n.DK.NE n.BK.SE n.KN n.TL n.AK=some [⟨7,n.DK.DI.ID,0,x.PE,[]⟩]:=fun S=>by simp only [JO];rw [B0 _ _ Om (by simp),OB];rfl
 rw [h6,OB,show (⟨n.BK.LA,n.BK.SE⟩:BK)=n.BK from rfl,Z0n n.BK x.PE h.bk,OB,Z04 n,OB];have j3:∀(d:DK),d.DI.ID=n.DK.DI.ID→NH e n.KN n.TL n.AK [⟨7,n.DK.DI.ID,0,x.PE,[]⟩] (⟨n.BK.LA,n.BK.SE.filter fun s=>!BW x.PE s⟩,Dc x.PE n.BK.SE,0) (d.DI.ID,d.DI.PH,d.TH,d.DI.SD,d.NE) =
   some (d.DI.ID,d.DI.PH,d.TH,(dS n x.PE).LA,(dS n x.PE).SE,Gg n x.PE,d.DI.SD,d.NE):=fun d hw=>by
  dsimp only [NH];refine CK (Dc x.PE n.BK.SE) _ (fun pre=>((pre.length:Int),⟨7,n.DK.DI.ID,0,x.PE,[]⟩::I1 n.DK.DI.ID pre)) _ (fun pre y post h0=>?_) ?_
  ·have hy:=Br h0;have hm:=Bp h0;have hC:(I1 n.DK.DI.ID pre).length=pre.length:=by unfold I1;rw [List.length_map]
   dsimp only [X1,WV];rw [Ay hy,A3,Aj hy,OB,B0 _ _ Om (by simp;omega),OB,OB,Al Om,AN,hw];simp [I1]
  ·dsimp only [X1,WZ];rw [AB,A1];rfl
 have hA:∀(x':Int) (B:List SE) (e:Int) (K A:List KE) (T:List Int) (V:List EV),Ht n.DK.DI.ID n.DK.DI.PH n.DK.TH x' B e (n.DK.DI.SD.set j {x with SS:=2}) n.DK.NE K T A V=some (n.DK.DI.ID,n.DK.DI.PH,0,n.DK.DI.SD.set j {x with SS:=2},[]):=fun x' B e K A T V=>mJ _ h9 (by show n.DK.NE.length≤_;omega) K A T V x' B e;have j2:∀z,z=Pe n x.PE→Lb n.DK.DI.ID n.DK.DI.PH n.DK.TH n.BK.LA e n.DK.NE n.BK.SE n.KN n.TL n.AK (n.DK.DI.SD.set j {x with SS:=2}) [⟨7,n.DK.DI.ID,0,x.PE,[]⟩] (⟨n.BK.LA,n.BK.SE.filter fun s=>!BW x.PE s⟩,Dc x.PE n.BK.SE,0) z=some ((Bg n j x).DK.DI.ID,(Bg n j x).DK.DI.PH,(Bg n j x).DK.TH,(Bg n j x).BK.LA,(Bg n j x).BK.SE,Gg n x.PE,(Bg n j x).DK.DI.SD,(Bg n j x).DK.NE):=fun z hz=>by
  dsimp only [Lb];cases z with
  | true=>rw [A3,hA,OB];have:=j3 ⟨Pf n j x,0,[]⟩ rfl;refine Eq.trans this ?_;unfold Bg;rw [←hz];rfl
  | false=>rw [A1];have:=j3 ⟨Pf n j x,n.DK.TH,n.DK.NE⟩ rfl;refine Eq.trans this ?_;unfold Bg;rw [←hz];rfl
 unfold Pe at j2;cases h1:(CQ n).2 with
 | false=>rw [A1];exact j2 false (by rw [h1];rfl)
 | true=>
   rw [A3];by_cases h2:n.DK.TH=1
   ·rw [DT h2,A3,YT _ _ (by dsimp only;omega),OB];exact j2 _ (by rw [h1,DT h2];rfl)
   ·rw [DN h2,A1];exact j2 false (by rw [h1,DN h2];rfl)
theorem gG {n:NO} {s:SE} {l:List SE} (h:n.BK.SE=s::l):CQ n=(s,true):=by unfold CQ;rw [h]
theorem OkN.shut {n:NO} (h:OkN n) {j:Nat} {x:SX} (hx:n.DK.DI.SD[j]?=some x) (h0:x.SS=0):OkN (Bg n j x):=by
 have hC:=(Eh _).1 h.bk;have h9:=List.mem_of_getElem? hx;have hD:=h.dr.state hx (s:=2) Om;have hm:∀ {z:SX},z∈(Pf n j x).SD↔z={x with SS:=2}∨z∈n.DK.DI.SD∧z.PE≠x.PE:=fun {z}=>Pd (z:=z) h.rowS.up hx {x with SS:=2};have h6:(Bg n j x).DK.DI=Pf n j x:=by unfold Bg;dsimp only;split<;>rfl
 have hA:∀p∈(Bg n j x).DK.NE,p∈n.DK.NE:=by
  unfold Bg;dsimp only;split
  ·intro p hp;simp at hp
  ·exact fun p hp=>hp
 have hG:∀s∈n.BK.SE,s.SS=1→BW x.PE s=false:=fun s _ e=>by unfold BW;rw [DN Om];rfl
 refine ⟨?_,(Eh _).2 (hC.sub List.filter_sublist),fun k hk=>?_,h.dis,?_,h.kup,h.kr,fun z hz=>?_,h.told,fun p hp=>?_,?_,?_,fun z hz hn=>?_,fun s hs hd p hp=>?_⟩
 ·unfold Bg;dsimp only;split
  ·exact ⟨hD.din,by show (0:Int)≤0;omega,by show (0:Int)≤2;omega,.nil,fun _=>rfl,by simp⟩
  ·exact hD
 ·have:=h.may k hk;rw [h6];exact ⟨fun z hz=>by
   rcases hm.1 hz with rfl | ⟨hz,_⟩
   ·exact this.1 x h9
   ·exact this.1 z hz,this.2⟩
 ·rw [h6];exact h.id
 ·rw [h6] at hz ⊢;rcases hm.1 hz with rfl | ⟨hz,_⟩
  ·have:=h.sd x h9;exact ⟨this.1,this.2.1,this.2.2.1,fun e=>by have e:(2:Int)=1∨(2:Int)=3:=e;omega⟩
  ·exact h.sd z hz
 ·obtain ⟨z,hz,e1,e⟩:=h.tin p hp;rw [h6];refine ⟨z,hm.2 (.inr ⟨hz,fun q=>?_⟩),e1,e⟩;have:=Kb h.rowS.up hz h9 q;subst this;omega
 ·rw [EF];constructor
  ·intro e;have h2:n.DK.TH=2:=by
    unfold Bg at e;dsimp only at e;split at e
    ·have e:(0:Int)=2:=e;omega
    ·exact e
   obtain ⟨s,l,hb,h8,_⟩:=h.drinks h2;refine ⟨s,l.filter fun s=>!BW x.PE s,?_,h8⟩;show (n.BK.SE.filter _)=_;rw [hb,List.filter_cons,hG s (by rw [hb];simp) h8];simp
  ·rintro ⟨s,l,hb,h8⟩;have hb:n.BK.SE.filter (fun s=>!BW x.PE s)=s::l:=hb;have hsm:s∈n.BK.SE:=(List.mem_filter.1 (by rw [hb];simp)).1;cases hB:n.BK.SE with
   | nil=>rw [hB] at hsm;simp at hsm
   | cons t r=>
     have hE:=hC.tl;rw [hB] at hE hsm;rcases List.mem_cons.1 hsm with rfl | hsm
     ·have h2:=h.th.2 ((EF n).2 ⟨s,r,hB,h8⟩);unfold Bg Pe;dsimp only;rw [DN (show ¬n.DK.TH=1 by omega)];simp [h2]
     ·have:=hE s hsm;omega
 ·cases hc:Pe n x.PE with
  | true=>left;unfold Bg;dsimp only;rw [hc];rfl
  | false=>
    rcases h.hq with q | q
    ·left;unfold Bg;dsimp only;rw [hc];exact q
    ·by_cases hz:n.DK.TH=0
     ·left;unfold Bg;dsimp only;rw [hc];exact hz
     ·right;obtain ⟨s,l,hb,hn⟩:=(Hf n).1 q;have hsm:s∈n.BK.SE:=by rw [hb];simp
      have hg:BW x.PE s=false:=by
       cases hg:BW x.PE s with
       | false=>rfl
       | true=>
         exfalso;have hd:s.SS=0:=by unfold BW at hg;rw [Bool.and_eq_true,decide_eq_true_eq] at hg;exact hg.1
         have ht:n.DK.TH=1:=by
          have:=h.dr.t0;have:=h.dr.t2;by_cases e2:n.DK.TH=2
          ·obtain ⟨s',l',hb',hs',_⟩:=h.drinks e2;rw [hb] at hb';simp only [List.cons.injEq] at hb';rw [←hb'.1] at hs';omega
          ·omega
         unfold Pe at hc;rw [gG hb,DT ht,DT (show (s,true).1.ID∈Dc x.PE n.BK.SE from List.mem_map.2 ⟨s,List.mem_filter.2 ⟨hsm,hg⟩,rfl⟩)] at hc;simp at hc
      rw [Hf];refine ⟨s,l.filter fun s=>!BW x.PE s,?_,?_⟩
      ·show (n.BK.SE.filter _)=_;rw [hb,List.filter_cons,hg];simp
      ·unfold Bg;dsimp only;rw [hc];exact hn
 ·rw [h6] at hz;rcases hm.1 hz with rfl | ⟨hz,_⟩
  ·show (2:Int)≠3;omega
  ·exact h.nl z hz (hA _ hn)
 ·have hs:s∈n.BK.SE.filter fun s=>!BW x.PE s:=hs;obtain ⟨h8,hw⟩:=List.mem_filter.1 hs;obtain ⟨y,hy,e0,e⟩:=h.wt s h8 hd p hp;rw [h6];refine ⟨y,hm.2 (.inr ⟨hy,fun q=>?_⟩),e0,e⟩;unfold BW at hw;rw [DT hd,DT (show x.PE∈s.NE by rw [←q,e];exact hp)] at hw;simp at hw
def Yp:NO:=⟨⟨⟨0,0,[]⟩,0,[]⟩,⟨0,[]⟩,[],[],[]⟩
def Dh (e:Int) (m:NO) (V:List EV):NO×List ML×List EV×Int:=if e=0 then ((Bu m [] V).1,(Bu m [] V).2.1,(Bu m [] V).2.2,0) else (Yp,[],[],e)
def addS (n:NO) (p:Int):SX:=⟨p,BG n.KN p+1,1,true,true,false,true,false⟩
def AW (n:NO) (a:Do):Int×NO×List EV:=
 if a.KI=0∨a.KI=1∨a.KI=2∨a.KI=3 then CG n a
 else if a.KI=4 then
  (if n.DK.DI.ID<a.PE∧a.PE<64 then (match C6 n.DK.DI.SD a.PE with
    | some _=>(183,n,[])
    | none=>if BG n.KN a.PE<65535 then (0,IN n (addS n a.PE) n.AK,[]) else (186,n,[])) else (182,n,[]))
 else if a.KI=5 then
  (if n.DK.DI.ID<a.PE∧a.PE<64 then (match C6 n.DK.DI.SD a.PE with
    | none=>(184,n,[])
    | some j=>match n.DK.DI.SD[j]? with
      | none=>(184,n,[])
      | some x=>if x.SS=0 then (0,Bg n j x,Gg n a.PE) else (185,n,[])) else (182,n,[]))
 else (188,n,[])
theorem UB (m:NO) (V:List EV) (e:Int) (x3:List SX×List Int×List KE×List Int×List KE×List SE) (J:x3.2.2.2.1=m.TL) (E:x3.2.2.2.2.1=m.AK) (h:e=0→OkN m) (U:V.length≤100000):
  G3 x3 (m.DK.DI.ID,m.DK.DI.PH,m.DK.TH,m.BK.LA,m.BK.SE,e,m.DK.DI.SD,m.DK.NE,m.KN,V)=some (Dh e m V):=by
 dsimp only [G3];rw [J,E];unfold Dh;by_cases he:e=0
 ·subst he;rw [mG m (h rfl) V U,OB,if_pos rfl];rfl
 ·rw [mH _ _ _ _ e _ he,OB,if_neg he];rfl
theorem OkN.book {n:NO} (h:OkN n) {b:BK} (hb:BkOK b) (hg:n.DK.TH=2↔∃s l,b.SE=s::l∧s.SS=1) (hq:n.DK.TH=0∨∃s l,b.SE=s::l∧s.NE=n.DK.NE)
  (E:∀s∈b.SE,s.SS=0→∀p∈s.NE,∃x∈n.DK.DI.SD,x.SS=0∧x.PE=p):OkN (UJ n b):=
 {h with bk:=(Eh _).2 hb,th:=by rw [EF];exact hg,hq:=by rw [Hf];exact hq,wt:=E}
theorem OkN.calm {n:NO} (h:OkN n) {b:BK} (hb:BkOK b) (h0:∀s∈b.SE,s.SS=0) (E:∀s∈b.SE,s.SS=0→∀p∈s.NE,∃x∈n.DK.DI.SD,x.SS=0∧x.PE=p):OkN (M3 n b):=
 {h with
  dr:=⟨h.dr.din,by show (0:Int)≤0;omega,by show (0:Int)≤2;omega,.nil,fun _=>rfl,fun p hp=>by have:p∈([]:List Int):=hp;simp at this⟩
  bk:=(Eh _).2 hb
  th:=by
   rw [EF];constructor
   ·intro e;have:(0:Int)=2:=e;omega
   ·rintro ⟨s,l,e,hs⟩;have e:b.SE=s::l:=e;have:=h0 s (by rw [e];simp);omega
  hq:=.inl rfl
  nl:=fun x _ hx=>by have:x.PE∈([]:List Int):=hx;simp at this
  wt:=E}
theorem gq {b:BK} {id w:Int} (h:(DA b id w).2=0):∃i s,b.SE[i]?=some s∧s.ID=id∧s.SS=w∧(DA b id w).1=⟨b.LA,b.SE.take i++b.SE.drop (i+1)⟩:=by
 unfold DA at h ⊢;split at h
 ·rename_i hk;rw [if_pos hk];cases hf:Ma b id with
  | none=>rw [hf] at h;simp at h
  | some i=>
    obtain ⟨s,hs,h6⟩:=gw hf;rw [hf] at h;dsimp only at h ⊢;rw [hs] at h;dsimp only at h;rw [hs];split at h
    ·rename_i hw;exact ⟨i,s,hs,h6,hw,by dsimp only;rw [if_pos hw]⟩
    ·simp at h
 ·simp at h
theorem UR {α:Type} {l:List α} {i:Nat} {x:α} (h:x∈l.take i++l.drop (i+1)):x∈l:=(US l i).subset h
structure EvOK (id:Int) (v:EV):Prop where
 node:v.NO=id
 edge:6≤v.KI→v.ID=0
 sess:v.KI<6→v.PE=0
 need:v.KI≠0→v.NE=[]
theorem nk {n:NO} {a:Do} (h:OkN n) (he:(CG n a).1=0):OkN (CG n a).2.1∧(CG n a).2.1.DK.DI=n.DK.DI∧(CG n a).2.1.TL=n.TL∧(CG n a).2.1.AK=n.AK∧(CG n a).2.1.KN=n.KN∧(∀v∈(CG n a).2.2,EvOK n.DK.DI.ID v∧v.KI≠1)∧(CG n a).2.2.length≤1:=by
 have h6:=(Eh _).1 h.bk;have hA:n.DK.TH≠2→∀s∈n.BK.SE,s.SS=0:=fun h2 s hs=>by
  cases hb:n.BK.SE with
  | nil=>rw [hb] at hs;simp at hs
  | cons t r=>
    have h8:=h6.tl;rw [hb] at h8 hs;rcases List.mem_cons.1 hs with rfl | hs
    ·rcases i6 h6 hb with e | e
     ·exact absurd (h.th.2 ((EF n).2 ⟨s,r,hb,e⟩)) h2
     ·exact e
    ·exact h8 s hs
 revert he;unfold CG;split
 ·split
  ·rename_i k0 e0;split
   ·rename_i hw;intro _;refine ⟨?_,rfl,rfl,rfl,rfl,?_,by simp⟩
    ·have hE:n.BK.LA<a.ID∧Ga (Bm a.NE)=true∧n.BK.SE.length≠8∧Ge n.BK a.ID a.NE=(⟨a.ID,n.BK.SE++[⟨a.ID,Bm a.NE,0,0⟩]⟩,0):=by
      unfold Ge at e0 ⊢;rw [if_pos h.bk] at e0 ⊢;by_cases c1:a.ID≤n.BK.LA
      ·rw [if_pos c1] at e0;simp at e0
      ·rw [if_neg c1] at e0 ⊢;cases c2:Ga (Bm a.NE) with
       | false=>rw [c2] at e0;simp at e0
       | true=>
         rw [c2,if_pos rfl] at e0;rw [if_pos rfl];by_cases c3:n.BK.SE.length=8
         ·rw [if_pos c3] at e0;simp at e0
         ·rw [if_neg c3];exact ⟨Om,rfl,c3,rfl⟩
     obtain ⟨o1,o2,o3,o4⟩:=hE;have hB:=FH a.NE;have hK:=h6.last;have hL:=h6.len;rw [o4];refine h.book ⟨by show 0≤a.ID;omega,by show (n.BK.SE++[_]).length≤8;rw [AN];omega,?_,fun s hs=>?_,fun s hs=>?_⟩ ?_ ?_ fun s hs hG p hp=>?_
     ·show (n.BK.SE++[_]).Pairwise _;rw [List.pairwise_append];refine ⟨h6.up,by simp,fun s hs t ht=>?_⟩;simp at ht;subst ht;have:=(h6.ok s hs).hi;show s.ID<a.ID;omega
     ·have hs:s∈n.BK.SE++[⟨a.ID,Bm a.NE,0,0⟩]:=hs;rcases List.mem_append.1 hs with hs | hs
      ·have:=h6.ok s hs;exact {this with hi:=by have:=this.hi;show s.ID≤a.ID;omega}
      ·simp at hs;subst hs;exact ⟨by show 0<a.ID;omega,by show a.ID≤a.ID;omega,o2,hB.1,by show (0:Int)≤0;omega,.inr ⟨rfl,rfl⟩⟩
     ·have hs:s∈(n.BK.SE++[(⟨a.ID,Bm a.NE,0,0⟩:SE)]).tail:=hs;cases hb:n.BK.SE with
      | nil=>rw [hb] at hs;simp at hs
      | cons t r=>
        have h8:=h6.tl;rw [hb] at h8 hs;have hs:s∈r++[⟨a.ID,Bm a.NE,0,0⟩]:=hs;rcases List.mem_append.1 hs with hs | hs
        ·exact h8 s hs
        ·simp at hs;subst hs;rfl
     ·rw [h.th,EF];show (∃s l,n.BK.SE=s::l∧s.SS=1)↔∃s l,n.BK.SE++[⟨a.ID,Bm a.NE,0,0⟩]=s::l∧s.SS=1;cases hb:n.BK.SE with
      | nil=>simp
      | cons t r=>simp
     ·rcases h.hq with q | q
      ·exact .inl q
      ·right;obtain ⟨s,l,hb,hn⟩:=(Hf n).1 q;exact ⟨s,l++[⟨a.ID,Bm a.NE,0,0⟩],by show n.BK.SE++_=_;rw [hb];rfl,hn⟩
     ·have hs:s∈n.BK.SE++[⟨a.ID,Bm a.NE,0,0⟩]:=hs;rcases List.mem_append.1 hs with hs | hs
      ·exact h.wt s hs hG p hp
      ·simp at hs;subst hs;have:=List.all_eq_true.1 hw p ((hB.2 p).1 hp);rw [decide_eq_true_eq,cD] at this;obtain ⟨x,hx,hl,e⟩:=this;exact ⟨x,hx,by simpa [E4] using hl,e⟩
    ·intro v hv;simp at hv;subst hv;exact ⟨⟨rfl,fun q=>by have q:(6:Int)≤0:=q;omega,fun _=>rfl,fun q=>absurd rfl q⟩,by show (0:Int)≠1;omega⟩
   ·intro he;simp at he
  ·rename_i e0;exact fun he=>absurd he e0
 ·split
  ·split
   ·rename_i e0;intro _;obtain ⟨i,s,hs,hC,hI,eb⟩:=gq e0;refine ⟨?_,rfl,rfl,rfl,rfl,?_,by simp⟩
    ·rw [eb];have hz:∀t∈n.BK.SE.take i++n.BK.SE.drop (i+1),t.SS=0:=by
      intro t ht;cases hb:n.BK.SE with
      | nil=>rw [hb] at hs;simp at hs
      | cons u r=>
        have h8:=h6.tl;rw [hb] at h8 hs ht;cases i with
        | zero=>exact h8 t (by simpa using ht)
        | succ i=>have:s∈r:=List.mem_of_getElem? (by simpa using hs);have:=h8 s this;omega
     exact h.calm (h6.sub (US _ _)) hz fun t ht h0 p hp=>h.wt t (UR ht) h0 p hp
    ·intro v hv;simp at hv;subst hv;exact ⟨⟨rfl,fun q=>by have q:(6:Int)≤2:=q;omega,fun _=>rfl,fun _=>rfl⟩,by show (2:Int)≠1;omega⟩
   ·rename_i e0;exact fun he=>absurd he e0
  ·split
   ·split
    ·rename_i e0;intro _;obtain ⟨i,s,hs,hC,hI,eb⟩:=gq e0;have hD:∀v∈ [(⟨3,n.DK.DI.ID,a.ID,0,[]⟩:EV)],EvOK n.DK.DI.ID v∧v.KI≠1:=fun v hv=>by simp at hv;subst hv;exact ⟨⟨rfl,fun q=>by have q:(6:Int)≤3:=q;omega,fun _=>rfl,fun _=>rfl⟩,by show (3:Int)≠1;omega⟩
     have hw:∀t∈n.BK.SE.take i++n.BK.SE.drop (i+1),t.SS=0→∀p∈t.NE,∃x∈n.DK.DI.SD,x.SS=0∧x.PE=p:=fun t ht h0 p hp=>h.wt t (UR ht) h0 p hp;split
     ·rename_i hc;refine ⟨?_,rfl,rfl,rfl,rfl,hD,by simp⟩;rw [eb];exact h.calm (h6.sub (US _ _)) (fun t ht=>hA Om t (UR ht)) hw
     ·rename_i hc;refine ⟨?_,rfl,rfl,rfl,rfl,hD,by simp⟩;rw [eb];have hd:n.DK.TH≠0→∃t r,n.BK.SE=t::r∧t.NE=n.DK.NE∧∃r',n.BK.SE.take i++n.BK.SE.drop (i+1)=t::r':=fun hz=>by
       obtain ⟨t,r,hb,hn⟩:=(Hf n).1 (by rcases h.hq with q | q;exact absurd q hz;exact q);refine ⟨t,r,hb,hn,?_⟩;cases i with
       | succ i=>rw [hb];exact ⟨_,rfl⟩
       | zero=>
         exfalso;rw [hb] at hs;simp at hs;subst hs;have h0:=h.dr.t0;have h2:=h.dr.t2;by_cases e1:n.DK.TH=1
         ·exact hc ⟨by rw [gG hb];exact hC,e1⟩
         ·obtain ⟨t',r',hb',hs',_⟩:=h.drinks Om;rw [hb] at hb';simp only [List.cons.injEq] at hb';rw [←hb'.1] at hs';omega
      refine h.book (h6.sub (US n.BK.SE i)) ?_ ?_ hw
      ·constructor
       ·intro h2;obtain ⟨t,r,hb,_,r',e⟩:=hd Om;obtain ⟨t',r2,hb',hs',_⟩:=h.drinks h2;rw [hb] at hb';simp only [List.cons.injEq] at hb';exact ⟨t,r',e,by rw [hb'.1];exact hs'⟩
       ·rintro ⟨t,r',e,ht⟩;have hJ:t∈n.BK.SE:=UR (i:=i) (by rw [show n.BK.SE.take i++n.BK.SE.drop (i+1)=t::r' from e];simp);by_cases h2:n.DK.TH=2
        ·exact h2
        ·have:=hA h2 t hJ;omega
      ·by_cases hz:n.DK.TH=0
       ·exact .inl hz
       ·obtain ⟨t,r,hb,hn,r',e⟩:=hd hz;exact .inr ⟨t,r',e,hn⟩
    ·rename_i e0;exact fun he=>absurd he e0
   ·split
    ·have h9:=h6.tick a.Hold;split
     ·rename_i e0;intro _;refine ⟨?_,rfl,rfl,rfl,rfl,by simp,by simp⟩;unfold FJ at e0 h9 ⊢;cases hb:n.BK.SE with
      | nil=>exact h
      | cons s l=>
        rw [hb] at e0 h9;dsimp only at e0 h9 ⊢;by_cases h1:s.SS=1
        ·rw [if_pos h1] at e0 h9 ⊢;by_cases hh:(FL s).Age<a.Hold
         ·rw [if_pos hh] at h9 ⊢;refine h.book h9 ?_ ?_ fun t ht h0 p hp=>?_
          ·constructor
           ·intro _;exact ⟨FL s,l,rfl,h1⟩
           ·intro _;exact h.th.2 ((EF n).2 ⟨s,l,hb,h1⟩)
          ·rcases h.hq with q | q
           ·exact .inl q
           ·obtain ⟨t,r,hb',hn⟩:=(Hf n).1 q;rw [hb] at hb';simp only [List.cons.injEq] at hb';exact .inr ⟨FL s,l,rfl,by rw [←hn,←hb'.1];rfl⟩
          ·have ht:t∈FL s::l:=ht;rcases List.mem_cons.1 ht with rfl | ht
           ·have h0:s.SS=0:=h0;omega
           ·exact h.wt t (by rw [hb];exact List.mem_cons_of_mem _ ht) h0 p hp
         ·rw [if_neg hh] at e0;have:=(h6.ok s (by rw [hb];simp)).lo;have e0:s.ID=0:=e0;omega
        ·rw [if_neg h1];exact h
     ·rename_i e0;intro _;refine ⟨?_,rfl,rfl,rfl,rfl,?_,by simp⟩
      ·unfold FJ at e0 h9 ⊢;cases hb:n.BK.SE with
       | nil=>rw [hb] at e0;exact absurd rfl e0
       | cons s l=>
         rw [hb] at e0 h9;dsimp only at e0 h9 ⊢;by_cases h1:s.SS=1
         ·rw [if_pos h1] at e0 h9 ⊢;by_cases hh:(FL s).Age<a.Hold
          ·rw [if_pos hh] at e0;exact absurd rfl e0
          ·rw [if_neg hh] at h9 ⊢;have h8:=h6.tl;rw [hb] at h8;exact h.calm h9 (fun t ht=>h8 t ht) fun t ht h0 p hp=>h.wt t (by rw [hb];exact List.mem_cons_of_mem _ ht) h0 p hp
         ·rw [if_neg h1] at e0;exact absurd rfl e0
      ·intro v hv;simp at hv;subst hv;exact ⟨⟨rfl,fun q=>by have q:(6:Int)≤4:=q;omega,fun _=>rfl,fun _=>rfl⟩,by show (4:Int)≠1;omega⟩
    ·intro _;exact ⟨h,rfl,rfl,rfl,rfl,by simp,by simp⟩
def BD (n:NO):List SX×List Int×List KE×List Int×List KE×List SE:=(n.DK.DI.SD,n.DK.NE,n.KN,n.TL,n.AK,n.BK.SE)
def aS (a:Do):Bool:=decide (a.KI=0∨a.KI=1∨a.KI=2∨a.KI=3)
theorem q8 (n:NO) (a:Do) (hf:FewN n):JF n a=JG n a (BD n) (if Lv n then 0 else 180) (Bf (C6 n.DK.DI.SD a.PE)) (BG n.KN a.PE) (aS a):=by
 have hS:=hf.sides;unfold JF;rw [mC n hf,OB,YX n hf,OB,dI _ _ (show _≤_ by dsimp only;omega),OB,dA n hf,OB];unfold aS BD;by_cases c0:a.KI=0
 ·simp [c0,A0]
 ·by_cases c1:a.KI=1
  ·simp [c1,A0]
  ·by_cases c2:a.KI=2
   ·simp [c2,A0]
   ·by_cases c3:a.KI=3
    ·simp [c3,A0]
    ·simp [c0,c1,c2,c3,A0]
theorem Pv {n:NO} {a:Do} (h:OkN n) (he:(AW n a).1=0):OkN (AW n a).2.1∧(AW n a).2.1.DK.DI.ID=n.DK.DI.ID∧(AW n a).2.1.TL=n.TL∧(AW n a).2.1.AK=n.AK∧(∀v∈(AW n a).2.2,EvOK n.DK.DI.ID v∧v.KI≠1)∧(AW n a).2.2.length≤1000:=by
 revert he;unfold AW;split
 ·intro he;obtain ⟨h1,h2,h3,h4,h5,h6,h7⟩:=nk h he;exact ⟨h1,by rw [h2],h3,h4,h6,Om⟩
 ·split
  ·split
   ·rename_i hp;cases h8:C6 n.DK.DI.SD a.PE with
    | some j=>intro he;simp at he
    | none=>
      dsimp only;split
      ·rename_i hq;intro _;have h0:=PN h.kup (fun k hk=>(h.kr k hk).2.2) a.PE;have hd:=h.dr.din.id0;refine ⟨h.put (x:=addS n a.PE) ⟨by show 0≤a.PE;omega,hp.2,by show a.PE≠_;omega⟩ (dg h8) ⟨by show 1≤BG n.KN a.PE+1;omega,by show BG n.KN a.PE+1≤65535;omega⟩ (.inr ⟨rfl,by show n.DK.DI.ID≤a.PE;omega⟩) (fun _=>rfl) (fun k hk=>⟨hk,by have:=h.may k hk;show k.PE≠a.PE;omega⟩) h.dis,rfl,rfl,rfl,by simp,by simp⟩
      ·intro he;simp at he
   ·intro he;simp at he
  ·split
   ·split
    ·cases h8:C6 n.DK.DI.SD a.PE with
     | none=>intro he;simp at he
     | some j=>
       dsimp only;obtain ⟨x,hx,hw⟩:=OY h8;rw [hx];dsimp only;split
       ·rename_i h0;intro _;have hg:=Mh a.PE n.BK.SE;have hb:=((Eh _).1 h.bk).len;have h9:(Bg n j x).DK.DI.ID=n.DK.DI.ID:=by unfold Bg;dsimp only;split<;>rfl
        refine ⟨h.shut hx h0,h9,rfl,rfl,fun v hv=>?_,by unfold Gg I1;simp only [List.length_cons,List.length_map];omega⟩;rcases List.mem_cons.1 hv with rfl | hv
        ·exact ⟨⟨rfl,fun _=>rfl,fun q=>by have q:(7:Int)<6:=q;omega,fun _=>rfl⟩,by show (7:Int)≠1;omega⟩
        ·obtain ⟨i,_,rfl⟩:=List.mem_map.1 hv;exact ⟨⟨rfl,fun q=>by have q:(6:Int)≤5:=q;omega,fun _=>rfl,fun _=>rfl⟩,by show (5:Int)≠1;omega⟩
       ·intro he;simp at he
    ·intro he;simp at he
   ·intro he;simp at he
theorem lX (n:NO) (a:Do) (h:OkN n) (ha:a.NE.length≤1000):JF n a=some (Dh (AW n a).1 (AW n a).2.1 (AW n a).2.2):=by
 have hf:=h.few;have hok:=fun he=>Pv (a:=a) h he;have bad:∀e:Int,e≠0→G3 (BD n) (n.DK.DI.ID,n.DK.DI.PH,n.DK.TH,n.BK.LA,n.BK.SE,e,n.DK.DI.SD,n.DK.NE,n.KN,[])=some (Dh e n []):=fun e he=>UB n [] e (BD n) rfl rfl (fun q=>absurd q he) (by simp);have n2:∀(is:Bool) (c e:Int),DU is c n.DK.DI.ID n.DK.DI.PH n.DK.TH n.BK.LA e (BD n).1 (BD n).2.1 (BD n).2.2.2.2.2 (BD n).2.2.1 (BD n).2.2.2.1 (BD n).2.2.2.2.1=some (decide (De is c e=0),De is c e):=fun is c e=>Ug _ _ _ _ _ _ _ _ _ _ _ _ _;have n3:∀c e,F9 c n.DK.DI.ID n.DK.DI.PH n.DK.TH n.BK.LA e (BD n).1 (BD n).2.1 (BD n).2.2.2.2.2 (BD n).2.2.1 (BD n).2.2.2.1 (BD n).2.2.2.2.1=some (decide (De false c e=0),De false c e):=fun c e=>dG _ _ _ _ _ _ _ _ _ _ _ _;rw [q8 n a hf,(IL n).2 h,if_pos rfl];dsimp only [JG];unfold aS;by_cases hk:a.KI=0∨a.KI=1∨a.KI=2∨a.KI=3
 ·have eA:AW n a=CG n a:=by unfold AW;rw [if_pos hk]
  rw [eA] at hok ⊢;rw [DT hk,A3,DT rfl,A3];have hs:=Z0r n a h ha;have hs:NG a n.DK.DI.ID n.DK.DI.PH n.DK.TH n.BK.LA 0 (BD n).1 (BD n).2.1 (BD n).2.2.2.2.2 (BD n).2.2.1 (BD n).2.2.2.1 (BD n).2.2.2.2.1=_:=hs;rw [hs,OB];by_cases he:(CG n a).1=0
  ·obtain ⟨h1,_,h3,h4,h5,h6⟩:=hok he;obtain ⟨_,_,_,_,q5,_⟩:=nk h he;have:=UB (CG n a).2.1 (CG n a).2.2 (CG n a).1 (BD n) h3.symm h4.symm (fun _=>h1) Om;rw [q5] at this;exact this
  ·have e:(CG n a).2.1=n∧(CG n a).2.2=[]:=by
    revert he;unfold CG;split
    ·split
     ·split
      ·intro he;exact absurd rfl he
      ·intro _;exact ⟨rfl,rfl⟩
     ·intro _;exact ⟨rfl,rfl⟩
    ·split
     ·split
      ·intro he;exact absurd rfl he
      ·intro _;exact ⟨rfl,rfl⟩
     ·split
      ·split
       ·intro he;exact absurd rfl he
       ·intro _;exact ⟨rfl,rfl⟩
      ·split
       ·split
        ·intro he;exact absurd rfl he
        ·intro he;exact absurd rfl he
       ·intro he;exact absurd rfl he
   have:=bad (CG n a).1 he;rw [e.1,e.2];exact this
 ·rw [DN hk,A1];unfold AW;rw [if_neg hk];by_cases k4:a.KI=4
  ·rw [DT k4,A3,if_pos k4];have j3b:∀e:Int,e≠0→KX n a (BD n) (Bf (C6 n.DK.DI.SD a.PE)) (BG n.KN a.PE) e=some (Dh e n []):=fun e he=>by dsimp only [KX];rw [n2,OB,OI _ he,n2,OB,OI _ he,DN he];exact bad e he
   by_cases c1:n.DK.DI.ID<a.PE
   ·rw [DT c1,A3,n2,OB];by_cases c2:a.PE<64
    ·rw [DT c2,FB,if_pos ⟨c1,c2⟩];dsimp only [KX];rw [n2,OB];cases h8:C6 n.DK.DI.SD a.PE with
     | some j=>rw [show Bf (some j)=(j:Int) from rfl,DN (show ¬(j:Int)<0 by omega),Ev];dsimp only;rw [n2,OB,OI _ Om];exact bad 183 Om
     | none=>
       rw [show Bf none = -1 from rfl,DT (show (-1:Int)<0 by omega),FB];dsimp only;rw [n2,OB];by_cases c3:BG n.KN a.PE<65535
       ·have eA:AW n a=(0,IN n (addS n a.PE) n.AK,[]):=by unfold AW;rw [if_neg hk,if_pos k4,if_pos ⟨c1,c2⟩,h8];dsimp only;rw [if_pos c3]
        rw [if_pos c3];rw [DT c3,FB,DT rfl,A3];have h0:=PN h.kup (fun k hk=>(h.kr k hk).2.2) a.PE;have hd:NF (addS n a.PE) n.DK.DI.ID n.DK.DI.PH n.DK.TH n.BK.LA 0 (BD n).1 (BD n).2.1 (BD n).2.2.2.2.2 (BD n).2.2.1 (BD n).2.2.2.1 (BD n).2.2.2.2.1=some (D9 n.DK.DI.SD (addS n a.PE),CZ n.KN (addS n a.PE).PE (addS n a.PE).EP):=Z0h (addS n a.PE) _ _ _ _ _ _ _ _ _ _ _ h.rowS h.rowK (by have:=h.dr.din.id0;show -100000≤a.PE∧a.PE≤100000;omega);rw [show (⟨a.PE,wr (BG n.KN a.PE+1),1,true,true,false,true,false⟩:SX)=addS n a.PE by unfold addS;rw [CT Om Om],hd,OB];obtain ⟨h1,_,h3,h4,h5,h6⟩:=hok (by rw [eA]);rw [eA] at h1;exact UB (IN n (addS n a.PE) n.AK) [] 0 (BD n) rfl rfl (fun _=>h1) (by simp)
       ·rw [if_neg c3,DN c3,Ev];dsimp only;rw [DN (show ¬(186:Int)=0 by omega),A1];exact bad 186 Om
    ·rw [DN c2,Ev,if_neg fun q=>c2 q.2];exact j3b 182 Om
   ·rw [DN c1,A1,n3,OB,Ev,if_neg fun q=>c1 q.1];exact j3b 182 Om
  ·rw [DN k4,A1,if_neg k4];by_cases k5:a.KI=5
   ·rw [DT k5,A3,if_pos k5];have j4b:∀e:Int,e≠0→KY n a (BD n) (Bf (C6 n.DK.DI.SD a.PE)) e=some (Dh e n []):=fun e he=>by dsimp only [KY];rw [n2,OB,OI _ he,DN he];exact bad e he
    by_cases c1:n.DK.DI.ID<a.PE
    ·rw [DT c1,A3,n2,OB];by_cases c2:a.PE<64
     ·rw [DT c2,FB,if_pos ⟨c1,c2⟩];dsimp only [KY];rw [n2,OB];cases h8:C6 n.DK.DI.SD a.PE with
      | none=>rw [show Bf none = -1 from rfl,DN (show ¬(0:Int)≤ -1 by omega),Ev];exact bad 184 Om
      | some j=>
        obtain ⟨x,hx,hw⟩:=OY h8;rw [show Bf (some j)=(j:Int) from rfl,DT (show (0:Int)≤j by omega),FB];dsimp only;rw [DT rfl,A3,show (BD n).1=n.DK.DI.SD from rfl,Aj hx,OB,hx];dsimp only;have hA:Iq x=some (decide (x.SS=0)):=rfl;rw [hA,OB,Ug,OB];dsimp only [Ry];by_cases h0:x.SS=0
        ·rw [if_pos h0,DT h0,FB,DT rfl,A3];have h9:=mI n h a.PE j x h8 hx hw 0;have h9:La a.PE n.DK.DI.ID n.DK.DI.PH n.DK.TH n.BK.LA 0 (BD n).1 (BD n).2.1 (BD n).2.2.2.2.2 (BD n).2.2.1 (BD n).2.2.2.1 (BD n).2.2.2.2.1=_:=h9;rw [h9,OB];have hg:=Mh a.PE n.BK.SE;have hb:=((Eh _).1 h.bk).len;exact UB (Bg n j x) (Gg n a.PE) 0 (BD n) rfl rfl (fun _=>h.shut hx h0) (by unfold Gg I1;simp only [List.length_cons,List.length_map];omega)
        ·rw [if_neg h0,DN h0,Ev,DN (show ¬(185:Int)=0 by omega),A1];exact bad 185 Om
     ·rw [DN c2,Ev,if_neg fun q=>c2 q.2];exact j4b 182 Om
    ·rw [DN c1,A1,n3,OB,Ev,if_neg fun q=>c1 q.1];exact j4b 182 Om
   ·rw [DN k5,A1,if_neg k5,n3,OB,Ev];exact bad 188 Om
theorem OkN.sides {n:NO} (h:OkN n) {S:List SX} (hc:S.map CP=n.DK.DI.SD.map CP) (E:∀x∈S,x.DY=true→x.FK=true):OkN ⟨⟨⟨n.DK.DI.ID,n.DK.DI.PH,S⟩,n.DK.TH,n.DK.NE⟩,n.BK,n.KN,n.TL,n.AK⟩:=by
 have side:∀ {x:SX},x∈S→∃y∈n.DK.DI.SD,y.PE=x.PE∧y.EP=x.EP∧y.SS=x.SS:=fun hx=>HV hc hx;have edis:∀ {x:SX},x∈n.DK.DI.SD→∃y∈S,y.PE=x.PE∧y.EP=x.EP∧y.SS=x.SS:=fun hx=>HV hc.symm hx;have hl:S.length=n.DK.DI.SD.length:=by have:=congrArg List.length hc;rwa [List.length_map,List.length_map] at this
 refine {h with
  dr:=⟨⟨h.dr.din.id0,h.dr.din.p0,h.dr.din.p2,by show S.length<64;rw [hl];exact h.dr.din.len,P0 (rg hc) h.dr.din.up,fun x hx=>?_⟩,h.dr.t0,h.dr.t2,h.dr.up,h.dr.nz,fun p hp=>?_⟩
  may:=fun k hk=>⟨fun x hx=>?_,(h.may k hk).2⟩
  sd:=fun x hx=>?_
  tin:=fun p hp=>?_
  nl:=fun x hx hn=>?_
  wt:=fun s hs h0 p hp=>?_}
 ·obtain ⟨y,hy,e1,e2,e3⟩:=side hx;have:=h.dr.din.side y hy;exact ⟨by rw [←e1];exact this.lo,by rw [←e1];exact this.ne,by rw [←e2];exact this.e0,by rw [←e2];exact this.e1,by rw [←e3];exact this.s0,by rw [←e3];exact this.s3,E x hx⟩
 ·obtain ⟨x,hx,e⟩:=h.dr.has p hp;obtain ⟨y,hy,e1,_⟩:=edis hx;exact ⟨y,hy,Om⟩
 ·obtain ⟨y,hy,e1,_⟩:=side hx;rw [←e1];exact (h.may k hk).1 y hy
 ·obtain ⟨y,hy,e1,e2,e3⟩:=side hx;have:=h.sd y hy;rw [←e1,←e2,←e3];exact this
 ·obtain ⟨x,hx,e,e'⟩:=h.tin p hp;obtain ⟨y,hy,e1,_,e3⟩:=edis hx;exact ⟨y,hy,Om,Om⟩
 ·obtain ⟨y,hy,e1,_,e3⟩:=side hx;rw [←e3];exact h.nl y hy (by rw [e1];exact hn)
 ·obtain ⟨x,hx,e,e'⟩:=h.wt s hs h0 p hp;obtain ⟨y,hy,e1,_,e3⟩:=edis hx;exact ⟨y,hy,Om,Om⟩
theorem wu (k:Int) (x:SX):CP (CE k x)=CP x:=by
 unfold CE;split
 ·rfl
 ·split
  ·rfl
  ·split<;>rfl
theorem wv (k:Int) (x:SX) (h:x.DY=true→x.FK=true):(CE k x).DY=true→(CE k x).FK=true:=by
 unfold CE;split
 ·exact fun _=>rfl
 ·split
  ·exact h
  ·split<;>exact h
theorem Z0Z {S:List SX} {j:Nat} {x y:SX} (h:S[j]?=some x) (hc:CP y=CP x):(S.set j y).map CP=S.map CP:=by
 obtain ⟨e1,e2⟩:=dR h y;rw [e2]
 conv=>rhs;rw [e1]
 simp [hc]
def Mv (n:NO) (j:Nat) (x:SX) (k:Int):NO:=⟨⟨⟨n.DK.DI.ID,n.DK.DI.PH,n.DK.DI.SD.set j (CE k x)⟩,n.DK.TH,n.DK.NE⟩,n.BK,n.KN,n.TL,n.AK⟩
theorem OkN.lay {n:NO} (h:OkN n) {j:Nat} {x:SX} (hx:n.DK.DI.SD[j]?=some x) (k:Int):OkN (Mv n j x k):=by
 refine h.sides (Z0Z hx (wu k x)) fun z hz=>?_;rcases (Pd h.rowS.up hx _).1 hz with rfl | ⟨hz,_⟩
 ·exact wv k x (h.dr.din.side x (List.mem_of_getElem? hx)).df
 ·exact (h.dr.din.side z hz).df
def LV (n:NO) (k:KE):NO:=⟨n.DK,n.BK,n.KN,n.TL,n.AK++[k]⟩
theorem OkN.ask {n:NO} (h:OkN n) {k:KE} (hm:Fb n k=true) (E:EB (n.AK++[k])=true):OkN (LV n k):=
 {h with
  may:=fun q hq=>by
   have hq:q∈n.AK++[k]:=hq;rcases List.mem_append.1 hq with hq | hq
   ·exact h.may q hq
   ·simp at hq;subst hq;exact (cy n _).1 hm
  dis:=by unfold EB at E;rw [decide_eq_true_eq] at E;exact E}
def Hh (n:NO) (j:Nat) (x:SX):NO:=⟨⟨⟨n.DK.DI.ID,n.DK.DI.PH,n.DK.DI.SD.set j {x with SS:=0}⟩,n.DK.TH,n.DK.NE⟩,n.BK,n.KN,(Bm n.TL).filter fun z=>!decide (z∈ [x.PE]),n.AK⟩
theorem OkN.live {n:NO} (h:OkN n) {j:Nat} {x:SX} (hx:n.DK.DI.SD[j]?=some x):OkN (Hh n j x):=by
 have h6:=List.mem_of_getElem? hx;have hm:∀ {z:SX},z∈(Hh n j x).DK.DI.SD↔z={x with SS:=0}∨z∈n.DK.DI.SD∧z.PE≠x.PE:=fun {z}=>Pd (z:=z) h.rowS.up hx {x with SS:=0};refine {h with
  dr:=h.dr.state hx Om
  may:=fun k hk=>⟨fun z hz=>?_,(h.may k hk).2⟩
  sd:=fun z hz=>?_
  told:=(FH n.TL).1.filter _
  tin:=fun p hp=>?_
  nl:=fun z hz hn=>?_
  wt:=fun s hs h0 p hp=>?_}
 ·rcases hm.1 hz with rfl | ⟨hz,_⟩
  ·exact (h.may k hk).1 x h6
  ·exact (h.may k hk).1 z hz
 ·rcases hm.1 hz with rfl | ⟨hz,_⟩
  ·have:=h.sd x h6;exact ⟨this.1,this.2.1,this.2.2.1,fun e=>by have e:(0:Int)=1∨(0:Int)=3:=e;omega⟩
  ·exact h.sd z hz
 ·obtain ⟨h1,h2⟩:=List.mem_filter.1 hp;obtain ⟨z,hz,e1,e⟩:=h.tin p (((FH n.TL).2 p).1 h1);refine ⟨z,hm.2 (.inr ⟨hz,fun q=>?_⟩),e1,e⟩;rw [DT (show p∈ [x.PE] by rw [←e,q];simp)] at h2;simp at h2
 ·rcases hm.1 hz with rfl | ⟨hz,_⟩
  ·show (0:Int)≠3;omega
  ·exact h.nl z hz hn
 ·obtain ⟨z,hz,e0,e⟩:=h.wt s hs h0 p hp;by_cases q:z.PE=x.PE
  ·exact ⟨_,hm.2 (.inl rfl),rfl,by show x.PE=p;omega⟩
  ·exact ⟨z,hm.2 (.inr ⟨hz,q⟩),e0,e⟩
def Kl (n:NO) (p:Int):NO:=⟨⟨⟨n.DK.DI.ID,n.DK.DI.PH,n.DK.DI.SD.filter fun x=>!decide (x.PE=p)⟩,n.DK.TH,n.DK.NE⟩,n.BK,n.KN,n.TL,n.AK⟩
theorem OkN.drop {n:NO} (h:OkN n) {x:SX} (hx:x∈n.DK.DI.SD) (h3:x.SS=3):OkN (Kl n x.PE):=by
 have hm:∀ {z:SX},z∈(Kl n x.PE).DK.DI.SD↔z∈n.DK.DI.SD∧z.PE≠x.PE:=fun {z}=>by show z∈n.DK.DI.SD.filter _↔_;rw [List.mem_filter];simp
 have hne:∀ {z:SX},z∈n.DK.DI.SD→z.SS≠3→z.PE≠x.PE:=fun hz hs q=>by have:=Kb h.rowS.up hz hx q;subst this;exact hs h3
 refine {h with
  dr:=⟨⟨h.dr.din.id0,h.dr.din.p0,h.dr.din.p2,Nat.lt_of_le_of_lt (List.length_filter_le _ _) h.dr.din.len,h.dr.din.up.filter _,fun z hz=>h.dr.din.side z (hm.1 hz).1⟩,h.dr.t0,h.dr.t2,h.dr.up,h.dr.nz,fun p hp=>?_⟩
  may:=fun k hk=>⟨fun z hz=>(h.may k hk).1 z (hm.1 hz).1,(h.may k hk).2⟩
  sd:=fun z hz=>h.sd z (hm.1 hz).1
  tin:=fun p hp=>?_
  nl:=fun z hz hn=>h.nl z (hm.1 hz).1 hn
  wt:=fun s hs h0 p hp=>?_}
 ·obtain ⟨z,hz,e⟩:=h.dr.has p hp;exact ⟨z,hm.2 ⟨hz,hne hz (h.nl z hz (by rw [e];exact hp))⟩,e⟩
 ·obtain ⟨z,hz,e1,e⟩:=h.tin p hp;exact ⟨z,hm.2 ⟨hz,hne hz Om⟩,e1,e⟩
 ·obtain ⟨z,hz,e0,e⟩:=h.wt s hs h0 p hp;exact ⟨z,hm.2 ⟨hz,hne hz Om⟩,e0,e⟩
def BI (n:NO) (p:Int):Option (Nat×SX):=match C6 n.DK.DI.SD p with | none=>none | some j=>(n.DK.DI.SD[j]?).map fun x=>(j,x)
def DR (o:Option (Nat×SX)) (m:Msg) (s:Int):Bool:=match o with | none=>false | some (_,x)=>decide (x.EP=m.EP)&&decide (x.SS=s)
def jO (o:Option (Nat×SX)):Nat:=match o with | none=>0 | some (j,_)=>j
def xO (o:Option (Nat×SX)):SX:=match o with | none=>Zc | some (_,x)=>x
def HX (o:Option (Nat×SX)) (m:Msg):Bool:=match o with | none=>false | some (_,x)=>decide (x.EP=m.EP)
def E1 (m:Msg):Bool:=decide (m.KI=1∨m.KI=2∨m.KI=3∨m.KI=4)
def B1 (n:NO) (p:Int) (m:Msg):Int×NO×List EV:=
 if m.Num≠0 then (187,n,[])
 else if E1 m=true then
  (if HX (BI n p) m=true then (if Bc m.KI (xO (BI n p))=true then (187,n,[]) else (0,Mv n (jO (BI n p)) (xO (BI n p)) m.KI,[])) else (0,n,[]))
 else if m.KI=5 then (if Fb n ⟨p,m.EP⟩=true∧EB (n.AK++[⟨p,m.EP⟩])=true then (0,LV n ⟨p,m.EP⟩,[]) else (187,n,[]))
 else if m.KI=6 then (if DR (BI n p) m 1=true∧p∈n.TL then (0,Hh n (jO (BI n p)) (xO (BI n p)),[⟨6,n.DK.DI.ID,0,p,[]⟩]) else (187,n,[]))
 else if m.KI=7 then (if DR (BI n p) m 0=true∧p<n.DK.DI.ID then (0,Bg n (jO (BI n p)) (xO (BI n p)),Gg n p) else (187,n,[]))
 else if m.KI=8 then (if DR (BI n p) m 3=true then (0,Kl n p,[⟨8,n.DK.DI.ID,0,p,[]⟩]) else (187,n,[]))
 else (187,n,[])
theorem LE {n:NO} {p:Int} {j:Nat} {x:SX} (h:BI n p=some (j,x)):C6 n.DK.DI.SD p=some j∧n.DK.DI.SD[j]?=some x∧x.PE=p:=by
 unfold BI at h;cases hp:C6 n.DK.DI.SD p with
 | none=>rw [hp] at h;simp at h
 | some i=>obtain ⟨y,hy,e⟩:=OY hp;rw [hp] at h;dsimp only at h;rw [hy] at h;simp only [Option.map_some,Option.some.injEq,Prod.mk.injEq] at h;obtain ⟨rfl,rfl⟩:=h;exact ⟨rfl,hy,e⟩
theorem dU {n:NO} {p:Int} (h:BI n p=none):C6 n.DK.DI.SD p=none:=by
 unfold BI at h;cases hp:C6 n.DK.DI.SD p with
 | none=>rfl
 | some i=>obtain ⟨y,hy,e⟩:=OY hp;rw [hp] at h;dsimp only at h;rw [hy] at h;simp at h
theorem Jm {n:NO} {p s:Int} {m:Msg} (h:DR (BI n p) m s=true):∃j x,BI n p=some (j,x)∧x.EP=m.EP∧x.SS=s∧n.DK.DI.SD[j]?=some x∧x.PE=p∧C6 n.DK.DI.SD p=some j:=by
 cases hs:BI n p with
 | none=>rw [hs] at h;simp [DR] at h
 | some q=>obtain ⟨j,x⟩:=q;rw [hs] at h;unfold DR at h;simp only [Bool.and_eq_true,decide_eq_true_eq] at h;obtain ⟨h1,h2,h3⟩:=LE hs;exact ⟨j,x,rfl,h.1,h.2,h2,h3,h1⟩
theorem PP {n:NO} {p:Int} {m:Msg} (h:OkN n) (he:(B1 n p m).1=0):OkN (B1 n p m).2.1∧(B1 n p m).2.1.DK.DI.ID=n.DK.DI.ID∧(∀v∈(B1 n p m).2.2,EvOK n.DK.DI.ID v∧v.KI≠1)∧(B1 n p m).2.2.length≤1000:=by
 revert he;unfold B1;split
 ·intro he;simp at he
 ·split
  ·split
   ·rename_i hs;split
    ·intro he;simp at he
    ·intro _;refine ⟨?_,rfl,by simp,by simp⟩;cases hq:BI n p with
     | none=>rw [hq] at hs;simp [HX] at hs
     | some q=>obtain ⟨j,x⟩:=q;exact h.lay (LE hq).2.1 _
   ·intro _;exact ⟨h,rfl,by simp,by simp⟩
  ·split
   ·split
    ·rename_i hc;intro _;exact ⟨h.ask hc.1 hc.2,rfl,by simp,by simp⟩
    ·intro he;simp at he
   ·split
    ·split
     ·rename_i hc;intro _;obtain ⟨j,x,hq,_,_,hx,_,_⟩:=Jm hc.1;rw [hq];refine ⟨h.live hx,rfl,fun v hv=>?_,by simp⟩;simp at hv;subst hv;exact ⟨⟨rfl,fun _=>rfl,fun q=>by have q:(6:Int)<6:=q;omega,fun _=>rfl⟩,by show (6:Int)≠1;omega⟩
     ·intro he;simp at he
    ·split
     ·split
      ·rename_i hc;intro _;obtain ⟨j,x,hq,_,h0,hx,h6,_⟩:=Jm hc.1;rw [hq];have hg:=Mh p n.BK.SE;have hb:=((Eh _).1 h.bk).len;have h8:(Bg n j x).DK.DI.ID=n.DK.DI.ID:=by unfold Bg;dsimp only;split<;>rfl
       refine ⟨h.shut hx h0,h8,fun v hv=>?_,by unfold Gg I1;simp only [List.length_cons,List.length_map];omega⟩;rcases List.mem_cons.1 hv with rfl | hv
       ·exact ⟨⟨rfl,fun _=>rfl,fun q=>by have q:(7:Int)<6:=q;omega,fun _=>rfl⟩,by show (7:Int)≠1;omega⟩
       ·obtain ⟨i,_,rfl⟩:=List.mem_map.1 hv;exact ⟨⟨rfl,fun q=>by have q:(6:Int)≤5:=q;omega,fun _=>rfl,fun _=>rfl⟩,by show (5:Int)≠1;omega⟩
      ·intro he;simp at he
     ·split
      ·split
       ·rename_i hc;intro _;obtain ⟨j,x,hq,_,h3,hx,h6,_⟩:=Jm hc;have:=h.drop (List.mem_of_getElem? hx) h3;rw [h6] at this;refine ⟨this,rfl,fun v hv=>?_,by simp⟩;simp at hv;subst hv;exact ⟨⟨rfl,fun _=>rfl,fun q=>by have q:(8:Int)<6:=q;omega,fun _=>rfl⟩,by show (8:Int)≠1;omega⟩
       ·intro he;simp at he
      ·intro he;simp at he
theorem gO (m:NO) (V:List EV) (e:Int) (K:List KE) (E:K=m.KN) (h:e=0→OkN m) (J:V.length≤100000):
  E5 K (m.DK.DI.ID,m.DK.DI.PH,m.DK.TH,m.BK.LA,m.BK.SE,m.TL,e,m.DK.DI.SD,m.DK.NE,m.AK,V)=some (Dh e m V):=by
 subst E;dsimp only [E5];unfold Dh;by_cases he:e=0
 ·subst he;rw [mG m (h rfl) V J,OB,if_pos rfl];rfl
 ·rw [mH _ _ _ _ e _ he,OB,if_neg he];rfl
theorem Pa (n:NO) (s:Int) (p:Int) (m:Msg) (x:node_node) (hx:x.NO.DK.DI.SD=n.DK.DI.SD):L0 s (Bf (C6 n.DK.DI.SD p)) x m=some (DR (BI n p) m s):=by
 simp only [L0,Nt,hx];cases hq:BI n p with
 | none=>rw [dU hq];rfl
 | some q=>obtain ⟨j,y⟩:=q;obtain ⟨h1,h2,h3⟩:=LE hq;rw [h1,show Bf (some j)=(j:Int) from rfl,DT (show (0:Int)≤j by omega),A3,Aj h2,OB,OB];unfold DR;dsimp only;cases decide (y.EP=m.EP)<;>rfl
theorem tG (n:NO) (p:Int) (m:Msg) (hf:FewN n):Im n p m=Hr n p m n.DK.DI.SD n.DK.NE n.KN n.TL n.AK n.BK.SE (decide (De (decide (m.Num=0)) 187 (if Lv n then 0 else 180)=0),De (decide (m.Num=0)) 187 (if Lv n then 0 else 180)) (Bf (C6 n.DK.DI.SD p)) (E1 m):=by
 have hS:=hf.sides;unfold Im;rw [mC n hf,OB,YX n hf,OB];dsimp only [WI];rw [Ug,OB,dI _ _ (show _≤_ by dsimp only;omega),OB];unfold E1;by_cases c1:m.KI=1
 ·simp [c1,A0]
 ·by_cases c2:m.KI=2
  ·simp [c2,A0]
  ·by_cases c3:m.KI=3
   ·simp [c3,A0]
   ·by_cases c4:m.KI=4
    ·simp [c4,A0]
    ·simp [c1,c2,c3,c4,A0]
theorem tF (n:NO) (p:Int) (m:Msg) (hf:FewN n) (e:Int) (he:e≠0) (z:Bool):Hr n p m n.DK.DI.SD n.DK.NE n.KN n.TL n.AK n.BK.SE (decide (e=0),e) (Bf (C6 n.DK.DI.SD p)) z=some (Yp,[],[],e):=by
 have hA:=hf.asked;have hT:=hf.told;have h6:E5 n.KN (n.DK.DI.ID,n.DK.DI.PH,n.DK.TH,n.BK.LA,n.BK.SE,n.TL,e,n.DK.DI.SD,n.DK.NE,n.AK,[])=some (Yp,[],[],e):=by have:=gO n [] e n.KN rfl (fun q=>absurd q he) (by simp);unfold Dh at this;rw [if_neg he] at this;exact this
 have n2:∀(is:Bool) (c:Int),DU is c n.DK.DI.ID n.DK.DI.PH n.DK.TH n.BK.LA e n.DK.DI.SD n.DK.NE n.BK.SE n.KN n.TL n.AK=some (false,e):=fun is c=>by rw [Ug,OI is he,DN he]
 have n3:∀c,F9 c n.DK.DI.ID n.DK.DI.PH n.DK.TH n.BK.LA e n.DK.DI.SD n.DK.NE n.BK.SE n.KN n.TL n.AK=some (false,e):=fun c=>by rw [dG,OI _ he,DN he]
 dsimp only [Hr];cases z with
 | true=>rw [A3,DN he,A1];dsimp only [Io];rw [A1];exact h6
 | false=>
   rw [A1];cases decide (m.KI=5) with
   | true=>rw [A3,dE n hf,OB,HF _ Om,OB,B0 _ _ Om (by simp;omega),OB,dz _ (by simp;omega),OB,n2,n3,OB];dsimp only [JH];rw [A1,h6];cases Fb n ⟨p,m.EP⟩<;>rfl
   | false=>
     rw [A1];cases decide (m.KI=6) with
     | true=>rw [A3,Pa n 1 p m _ rfl,OB,IR _ _ Om,OB,n2,n3,OB];dsimp only [JI];rw [A1,h6];cases DR (BI n p) m 1<;>rfl
     | false=>
       rw [A1];cases decide (m.KI=7) with
       | true=>rw [A3,Pa n 0 p m _ rfl,OB,n2,n3,OB];dsimp only [JJ];rw [A1,h6];cases DR (BI n p) m 0<;>rfl
       | false=>
         rw [A1];cases decide (m.KI=8) with
         | true=>rw [A3,Pa n 3 p m _ rfl,OB,n2,OB];exact h6
         | false=>rw [A1,n3,OB];exact h6
theorem du (n:NO) (p:Int) (m:Msg) (h:OkN n):Im n p m=some (Dh (B1 n p m).1 (B1 n p m).2.1 (B1 n p m).2.2):=by
 have hf:=h.few;have hA:=hf.asked;have hT:=hf.told;have hS:=hf.sides;have hN:=hf.need;rw [tG n p m hf,(IL n).2 h,if_pos rfl];have hok:=fun he=>PP (p:=p) (m:=m) h he;by_cases hn:m.Num=0
 ·have eG:B1 n p m=_:=rfl;have h6:∀(r:NO) (V:List EV) (e:Int),n.KN=r.KN→r.DK.DI.ID=r.DK.DI.ID→(e=0→OkN r)→V.length≤100000→E5 n.KN (r.DK.DI.ID,r.DK.DI.PH,r.DK.TH,r.BK.LA,r.BK.SE,r.TL,e,r.DK.DI.SD,r.DK.NE,r.AK,V)=some (Dh e r V):=fun r V e hK _ h1 hV=>gO r V e n.KN hK h1 hV;have bad:∀e:Int,e≠0→E5 n.KN (n.DK.DI.ID,n.DK.DI.PH,n.DK.TH,n.BK.LA,n.BK.SE,n.TL,e,n.DK.DI.SD,n.DK.NE,n.AK,[])=some (Dh e n []):=fun e he=>h6 n [] e rfl rfl (fun q=>absurd q he) (by simp);have n2:∀(is:Bool) (c:Int),DU is c n.DK.DI.ID n.DK.DI.PH n.DK.TH n.BK.LA 0 n.DK.DI.SD n.DK.NE n.BK.SE n.KN n.TL n.AK=some (decide (De is c 0=0),De is c 0):=fun is c=>Ug _ _ _ _ _ _ _ _ _ _ _ _ _;have n3:∀c,F9 c n.DK.DI.ID n.DK.DI.PH n.DK.TH n.BK.LA 0 n.DK.DI.SD n.DK.NE n.BK.SE n.KN n.TL n.AK=some (decide (c=0),c):=fun c=>dG _ _ _ _ _ _ _ _ _ _ _ _;rw [DT hn,FB,DT rfl];unfold B1 at hok ⊢;rw [if_neg fun q=>q hn] at hok ⊢;dsimp only [Hr];cases hk:E1 m with
  | true=>
    rw [A3,DT rfl,A3,if_pos rfl];rw [hk,if_pos rfl] at hok;have j4f:Io n p m n.DK.DI.SD n.DK.NE n.KN n.TL n.AK n.BK.SE (true,0) false=some (Dh 0 n []):=by dsimp only [Io];rw [A1];exact h6 n [] 0 rfl rfl (fun _=>h) (by simp)
    cases hq:BI n p with
    | none=>rw [dU hq,show Bf none = -1 from rfl,DN (show ¬(0:Int)≤ -1 by omega),A1,if_neg (by simp [HX])];exact j4f
    | some q=>
      obtain ⟨j,x⟩:=q;obtain ⟨h1,h2,h3⟩:=LE hq;rw [h1,show Bf (some j)=(j:Int) from rfl,DT (show (0:Int)≤j by omega),A3,Aj h2,OB];have ex:xO (some (j,x))=x:=rfl;have ej:jO (some (j,x))=j:=rfl;rw [ex,ej];rw [hq,ex,ej] at hok;by_cases h8:x.EP=m.EP
      ·rw [DT h8,if_pos (show HX (some (j,x)) m=true from DT h8)];rw [if_pos (show HX (some (j,x)) m=true from DT h8)] at hok;have hC:n.DK.DI.SD.findIdx? (fun x=>decide (x.PE=p)&&decide (x.EP=m.EP))=some j:=by
        obtain ⟨g1,g2,g3⟩:=List.findIdx?_eq_some_iff_getElem.1 h1;obtain ⟨_,hD⟩:=List.getElem?_eq_some_iff.1 h2;rw [List.findIdx?_eq_some_iff_getElem];refine ⟨g1,?_,fun i hi=>?_⟩
        ·rw [hD,DT h3,DT h8];rfl
        ·have:=g3 i hi;simp only [decide_eq_true_eq] at this;rw [DN this];simp
       have hE:1≤m.KI∧m.KI≤4:=by unfold E1 at hk;rw [decide_eq_true_eq] at hk;omega
       have hg:=zX n.DK p m ((U5 _).2 h.dr) Om hC h2 hn hE;dsimp only [Io,X2];rw [A3,hg,OB];dsimp only [X3,Sq];by_cases hl:Bc m.KI x=true
       ·simp only [if_pos hl];rw [n2,OB];exact bad 187 Om
       ·rw [if_neg hl] at hok;simp only [if_neg hl];rw [n2,OB];exact h6 (Mv n j x m.KI) [] 0 rfl rfl (fun _=>(hok rfl).1) (by simp)
      ·rw [DN h8,if_neg (show ¬HX (some (j,x)) m=true from fun q=>h8 (of_decide_eq_true q))];exact j4f
  | false=>
    rw [A1,if_neg (by simp)];rw [hk,if_neg (by simp)] at hok;by_cases k5:m.KI=5
    ·rw [DT k5,A3,if_pos k5,dE n hf,OB];rw [if_pos k5] at hok;have j5f:JH n p m n.DK.DI.SD n.DK.NE n.KN n.TL n.AK n.BK.SE (false,187)=some (Dh 187 n []):=by dsimp only [JH];rw [A1];exact bad 187 Om
     cases hm:Fb n ⟨p,m.EP⟩ with
     | false=>rw [A1,n3,OB,if_neg (by simp),DN (show ¬(187:Int)=0 by omega)];exact j5f
     | true=>
       rw [A3,HF _ Om,OB,B0 _ _ Om (by simp;omega),OB,dz _ (by simp;omega),OB,n2,OB];cases hd:EB (n.AK++[⟨p,m.EP⟩]) with
       | false=>rw [Ev,DN (show ¬(187:Int)=0 by omega),if_neg (by simp)];exact j5f
       | true=>rw [FB,DT rfl,if_pos ⟨rfl,rfl⟩];dsimp only [JH];rw [A3,B0 _ _ Om (by simp;omega),OB];exact h6 (LV n ⟨p,m.EP⟩) [] 0 rfl rfl (fun _=>h.ask hm hd) (by simp)
    ·rw [DN k5,A1,if_neg k5];rw [if_neg k5] at hok;by_cases k6:m.KI=6
     ·rw [DT k6,A3,if_pos k6,Pa n 1 p m _ rfl,OB];have j6f:JI n p n.DK.DI.SD n.DK.NE n.KN n.TL n.AK n.BK.SE (Bf (C6 n.DK.DI.SD p)) (false,187)=some (Dh 187 n []):=by dsimp only [JI];rw [A1];exact bad 187 Om
      cases hi:DR (BI n p) m 1 with
      | false=>rw [A1,n3,OB,if_neg (by simp),DN (show ¬(187:Int)=0 by omega)];exact j6f
      | true=>
        rw [A3,IR _ _ Om,OB,n2,OB];by_cases ht:p∈n.TL
        ·obtain ⟨j,x,hq,_,_,hx,hw,hB⟩:=Jm hi;rw [DT ht,FB,DT rfl,if_pos ⟨rfl,ht⟩,hq,hB];dsimp only [JI,xO,jO];rw [A3,show Bf (some j)=(j:Int) from rfl,Aj hx,OB,zd _ _ Om,OB,Int.toNat_natCast];have h9:∀(S:List SX) (T:List Int) (e:Int),S5 6 p n.DK.DI.ID n.DK.DI.PH n.DK.TH n.BK.LA T e S n.DK.NE n.BK.SE n.KN n.AK=some [⟨6,n.DK.DI.ID,0,p,[]⟩]:=fun S T e=>by simp only [S5];rw [B0 _ _ Om (by simp),OB];rfl
         rw [h9,OB];have:=h6 (Hh n j x) [⟨6,n.DK.DI.ID,0,p,[]⟩] 0 rfl rfl (fun _=>h.live hx) (by simp);subst hw;exact this
        ·rw [DN ht,Ev,DN (show ¬(187:Int)=0 by omega),if_neg fun q=>ht q.2];exact j6f
     ·rw [DN k6,A1,if_neg k6];rw [if_neg k6] at hok;by_cases k7:m.KI=7
      ·rw [DT k7,A3,if_pos k7,Pa n 0 p m _ rfl,OB];have j7f:JJ n p n.DK.DI.SD n.DK.NE n.KN n.TL n.AK n.BK.SE (false,187)=some (Dh 187 n []):=by dsimp only [JJ];rw [A1];exact bad 187 Om
       cases hi:DR (BI n p) m 0 with
       | false=>rw [A1,n3,OB,if_neg (by simp),DN (show ¬(187:Int)=0 by omega)];exact j7f
       | true=>
         rw [A3,n2,OB];by_cases hp:p<n.DK.DI.ID
         ·obtain ⟨j,x,hq,_,h0,hx,hw,hB⟩:=Jm hi;have hg:=Mh p n.BK.SE;have hb:=((Eh _).1 h.bk).len;rw [DT hp,FB,DT rfl,if_pos ⟨rfl,hp⟩,hq];dsimp only [JJ,xO,jO];rw [A3,mI n h p j x hB hx hw 0,OB];exact h6 (Bg n j x) (Gg n p) 0 rfl rfl (fun _=>h.shut hx h0) (by unfold Gg I1;simp only [List.length_cons,List.length_map];omega)
         ·rw [DN hp,Ev,DN (show ¬(187:Int)=0 by omega),if_neg fun q=>hp q.2];exact j7f
      ·rw [DN k7,A1,if_neg k7];rw [if_neg k7] at hok;by_cases k8:m.KI=8
       ·rw [DT k8,A3,if_pos k8,Pa n 3 p m _ rfl,OB,n2,OB];cases hi:DR (BI n p) m 3 with
        | false=>rw [Ev];dsimp only;rw [DN (show ¬(187:Int)=0 by omega),A1,if_neg (by simp)];exact bad 187 Om
        | true=>
          obtain ⟨j,x,hq,_,h3,hx,hw,hB⟩:=Jm hi;rw [FB];dsimp only;rw [DT rfl,A3,if_pos rfl];have hG:S3 p n.DK.DI.ID n.DK.DI.PH n.DK.TH n.BK.LA 0 n.DK.DI.SD n.DK.NE n.BK.SE n.KN n.TL n.AK=some (n.DK.DI.SD.filter fun x=>!decide (x.PE=p)):=by simp only [S3,m7 n.DK.DI.SD (fun z=>Nw z p) (fun x=>decide (x.PE=p)) Om (fun _ _=>rfl),OB]
          have h9:∀(S:List SX),JO 8 p n.DK.DI.ID n.DK.DI.PH n.DK.TH n.BK.LA 0 S n.DK.NE n.BK.SE n.KN n.TL n.AK=some [⟨8,n.DK.DI.ID,0,p,[]⟩]:=fun S=>by simp only [JO];rw [B0 _ _ Om (by simp),OB];rfl
          rw [hG,OB,h9,OB];have:=h.drop (List.mem_of_getElem? hx) h3;rw [hw] at this;exact h6 (Kl n p) [⟨8,n.DK.DI.ID,0,p,[]⟩] 0 rfl rfl (fun _=>this) (by simp)
       ·rw [DN k8,A1,if_neg k8,n3,OB];exact bad 187 Om
 ·rw [DN hn,Ev];have:=tF n p m hf 187 Om (E1 m);rw [this];unfold B1;rw [if_pos hn];rfl
end NX
end Go.Proofs.YtjemlejoladlcaaGreat
