/-
  Plain laws: what always holds of a node. No statement of the seat is proved here.
-/
import Derived.Test.YtgnjledocpbchaaGreatMModelHall12
namespace Go.Proofs.YtgnjledocpbchaaGreat
namespace NX
open Go
structure SideOK (id:Int) (x:SX):Prop where
 lo:0≤x.PE
 ne:x.PE≠id
 e0:0≤x.EP
 e1:x.EP≤65535
 s0:0≤x.SS
 s3:x.SS≤3
 df:x.DY=true→x.FK=true
theorem jn (id:Int):∀(S:List SX) (q:Int),FH id q S=true↔(S.Pairwise fun x y=>x.PE<y.PE)∧∀x∈S,D2 id q x=true
 | [],q=>by simp [FH]
 | x::S,q=>by
   have hx:∀ {y:SX},D2 id q x=true→D2 id x.PE y=true→D2 id q y=true:=by intro y h1 h2;simp only [D2,Bool.and_eq_true,decide_eq_true_eq] at h1 h2 ⊢;exact ⟨Om,h2.2⟩
   have hy:∀ {y:SX},x.PE<y.PE→D2 id q y=true→D2 id x.PE y=true:=by intro y h1 h2;simp only [D2,Bool.and_eq_true,decide_eq_true_eq] at h2 ⊢;exact ⟨h1,h2.2⟩
   simp only [FH,Bool.and_eq_true,jn id S x.PE,List.pairwise_cons,List.mem_cons,forall_eq_or_imp];constructor
   ·rintro ⟨h1,h2,h3⟩;refine ⟨⟨fun y hy=>?_,h2⟩,h1,fun y hy=>hx h1 (h3 y hy)⟩;have:=h3 y hy;simp only [D2,Bool.and_eq_true,decide_eq_true_eq] at this;exact this.1
   ·rintro ⟨⟨h1,h2⟩,h3,h4⟩;exact ⟨h3,h2,fun y hy'=>hy (h1 y hy') (h4 y hy')⟩
theorem wU (id:Int) (x:SX):D2 id (-1) x=true↔SideOK id x:=by
 simp only [D2,Bool.and_eq_true,decide_eq_true_eq,Bool.not_eq_true',decide_eq_false_iff_not,Bool.and_eq_false_iff,Bool.not_eq_false'];constructor
 ·rintro ⟨h1,h2,h3,h4,h5,h6,h7⟩;refine ⟨Om,h2,h3,h4,h5,h6,fun h=>?_⟩;rcases h7 with h7 | h7
  ·rw [h] at h7;simp at h7
  ·exact h7
 ·rintro ⟨h1,h2,h3,h4,h5,h6,h7⟩;refine ⟨Om,h2,h3,h4,h5,h6,?_⟩;cases hd:x.DY with
  | false=>exact .inl rfl
  | true=>exact .inr (h7 hd)
structure DinOK (d:DI):Prop where
 id0:0≤d.ID
 p0:0≤d.PH
 p2:d.PH≤2
 len:d.SD.length<64
 up:d.SD.Pairwise fun x y=>x.PE<y.PE
 side:∀x∈d.SD,SideOK d.ID x
theorem Y1 (d:DI):Ch d=true↔DinOK d:=by
 simp only [Ch,Bool.and_eq_true,decide_eq_true_eq,jn,wU];constructor
 ·rintro ⟨h1,h2,h3,h4,h5,h6⟩;exact ⟨h1,h2,h3,h4,h5,h6⟩
 ·rintro ⟨h1,h2,h3,h4,h5,h6⟩;exact ⟨h1,h2,h3,h4,h5,h6⟩
theorem bl:∀(l:List Int) (q:Option Int),Gf q l=true↔l.Pairwise (· < ·)∧∀y,q=some y→∀x∈l,y<x
 | [],q=>by simp [Gf]
 | x::l,q=>by
   simp only [Gf,Bool.and_eq_true,bl l (some x),List.pairwise_cons,List.mem_cons,forall_eq_or_imp,Option.some.injEq];cases q with
   | none=>
     constructor
     ·rintro ⟨_,h1,h2⟩;exact ⟨⟨h2 x rfl,h1⟩,by simp⟩
     ·rintro ⟨⟨h2,h1⟩,_⟩;exact ⟨rfl,h1,fun y e=>by subst e;exact h2⟩
   | some y=>
     simp only [decide_eq_true_eq];constructor
     ·rintro ⟨h0,h1,h2⟩;exact ⟨⟨h2 x rfl,h1⟩,fun z e=>by simp only [Option.some.injEq] at e;subst e;exact ⟨h0,fun w hw=>Int.lt_trans h0 (h2 x rfl w hw)⟩⟩
     ·rintro ⟨⟨h2,h1⟩,h3⟩;exact ⟨(h3 y rfl).1,h1,fun z e=>by subst e;exact h2⟩
theorem jW:∀(l:List KE) (q:Int),HO q l=true↔(l.Pairwise fun x y=>x.PE<y.PE)∧∀k∈l,q<k.PE∧k.PE<64∧1≤k.EP∧k.EP≤65535
 | [],q=>by simp [HO]
 | x::l,q=>by
   simp only [HO,Bool.and_eq_true,decide_eq_true_eq,jW l x.PE,List.pairwise_cons,List.mem_cons,forall_eq_or_imp];constructor
   ·rintro ⟨⟨h1,h2,h3,h4⟩,h5,h6⟩;exact ⟨⟨fun y hy=>(h6 y hy).1,h5⟩,⟨h1,h2,h3,h4⟩,fun y hy=>⟨Int.lt_trans h1 (h6 y hy).1,(h6 y hy).2⟩⟩
   ·rintro ⟨⟨h1,h2⟩,⟨h3,h4,h5,h6⟩,h7⟩;exact ⟨⟨h3,h4,h5,h6⟩,h2,fun y hy=>⟨h1 y hy,(h7 y hy).2⟩⟩
structure DrOK (d:DK):Prop where
 din:DinOK d.DI
 t0:0≤d.TH
 t2:d.TH≤2
 up:d.NE.Pairwise (· < ·)
 nz:d.TH=0→d.NE=[]
 has:∀p∈d.NE,∃x∈d.DI.SD,x.PE=p
theorem rK (d:DI) (p:Int):Jd d p=true↔∃x∈d.SD,x.PE=p:=by unfold Jd;rw [List.any_eq_true];simp
theorem Tz (d:DK):EQ d=true↔DrOK d:=by
 unfold EQ;simp only [Bool.and_eq_true,decide_eq_true_eq,Y1,bl,List.all_eq_true,rK,Bool.not_eq_true',Bool.and_eq_false_iff,decide_eq_false_iff_not];constructor
 ·rintro ⟨h1,h2,h3,h4,h5,h6⟩;refine ⟨h1,h2,h3,h4.1,fun h=>?_,h6⟩;rcases h5 with h5 | h5
  ·exact absurd h h5
  ·exact List.eq_nil_of_length_eq_zero Om
 ·rintro ⟨h1,h2,h3,h4,h5,h6⟩;refine ⟨h1,h2,h3,⟨h4,by simp⟩,?_,h6⟩;by_cases h:d.TH=0
  ·right;rw [h5 h];simp
  ·left;exact h
structure OkN (n:NO):Prop where
 dr:DrOK n.DK
 bk:Cw n.BK=true
 may:∀k∈n.AK,(∀x∈n.DK.DI.SD,x.PE≠k.PE)∧0≤k.PE∧k.PE<n.DK.DI.ID∧BR n.KN k.PE<k.EP∧k.EP≤65535
 dis:(n.AK.map (·.PE)).Nodup
 id:n.DK.DI.ID<64
 kup:n.KN.Pairwise fun x y=>x.PE<y.PE
 kr:∀k∈n.KN,0≤k.PE∧k.PE<64∧1≤k.EP∧k.EP≤65535
 sd:∀x∈n.DK.DI.SD,x.PE<64∧1≤x.EP∧BR n.KN x.PE=x.EP∧(x.SS=1∨x.SS=3→n.DK.DI.ID≤x.PE)
 told:n.TL.Pairwise (· < ·)
 tin:∀p∈n.TL,∃x∈n.DK.DI.SD,x.SS=1∧x.PE=p
 th:n.DK.TH=2↔I8 n=true
 hq:n.DK.TH=0∨Mf n=true
 nl:∀x∈n.DK.DI.SD,x.PE∈n.DK.NE→x.SS≠3
 wt:∀s∈n.BK.SE,s.SS=0→∀p∈s.NE,∃x∈n.DK.DI.SD,x.SS=0∧x.PE=p
theorem aW (n:NO) (k:KE):Fj n k=true↔(∀x∈n.DK.DI.SD,x.PE≠k.PE)∧0≤k.PE∧k.PE<n.DK.DI.ID∧BR n.KN k.PE<k.EP∧k.EP≤65535:=by unfold Fj;simp only [Bool.and_eq_true,decide_eq_true_eq,Bool.not_eq_true',List.any_eq_false]
theorem wV (n:NO) (x:SX):IL n x=true↔x.PE<64∧1≤x.EP∧BR n.KN x.PE=x.EP∧(x.SS=1∨x.SS=3→n.DK.DI.ID≤x.PE):=by
 unfold IL;simp only [Bool.and_eq_true,decide_eq_true_eq,Bool.not_eq_true',Bool.and_eq_false_iff,Bool.or_eq_false_iff,decide_eq_false_iff_not];constructor
 ·rintro ⟨h1,h2,h3,h4⟩;exact ⟨h1,h2,h3,fun h=>Om⟩
 ·rintro ⟨h1,h2,h3,h4⟩;exact ⟨h1,h2,h3,Om⟩
theorem aZ (n:NO) (q:SX→Bool) (p:Int):p∈D1 n q↔∃x∈n.DK.DI.SD,q x=true∧x.PE=p:=by
 unfold D1;simp only [List.mem_map,List.mem_filter];constructor
 ·rintro ⟨x,⟨h1,h2⟩,h3⟩;exact ⟨x,h1,h2,h3⟩
 ·rintro ⟨x,h1,h2,h3⟩;exact ⟨x,⟨h1,h2⟩,h3⟩
theorem xr (n:NO) (s:SE):IM n s=true↔(s.SS=0→∀p∈s.NE,∃x∈n.DK.DI.SD,x.SS=0∧x.PE=p):=by
 unfold IM;simp only [Bool.not_eq_true',Bool.and_eq_false_iff,decide_eq_false_iff_not,Bool.not_eq_false',List.all_eq_true,decide_eq_true_eq,aZ,Dy];constructor
 ·rintro (h | h)
  ·exact fun e=>absurd e h
  ·exact fun _=>h
 ·intro h;by_cases e:s.SS=0
  ·exact .inr (h e)
  ·exact .inl e
theorem Y3 (n:NO):Ls n=true↔OkN n:=by
 unfold Ls Po UQ U1 EG;simp only [Bool.and_eq_true,Tz,List.all_eq_true,aW,decide_eq_true_eq,jW,wV,bl,aZ,ER,G6,Bool.or_eq_true,beq_iff_eq,Bool.not_eq_true',List.any_eq_false,xr];constructor
 ·rintro ⟨h1,h2,⟨h3,h4,h5,h6,h7,h8,h9⟩,hw,hA,hB,hC⟩;exact ⟨h1,h2,h3,h4,h5,h6.1,fun k hk=>by have:=h6.2 k hk;omega,h7,h8.1,h9,by rw [←hw];simp,hA,fun x hx hn e=>hB x.PE hn ⟨x,hx,e,rfl⟩,hC⟩
 ·rintro ⟨h1,h2,h3,h4,h5,h6,h6',h7,h8,h9,hw,hA,hB,hC⟩;refine ⟨h1,h2,⟨h3,h4,h5,⟨h6,fun k hk=>by have:=h6' k hk;omega⟩,h7,⟨h8,by simp⟩,h9⟩,?_,hA,?_,hC⟩
  ·rw [Bool.eq_iff_iff];simpa using hw
  ·rintro p hp ⟨x,hx,e,rfl⟩;exact hB x hx hp e
structure SessOK (top last:Int) (s:SE):Prop where
 lo:last<s.ID
 hi:s.ID≤top
 nb:FF s.NE=true
 up:s.NE.Pairwise (· < ·)
 age:0≤s.Age
 st:s.SS=1∨s.SS=0∧s.Age=0
theorem ll (top:Int):∀(l:List SE) (last:Int) (first:Bool),HR top last first l=true↔(l.Pairwise fun x y=>x.ID<y.ID)∧(∀s∈l,SessOK top last s)∧∀s∈(if first then l.tail else l),s.SS=0
 | [],_,_=>by simp [HR]
 | x::l,last,first=>by
   have e:K4 last top first x=true↔SessOK top last x∧(first=false→x.SS=0):=by
    unfold K4;simp only [Bool.and_eq_true,decide_eq_true_eq,Bool.or_eq_true];constructor
    ·rintro ⟨h1,h2,h3,h4,h5,h6⟩;refine ⟨⟨h1,h2,h3,h4,h5,?_⟩,fun hf=>?_⟩
     ·rcases h6 with h | h
      ·exact .inl h.1
      ·exact .inr h
     ·rcases h6 with h | h
      ·rw [hf] at h;simp at h
      ·exact h.1
    ·rintro ⟨⟨h1,h2,h3,h4,h5,h6⟩,h7⟩;refine ⟨h1,h2,h3,h4,h5,?_⟩;rcases h6 with h | h
     ·cases first with
      | true=>exact .inl ⟨h,rfl⟩
      | false=>have:=h7 rfl;omega
     ·exact .inr h
   simp only [HR,Bool.and_eq_true,e,ll top l x.ID false,List.pairwise_cons,List.mem_cons,forall_eq_or_imp];constructor
   ·rintro ⟨⟨h1,h2⟩,h3,h4,h5⟩;have h5:∀s∈l,s.SS=0:=h5;refine ⟨⟨fun y hy=>(h4 y hy).lo,h3⟩,⟨h1,fun y hy=>?_⟩,?_⟩
    ·have:=h4 y hy;exact {this with lo:=Int.lt_trans h1.lo this.lo}
    ·cases first with
     | true=>exact h5
     | false=>
       intro s hs;rcases List.mem_cons.1 hs with rfl | hs
       ·exact h2 rfl
       ·exact h5 s hs
   ·rintro ⟨⟨h1,h2⟩,⟨h3,h4⟩,h5⟩;refine ⟨⟨h3,fun hf=>?_⟩,h2,fun y hy=> {h4 y hy with lo:=h1 y hy},?_⟩
    ·subst hf;exact h5 x (by simp)
    ·cases first with
     | true=>exact h5
     | false=>exact fun s hs=>h5 s (List.mem_cons_of_mem _ hs)
structure BkOK (b:BK):Prop where
 last:0≤b.LA
 len:b.SE.length≤8
 up:b.SE.Pairwise fun x y=>x.ID<y.ID
 ok:∀s∈b.SE,SessOK b.LA 0 s
 tl:∀s∈b.SE.tail,s.SS=0
theorem CR (b:BK):Cw b=true↔BkOK b:=by
 unfold Cw;simp only [Bool.and_eq_true,decide_eq_true_eq,ll];constructor
 ·rintro ⟨h1,h2,h3,h4,h5⟩;exact ⟨h1,h2,h3,h4,h5⟩
 ·rintro ⟨h1,h2,h3,h4,h5⟩;exact ⟨h1,h2,h3,h4,h5⟩
theorem b9 {l:List Int} (h:FF l=true):l.length≤64:=by unfold FF at h;rw [Bool.and_eq_true,decide_eq_true_eq] at h;exact h.1
theorem BkOK.few {b:BK} (h:BkOK b):DF b:=⟨by have:=h.len;omega,fun s hs=>by have:=b9 (h.ok s hs).nb;omega⟩
theorem P6 {l:List Int} (h:l.Pairwise (· < ·)) {n:Int} (hn:0≤n) (hr:∀x∈l,0≤x∧x<n):(l.length:Int)≤n:=by
 rcases bO l 0 n h hr with rfl | h
 ·simpa using hn
 ·omega
theorem xq {l:List Int} (h:l.Pairwise (· < ·)) {n id:Int} (hi:0≤id∧id<n) (hr:∀x∈l,0≤x∧x<n∧x≠id):(l.length:Int)<n:=by
 have h1:(l.take (AH l (fun x=>x) id)++id::l.drop (AH l (fun x=>x) id)).Pairwise fun x y=>x<y:=Pw (Ap:=fun x:Int=>x) (p:=id) h rfl fun y hy=>(hr y hy).2.2;have h2:=P6 h1 (n:=n) Om fun x hx=>by
  rw [List.mem_append,List.mem_cons] at hx;rcases hx with hx | rfl | hx
  ·have:=hr x (List.mem_of_mem_take hx);omega
  ·omega
  ·have:=hr x (List.mem_of_mem_drop hx);omega
 rw [List.length_append,List.length_cons] at h2;have h3:l.length=(l.take (AH l (fun x=>x) id)).length+(l.drop (AH l (fun x=>x) id)).length:=by rw [←List.length_append,List.take_append_drop]
 omega
theorem OkN.peer0 {n:NO} (h:OkN n) {x:SX} (hx:x∈n.DK.DI.SD):0≤x.PE∧x.PE<64∧x.PE≠n.DK.DI.ID:=⟨(h.dr.din.side x hx).lo,(h.sd x hx).1,(h.dr.din.side x hx).ne⟩
theorem OkN.needL {n:NO} (h:OkN n):n.DK.NE.length≤64:=by
 have:=P6 h.dr.up (n:=64) Om fun p hp=>by obtain ⟨x,hx,rfl⟩:=h.dr.has p hp;have:=h.peer0 hx;omega
 omega
theorem OkN.toldL {n:NO} (h:OkN n):n.TL.length≤64:=by
 have:=P6 h.told (n:=64) Om fun p hp=>by obtain ⟨x,hx,_,rfl⟩:=h.tin p hp;have:=h.peer0 hx;omega
 omega
theorem OkN.knownL {n:NO} (h:OkN n):n.KN.length≤64:=by
 have:=P6 (l:=n.KN.map (·.PE)) (List.pairwise_map.2 h.kup) (n:=64) Om fun p hp=>by obtain ⟨k,hk,rfl⟩:=List.mem_map.1 hp;have:=h.kr k hk;omega
 rw [List.length_map] at this;omega
theorem tp {l:List Int} (h:l.Nodup) {n:Nat} (hr:∀x∈l,0≤x∧x<(n:Int)):l.length≤n:=by
 have hs:=DO l;have h1:∀(a b:List Int),a.Nodup→(∀x∈a,x∈b)→a.length≤b.length:=by
  intro a;induction a with
  | nil=>intro b _ _;simp
  | cons x a ih=>intro b ha hb;rw [List.nodup_cons] at ha;have h6:=hb x (by simp);have:=ih (b.erase x) ha.2 fun y hy=>(List.mem_erase_of_ne (fun e=>ha.1 (by rw [←e];exact hy))).2 (hb y (List.mem_cons_of_mem _ hy));rw [List.length_erase_of_mem h6] at this;have:=List.length_pos_of_mem h6;simp only [List.length_cons];omega
 have h2:=h1 l (Bm l) h fun x hx=>(hs.2 x).2 hx;have h3:=P6 hs.1 (n:=n) Om fun x hx=>hr x ((hs.2 x).1 hx);omega
theorem OkN.askedL {n:NO} (h:OkN n):n.AK.length≤64:=by
 have:=tp h.dis (n:=64) fun p hp=>by obtain ⟨k,hk,rfl⟩:=List.mem_map.1 hp;have:=h.may k hk;have:=h.id;omega
 rw [List.length_map] at this;exact this
theorem OkN.few {n:NO} (h:OkN n):FewN n:=by have h1:=h.needL;have h2:=h.toldL;have h3:=h.knownL;have h4:=h.askedL;have h5:=h.dr.din.len;have h6:=(CR _).1 h.bk;have h7:=h6.len;exact ⟨Om,Om,Om,fun s hs=>by have:=b9 (h6.ok s hs).nb;omega,Om,Om,Om⟩
theorem OkN.rowS {n:NO} (h:OkN n):RowS n.DK.DI.SD:=⟨by have:=h.dr.din.len;omega,h.dr.din.up,fun x hx=>by have:=h.peer0 hx;omega⟩
theorem OkN.rowK {n:NO} (h:OkN n):RowK n.KN:=⟨by have:=h.knownL;omega,h.kup,fun k hk=>by have:=h.kr k hk;omega⟩
theorem Pp {K:List KE} (hu:K.Pairwise fun x y=>x.PE<y.PE) (h:∀k∈K,1≤k.EP∧k.EP≤65535) (p:Int):0≤BR K p∧BR K p≤65535:=by
 by_cases hx:∃k∈K,k.PE=p
 ·obtain ⟨k,hk,rfl⟩:=hx;rw [M7 hu hk];have:=h k hk;omega
 ·rw [Uv fun k hk e=>hx ⟨k,hk,e⟩];omega
theorem LH {S:List SX} (h:S.Pairwise fun x y=>x.PE<y.PE) {x y:SX} (hx:x∈S) (hy:y∈S) (e:x.PE=y.PE):x=y:=by
 induction S with
 | nil=>simp at hx
 | cons z S ih=>
   rw [List.pairwise_cons] at h;rcases List.mem_cons.1 hx with hx1 | hx1<;>rcases List.mem_cons.1 hy with hy1 | hy1
   ·rw [hx1,hy1]
   ·have:=h.1 y hy1;rw [←hx1] at this;omega
   ·have:=h.1 x hx1;rw [←hy1] at this;omega
   ·exact ih h.2 hx1 hy1
def HM (n:NO) (x:SX) (A:List KE):NO:=⟨⟨⟨n.DK.DI.ID,n.DK.DI.PH,Cy n.DK.DI.SD x⟩,n.DK.TH,n.DK.NE⟩,n.BK,D9 n.KN x.PE x.EP,n.TL,A⟩
theorem OkN.put {n:NO} (h:OkN n) {x:SX} {A:List KE} (hp:0≤x.PE∧x.PE<64∧x.PE≠n.DK.DI.ID) (hn:∀y∈n.DK.DI.SD,y.PE≠x.PE) (he:1≤x.EP∧x.EP≤65535)
  (hs:x.SS=0∨x.SS=1∧n.DK.DI.ID≤x.PE) (hd:x.DY=true→x.FK=true) (E:∀k∈A,k∈n.AK∧k.PE≠x.PE) (hw:(A.map (·.PE)).Nodup):OkN (HM n x A):=by
 have h8:=h.id;have h6:=h.dr.din;have h9:(Cy n.DK.DI.SD x).Pairwise fun x y=>x.PE<y.PE:=Pw h.rowS.up rfl hn;refine ⟨⟨⟨h6.id0,h6.p0,h6.p2,?_,h9,fun y hy=>?_⟩,h.dr.t0,h.dr.t2,h.dr.up,h.dr.nz,fun p hp=>?_⟩,h.bk,fun k hk=>?_,hw,h8,UP h.kup _ _,fun k hk=>?_,fun y hy=>?_,h.told,fun p hp=>?_,h.th,h.hq,fun y hy hB=>?_,fun s hs' h0 p hp=>?_⟩
 ·have:=xq (l:=(Cy n.DK.DI.SD x).map (·.PE)) (List.pairwise_map.2 h9) (n:=64) (id:=n.DK.DI.ID) ⟨h6.id0,h8⟩ fun p hp'=>by
   obtain ⟨y,hy,rfl⟩:=List.mem_map.1 hp';rcases Fk.1 hy with rfl | hy
   ·exact hp
   ·exact h.peer0 hy
  rw [List.length_map] at this;show (Cy n.DK.DI.SD x).length<64;omega
 ·rcases Fk.1 hy with rfl | hy
  ·exact ⟨hp.1,hp.2.2,Om,he.2,Om,Om,hd⟩
  ·exact h6.side y hy
 ·obtain ⟨y,hy,e⟩:=h.dr.has p hp;exact ⟨y,Fk.2 (.inr hy),e⟩
 ·obtain ⟨hk,hne⟩:=E k hk;have hm:=h.may k hk;refine ⟨fun y hy=>?_,hm.2.1,hm.2.2.1,?_,hm.2.2.2.2⟩
  ·rcases Fk.1 hy with rfl | hy
   ·exact fun e=>hne e.symm
   ·exact hm.1 y hy
  ·show BR (D9 n.KN x.PE x.EP) k.PE<k.EP;rw [Uw h.kup,if_neg hne];exact hm.2.2.2.1
 ·rcases aY h.kup hk with rfl | ⟨hk,_⟩
  ·exact ⟨hp.1,hp.2.1,he⟩
  ·exact h.kr k hk
 ·show y.PE<64∧1≤y.EP∧BR (D9 n.KN x.PE x.EP) y.PE=y.EP∧(y.SS=1∨y.SS=3→n.DK.DI.ID≤y.PE)
  rw [Uw h.kup];rcases Fk.1 hy with rfl | hy
  ·exact ⟨hp.2.1,he.1,if_pos rfl,fun _=>Om⟩
  ·rw [if_neg (hn y hy)];exact h.sd y hy
 ·obtain ⟨y,hy,e⟩:=h.tin p hp;exact ⟨y,Fk.2 (.inr hy),e⟩
 ·rcases Fk.1 hy with rfl | hy
  ·omega
  ·exact h.nl y hy hB
 ·obtain ⟨y,hy,e⟩:=h.wt s hs' h0 p hp;exact ⟨y,Fk.2 (.inr hy),e⟩
theorem OkN.ans1:∀(A:List KE) (n:NO),OkN n→n.AK=A→OkN ⟨⟨⟨n.DK.DI.ID,n.DK.DI.PH,D6 n.DK.DI.SD A⟩,n.DK.TH,n.DK.NE⟩,n.BK,DU n.KN A,n.TL,[]⟩
 | [],n,h,e=>by obtain ⟨d,b,k,t,a⟩:=n;dsimp only at e;subst e;exact h
 | k::A,n,h,e=>by have hm:=h.may k (by rw [e];simp);have hd:=h.dis;rw [e,List.map_cons,List.nodup_cons] at hd;have h6:=h.id;have h0:=Pp h.kup (fun k hk=>(h.kr k hk).2.2) k.PE;have h1:OkN (HM n (Cg k) A):=h.put (x:=Cg k) ⟨hm.2.1,by show k.PE<64;omega,by show k.PE≠_;omega⟩ hm.1 ⟨by show 1≤k.EP;omega,hm.2.2.2.2⟩ (.inl rfl) (by simp [Cg]) (fun q hq=>⟨by rw [e];simp [hq],fun eq=>hd.1 (List.mem_map.2 ⟨q,hq,eq⟩)⟩) hd.2;exact OkN.ans1 A (HM n (Cg k) A) h1 rfl
theorem OkN.ans {n:NO} (h:OkN n):OkN (AZ n):=by
 unfold AZ;split
 ·exact h
 ·exact OkN.ans1 n.AK n h rfl
theorem fI {n:NO} (h:BkOK n.BK) {s:SE} {l:List SE} (hb:n.BK.SE=s::l):s.SS=1∨s.SS=0:=by have:=(h.ok s (by rw [hb];simp)).st;omega
theorem xu {n:NO} {s:SE} (h:Cf n=some s):∃l,n.BK.SE=s::l∧s.SS=0:=by
 unfold Cf at h;split at h
 ·simp at h
 ·rename_i s' l hb;split at h
  ·simp at h;subst h;exact ⟨l,hb,by assumption⟩
  ·simp at h
theorem OkN.thi {n:NO} (h:OkN n):OkN (BM n):=by
 unfold BM CJ;cases hw:Cf n with
 | none=>exact h
 | some s=>
   dsimp only;split
   ·rename_i h0;obtain ⟨l,hb,hs⟩:=xu hw;have h6:=(CR _).1 h.bk;have hm:s∈n.BK.SE:=by rw [hb];simp
    have hok:=h6.ok s hm;have hl:=h.wt s hm hs;refine {h with dr:=⟨h.dr.din,by show (0:Int)≤1;omega,by show (1:Int)≤2;omega,hok.up,fun e=>by simp at e,fun p hp=>?_⟩,th:=?_,hq:=.inr ?_,nl:=fun x hx hn e3=>?_}
    ·obtain ⟨x,hx,_,e⟩:=hl p hp;exact ⟨x,hx,e⟩
    ·have:I8 n=false:=by unfold I8;rw [hb];simp [hs]
     show (1:Int)=2↔I8 n=true;rw [this];simp
    ·show (match n.BK.SE with | []=>false | s'::_=>decide (s'.NE=s.NE))=true;rw [hb];simp
    ·obtain ⟨y,hy,h8,e⟩:=hl x.PE hn;have:=LH h.rowS.up hx hy e.symm;subst this;omega
   ·exact h
theorem rL {n:NO} (h:OkN n):0≤Gw n∧Gw n≤2:=by have h0:=h.dr.din.p0;have h2:=h.dr.din.p2;unfold Gw;split<;>omega
theorem OkN.hun {n:NO} (h:OkN n):OkN (BB n):=by have hp:=rL h;exact {h with dr:= {h.dr with din:= {h.dr.din with p0:=hp.1,p2:=hp.2}}}
theorem OkN.pre {n:NO} (h:OkN n):OkN (Bj n):=h.ans.thi.hun
theorem OkN.go {n:NO} (h:OkN n):GoN n:=by have h1:=h.dr.din.len;have h2:=h.askedL;have h3:=h.knownL;have h4:=(CR _).1 h.bk;have h5:=h.toldL;have h6:=h.needL;have h8:=h.id;exact ⟨h.rowS,h.rowK,⟨fun k hk=>by have:=h.may k hk;omega,fun k hk=>(h.may k hk).1,h.dis⟩,Om,Om,(Tz _).2 h.pre.dr,h4.few,h.bk,Om,Om,fun s hs=>by have:=b9 (h4.ok s hs).nb;omega⟩
def CN (x:SX):Int×Int×Int:=(x.PE,x.EP,x.SS)
def LF (d:DK) (x:SX):SX:=Ca (Cu d x) d.TH (Cl (Bo d) x)
theorem TA (d:DK):(AY d).DI.SD=d.DI.SD.map (LF d):=by show Gg d=_;unfold Gg;rw [Hf,List.map_map];refine List.map_congr_left fun x _=>?_;show Ca (Cu d (Cl (Bo d) x)) d.TH _=Ca (Cu d x) d.TH _;rw [show Cu d (Cl (Bo d) x)=Cu d x by unfold Cu;rw [(M8 (Bo d) x).1]]
theorem TW (d:DK) (x:SX):CN (LF d x)=CN x:=by obtain ⟨p1,p2,p3,_⟩:=Pf (Cu d x) d.TH (Cl (Bo d) x);obtain ⟨q1,q2,q3,_⟩:=M8 (Bo d) x;unfold CN LF;rw [p1,p2,p3,q1,q2,q3]
theorem jr (d:DK):Gh d=d.TH∨d.TH=1∧Gh d=2∧∀x∈(AY d).DI.SD,x.PE∈d.NE→x.BO=true:=by
 unfold Gh;cases hh:decide (d.TH=1)&&(Gg d).all (fun x=>!Cu d x||x.BO) with
 | false=>left;rfl
 | true=>right;rw [Bool.and_eq_true,decide_eq_true_eq,List.all_eq_true] at hh;refine ⟨hh.1,rfl,fun x hx hn=>?_⟩;have:=hh.2 x hx;unfold Cu at this;simpa [hn] using this
structure FireR (a b:DK):Prop where
 id:b.DI.ID=a.DI.ID
 need:b.NE=a.NE
 core:b.DI.SD.map CN=a.DI.SD.map CN
 th:b.TH=a.TH∨a.TH=1∧b.TH=2
theorem FireR.refl (a:DK):FireR a a:=⟨rfl,rfl,rfl,.inl rfl⟩
theorem FireR.once {a b:DK} (h:FireR a b):FireR a (AY b):=by
 refine ⟨h.id,h.need,?_,?_⟩
 ·rw [TA,List.map_map,←h.core];exact List.map_congr_left fun x _=>TW b x
 ·show Gh b=a.TH∨a.TH=1∧Gh b=2;have:=h.th;rcases jr b with e | ⟨e1,e2,_⟩
  ·rw [e];exact this
  ·omega
theorem M9 {P:DK→Prop} (hs:∀d,P d→P (AY d)):∀(n:Nat) (d:DK) (out:List ML),P d→P (Cm n d out).1
 | 0,_,_,h=>h
 | n+1,d,out,h=>by
   unfold Cm;split
   ·exact h
   ·exact M9 hs n _ _ (hs d h)
theorem Km (d:DK):FireR d (Bv d).1:=M9 (P:=FireR d) (fun _ h=>h.once) 300 d [] (FireR.refl d)
theorem I2 {S S':List SX} (h:S'.map CN=S.map CN) {x:SX} (hx:x∈S'):∃y∈S,y.PE=x.PE∧y.EP=x.EP∧y.SS=x.SS:=by
 have:CN x∈S.map CN:=by rw [←h];exact List.mem_map_of_mem hx
 obtain ⟨y,hy,e⟩:=List.mem_map.1 this;unfold CN at e;simp only [Prod.mk.injEq] at e;exact ⟨y,hy,e⟩
theorem oL {S S':List SX} (h:S'.map CN=S.map CN):S'.map (·.PE)=S.map (·.PE):=by have:=congrArg (List.map fun c:Int×Int×Int=>c.1) h;rw [List.map_map,List.map_map] at this;exact this
theorem eZ:∀(n:Nat) (d:DK) (out:List ML),Ch d.DI=true→mu d<n→AY (Cm n d out).1=(Cm n d out).1
 | 0,_,_,_,h=>by omega
 | n+1,d,out,hk,h=>by
   have hp:=Y2 hk;unfold Cm;by_cases hq:AY d=d
   ·rw [if_pos hq];exact hq
   ·rw [if_neg hq];rcases Y5 hp.1 hp.2 with h1 | h1
    ·exact absurd h1.1 hq
    ·exact eZ n (AY d) _ (bw hk) Om
theorem qD {d:DK} (h:Ch d.DI=true):AY (Bv d).1=(Bv d).1:=eZ 300 d [] h (by have:=gT h;omega)
theorem qC {d:DK} (h:AY d=d):Bv d=(d,[]):=by unfold Bv Cm;rw [if_pos h]
theorem DrOK.once {d:DK} (h:DrOK d):DrOK (AY d):=by have hk:=(Y1 _).1 (bw ((Y1 _).2 h.din));have hr:=(FireR.refl d).once;have ht:=hr.th;have h0:=h.t0;have h2:=h.t2;refine ⟨hk,Om,Om,h.up,fun e=>h.nz Om,fun p hp=>?_⟩;obtain ⟨x,hx,e⟩:=h.has p hp;obtain ⟨y,hy,e1,_⟩:=I2 hr.core.symm hx;exact ⟨y,hy,Om⟩
theorem DrOK.fire {d:DK} (h:DrOK d):DrOK (Bv d).1:=M9 (P:=DrOK) (fun _ h=>h.once) 300 d [] h
def BZ (d:DK):Prop:=d.TH=2→∀x∈d.DI.SD,x.PE∈d.NE→x.BO=true
theorem qw (ph:Int) (x:SX):(BV ph x).BO=x.BO∧(BV ph x).Ask=x.Ask:=by unfold BV DG;split<;>split<;>exact ⟨rfl,rfl⟩
theorem qz (d:DI) (x:SX):(Cl d x).BO=x.BO∧(Cl d x).Ask=x.Ask:=by unfold Cl;split<;>exact qw _ _
theorem rE {d:DK} (h:BZ d):BZ (AY d):=by
 intro h2 x hx hn;have h6:=hx;rw [TA] at hx;obtain ⟨y,hy,rfl⟩:=List.mem_map.1 hx;have h2:Gh d=2:=h2;rcases jr d with e | ⟨_,_,e⟩
 ·have hd:d.TH=2:=by omega
  have hc:=TW d y;unfold CN at hc;simp only [Prod.mk.injEq] at hc;have hn:y.PE∈d.NE:=by rw [←hc.1];exact hn
  have hb:=h hd y hy hn;unfold LF Ca DW Fb Cu;rw [hd];simp [hn,(qz (Bo d) y).1,hb]
 ·exact e _ h6 hn
theorem fy {d:DK} (h:BZ d):BZ (Bv d).1:=M9 (P:=BZ) (fun _ h=>rE h) 300 d [] h
def LW (d:DK):Prop:=d.DI.PH≠0∧∃x∈d.DI.SD,x.SS=1
theorem oh {d:DK} (h:LW d):LW (AY d):=by
 obtain ⟨h0,x,hx,h1⟩:=h;refine ⟨?_,?_⟩
 ·show (Cb (Bo d)).PH≠0;have hp:Cx d≠0:=by unfold Cx;have:d.DI.SD.any (fun x=>decide (x.SS=1))=true:=List.any_eq_true.2 ⟨x,hx,by simpa using h1⟩;rw [this,DN h0];simp [h0]
  rcases UA (Bo d) with ⟨e,_⟩ | ⟨_,e⟩
  ·rw [e];exact hp
  ·rw [e];omega
 ·obtain ⟨y,hy,_,_,e⟩:=I2 ((FireR.refl d).once).core.symm hx;exact ⟨y,hy,Om⟩
theorem og {d:DK} (h:LW d):LW (Bv d).1:=M9 (P:=LW) (fun _ h=>oh h) 300 d [] h
def Ki (d:DK):Prop:=d.DI.PH=2∧∃x∈d.DI.SD,x.SS=1
theorem qi {d:DK} (h:Ki d):Ki (AY d):=by
 obtain ⟨h0,x,hx,h1⟩:=h;refine ⟨?_,?_⟩
 ·show (Cb (Bo d)).PH=2;have hp:Cx d=2:=by unfold Cx;have:d.DI.SD.any (fun x=>decide (x.SS=1))=true:=List.any_eq_true.2 ⟨x,hx,by simpa using h1⟩;rw [this,h0];simp
  rcases UA (Bo d) with ⟨e,_⟩ | ⟨_,e⟩
  ·rw [e];exact hp
  ·exact e
 ·obtain ⟨y,hy,_,_,e⟩:=I2 ((FireR.refl d).once).core.symm hx;exact ⟨y,hy,Om⟩
theorem qh {d:DK} (h:Ki d):Ki (Bv d).1:=M9 (P:=Ki) (fun _ h=>qi h) 300 d [] h
def Ll (id:Int) (S:List SX) (m:ML):Prop:=m.From=id∧(∃x∈S,x.PE=m.To)∧m.Msg.Num=0
theorem dR {id:Int} {nd:Bool} {th:Int} {x:SX} {m:ML} (h:m∈CG id nd th x):m.From=id∧m.To=x.PE∧m.Msg.Num=0:=by
 unfold CG at h;rw [List.mem_append] at h;rcases h with h | h
 ·split at h
  ·simp at h;subst h;exact ⟨rfl,rfl,rfl⟩
  ·simp at h
 ·split at h
  ·simp at h;subst h;exact ⟨rfl,rfl,rfl⟩
  ·simp at h
theorem tD {d:DK} {m:ML} (h:m∈Dp d):Ll d.DI.ID d.DI.SD m:=by
 unfold Dp at h;rw [List.mem_append] at h;rcases h with h | h
 ·unfold I4 at h;obtain ⟨x,hx,hm⟩:=List.mem_flatMap.1 h;obtain ⟨h1,h2,_,_,h3⟩:=qG hm;exact ⟨h1,⟨x,hx,h2.symm⟩,h3⟩
 ·obtain ⟨x,hx,hm⟩:=List.mem_flatMap.1 h;obtain ⟨h1,h2,h3⟩:=dR hm;rw [Hf] at hx;obtain ⟨y,hy,rfl⟩:=List.mem_map.1 hx;exact ⟨h1,⟨y,hy,by rw [h2,(M8 (Bo d) y).1]⟩,h3⟩
theorem f0 {id:Int} {S:List SX}:∀(n:Nat) (d:DK) (out:List ML),d.DI.ID=id→d.DI.SD.map CN=S.map CN→(∀m∈out,Ll id S m)→∀m∈(Cm n d out).2,Ll id S m
 | 0,_,_,_,_,h=>h
 | n+1,d,out,h1,h2,h=>by
   unfold Cm;split
   ·exact h
   ·refine f0 n (AY d) _ h1 ?_ fun m hm=>?_
    ·rw [TA,List.map_map,←h2];exact List.map_congr_left fun x _=>TW d x
    ·rcases List.mem_append.1 hm with hm | hm
     ·exact h m hm
     ·obtain ⟨q1,⟨x,hx,q2⟩,q3⟩:=tD hm;obtain ⟨y,hy,e,_⟩:=I2 h2 hx;exact ⟨Om,⟨y,hy,Om⟩,q3⟩
theorem qE {d:DK}:∀m∈(Bv d).2,Ll d.DI.ID d.DI.SD m:=f0 300 d [] rfl rfl (by simp)
theorem Zz (n:NO):E9 n=n.BK∧CO n=[]∨∃s l,n.BK.SE=s::l∧s.SS=0∧n.DK.TH=2∧E9 n=⟨n.BK.LA,⟨s.ID,s.NE,1,s.Age⟩::l⟩∧CO n=[⟨1,n.DK.DI.ID,s.ID,0,[]⟩]:=by
 unfold E9 CO Cf;cases hb:n.BK.SE with
 | nil=>left;exact ⟨rfl,rfl⟩
 | cons s l=>
   dsimp only;by_cases h0:s.SS=0
   ·rw [if_pos h0,if_pos h0];by_cases h2:n.DK.TH=2
    ·right;rw [if_pos h2];dsimp only;rw [if_pos h2];exact ⟨s,l,rfl,h0,h2,rfl,rfl⟩
    ·left;rw [if_neg h2];dsimp only;rw [if_neg h2];exact ⟨rfl,rfl⟩
   ·left;rw [if_neg h0,if_neg h0];exact ⟨rfl,rfl⟩
theorem BkOK.grant {b:BK} (h:BkOK b) {s:SE} {l:List SE} (e:b.SE=s::l):BkOK ⟨b.LA,⟨s.ID,s.NE,1,s.Age⟩::l⟩:=by
 have h1:=h.up;have h2:=h.len;have h3:=h.tl;rw [e] at h1 h2 h3;have hs:=h.ok s (by rw [e];simp);refine ⟨h.last,h2,?_,fun t ht=>?_,h3⟩
 ·rw [List.pairwise_cons] at h1 ⊢;exact h1
 ·rcases List.mem_cons.1 ht with rfl | ht
  ·exact {hs with st:=.inl rfl}
  ·exact h.ok t (by rw [e];exact List.mem_cons_of_mem _ ht)
theorem Hj (n:NO):Mf n=true↔∃s l,n.BK.SE=s::l∧s.NE=n.DK.NE:=by
 unfold Mf;split
 ·rename_i h;simp [h]
 ·rename_i s l h;rw [decide_eq_true_eq];constructor
  ·exact fun e=>⟨s,l,h,e⟩
  ·rintro ⟨s',l',h',e⟩;rw [h] at h';simp only [List.cons.injEq] at h';rw [h'.1];exact e
theorem F8 (n:NO):I8 n=true↔∃s l,n.BK.SE=s::l∧s.SS=1:=by
 unfold I8;split
 ·rename_i h;simp [h]
 ·rename_i s l h;rw [decide_eq_true_eq];constructor
  ·exact fun e=>⟨s,l,h,e⟩
  ·rintro ⟨s',l',h',e⟩;rw [h] at h';simp only [List.cons.injEq] at h';rw [h'.1];exact e
theorem OkN.thirsty {n:NO} (h:OkN n) (h1:n.DK.TH=1):∃s l,n.BK.SE=s::l∧s.SS=0∧s.NE=n.DK.NE:=by
 have hq:=h.hq;have h6:=(CR _).1 h.bk;obtain ⟨s,l,hb,hn⟩:=(Hj n).1 (by rcases hq with hq | hq;omega;exact hq);refine ⟨s,l,hb,?_,hn⟩;rcases fI h6 hb with e | e
 ·have:=h.th.2 ((F8 n).2 ⟨s,l,hb,e⟩);omega
 ·exact e
theorem OkN.drinks {n:NO} (h:OkN n) (h1:n.DK.TH=2):∃s l,n.BK.SE=s::l∧s.SS=1∧s.NE=n.DK.NE:=by have hq:=h.hq;obtain ⟨s,l,hb,hn⟩:=(Hj n).1 (by rcases hq with hq | hq;omega;exact hq);obtain ⟨s',l',hb',hs⟩:=(F8 n).1 (h.th.1 h1);rw [hb] at hb';simp only [List.cons.injEq] at hb';exact ⟨s,l,hb,by rw [hb'.1];exact hs,hn⟩
theorem OkN.nowait {n:NO} (h:OkN n) (h1:n.DK.TH=2):Cf n=none:=by obtain ⟨s,l,hb,hs,_⟩:=h.drinks h1;unfold Cf;rw [hb];dsimp only;rw [if_neg Om]
theorem OkN.firgra {m:NO} (h:OkN m):OkN (AL (BI m)):=by
 have hR:=Km m.DK;have h9:=(CR _).1 h.bk;have hw:=h.dr.fire;have h8:(AL (BI m)).DK.DI.ID=m.DK.DI.ID:=hR.id;have side:∀ {x:SX},x∈(AL (BI m)).DK.DI.SD→∃y∈m.DK.DI.SD,y.PE=x.PE∧y.EP=x.EP∧y.SS=x.SS:=fun hx=>I2 hR.core hx;have edis:∀ {x:SX},x∈m.DK.DI.SD→∃y∈(AL (BI m)).DK.DI.SD,y.PE=x.PE∧y.EP=x.EP∧y.SS=x.SS:=fun hx=>I2 hR.core.symm hx;have hg:=Zz (BI m);have hb':(AL (BI m)).BK=E9 (BI m):=rfl;have ht':(AL (BI m)).DK.TH=(Bv m.DK).1.TH:=rfl;have hA:=hR.th;refine ⟨hw,?_,fun k hk=>?_,h.dis,by rw [h8];exact h.id,h.kup,h.kr,fun x hx=>?_,h.told,fun p hp=>?_,?_,?_,fun x hx hn=>?_,fun s hs h0 p hp=>?_⟩
 ·rw [hb',CR];rcases hg with ⟨e,_⟩ | ⟨s,l,e1,_,_,e2,_⟩
  ·rw [e];exact h9
  ·rw [e2];exact h9.grant e1
 ·have hm:=h.may k hk;rw [h8];exact ⟨fun x hx=>by obtain ⟨y,hy,e,_⟩:=side hx;rw [←e];exact hm.1 y hy,hm.2⟩
 ·obtain ⟨y,hy,e1,e2,e3⟩:=side hx;have:=h.sd y hy;rw [h8,←e1,←e2,←e3];exact this
 ·obtain ⟨x,hx,h1,e⟩:=h.tin p hp;obtain ⟨y,hy,e1,_,e3⟩:=edis hx;exact ⟨y,hy,Om,Om⟩
 ·rw [F8,hb',ht'];constructor
  ·intro h2;rcases hg with ⟨e,_⟩ | ⟨s,l,e1,_,_,e2,_⟩
   ·rw [e];rcases hA with q | ⟨q1,_⟩
    ·exact (F8 m).1 (h.th.1 Om)
    ·exfalso;obtain ⟨s,l,hb,hs,_⟩:=h.thirsty q1;have:E9 (BI m)=⟨m.BK.LA,⟨s.ID,s.NE,1,s.Age⟩::l⟩:=by unfold E9;rw [show (BI m).BK.SE=s::l from hb];dsimp only;rw [if_pos hs,if_pos (show (BI m).DK.TH=2 from h2)];rfl
     rw [this] at e;have e:=congrArg BK.SE e;rw [show (BI m).BK.SE=s::l from hb] at e;simp only [List.cons.injEq] at e;have:=congrArg SE.SS e.1;simp only at this;omega
   ·rw [e2];exact ⟨_,l,rfl,rfl⟩
  ·rintro ⟨s',l',e',hs'⟩;rcases hg with ⟨e,_⟩ | ⟨s,l,e1,_,e3,_,_⟩
   ·rw [e] at e';have:=h.th.2 ((F8 m).2 ⟨s',l',e',hs'⟩);omega
   ·exact e3
 ·rw [ht'];rcases h.hq with q | q
  ·left;omega
  ·right;obtain ⟨s,l,hb,hn⟩:=(Hj m).1 q;rw [Hj,hb'];have h6:(AL (BI m)).DK.NE=m.DK.NE:=hR.need;rw [h6];rcases hg with ⟨e,_⟩ | ⟨s',l',e1,_,_,e2,_⟩
   ·rw [e];exact ⟨s,l,hb,hn⟩
   ·rw [e2];have e1:m.BK.SE=s'::l':=e1;rw [hb] at e1;simp only [List.cons.injEq] at e1;exact ⟨_,l',rfl,by rw [←hn,e1.1]⟩
 ·have h6:(AL (BI m)).DK.NE=m.DK.NE:=hR.need;rw [h6] at hn;obtain ⟨y,hy,e1,_,e3⟩:=side hx;rw [←e3];rw [←e1] at hn;exact h.nl y hy hn
 ·rw [hb'] at hs;have hs':s∈m.BK.SE:=by
   rcases hg with ⟨e,_⟩ | ⟨s',l',e1,_,_,e2,_⟩
   ·rw [e] at hs;exact hs
   ·rw [e2] at hs;rcases List.mem_cons.1 hs with rfl | hs
    ·exact absurd h0 (by show ¬(1:Int)=0;omega)
    ·have e1:m.BK.SE=s'::l':=e1;rw [e1];exact List.mem_cons_of_mem _ hs
  obtain ⟨x,hx,e0,e⟩:=h.wt s hs' h0 p hp;obtain ⟨y,hy,e1,_,e3⟩:=edis hx;exact ⟨y,hy,Om,Om⟩
theorem cP (id:Int):∀(S:List SX) (T:List Int) (E:List ML) (p:Int),p∈(Cr id S T E).1↔p∈T∨∃x∈S,x.SS=1∧x.PE=p
 | [],T,E,p=>by simp [Cr]
 | x::S,T,E,p=>by
   have hs:=(DO (T++[x.PE])).2;unfold Cr;cases hu:CK T x with
   | true=>
     rw [if_pos rfl,cP id S];unfold CK ER at hu;rw [Bool.and_eq_true,decide_eq_true_eq] at hu;rw [hs,List.mem_append,List.mem_singleton];constructor
     ·rintro ((h | h) | ⟨y,hy,h⟩)
      ·exact .inl h
      ·exact .inr ⟨x,by simp,hu.1,h.symm⟩
      ·exact .inr ⟨y,List.mem_cons_of_mem _ hy,h⟩
     ·rintro (h | ⟨y,hy,h⟩)
      ·exact .inl (.inl h)
      ·rcases List.mem_cons.1 hy with rfl | hy
       ·exact .inl (.inr h.2.symm)
       ·exact .inr ⟨y,hy,h⟩
   | false=>
     rw [if_neg (by simp),cP id S];unfold CK ER at hu;rw [Bool.and_eq_false_iff,decide_eq_false_iff_not,Bool.not_eq_false',decide_eq_true_eq] at hu;constructor
     ·rintro (h | ⟨y,hy,h⟩)
      ·exact .inl h
      ·exact .inr ⟨y,List.mem_cons_of_mem _ hy,h⟩
     ·rintro (h | ⟨y,hy,h⟩)
      ·exact .inl h
      ·rcases List.mem_cons.1 hy with rfl | hy
       ·rcases hu with hu | hu
        ·exact absurd h.1 hu
        ·rw [h.2] at hu;exact .inl hu
       ·exact .inr ⟨y,hy,h⟩
theorem cQ (id:Int):∀(S:List SX) (T:List Int) (E:List ML),T.Pairwise (· < ·)→(Cr id S T E).1.Pairwise (· < ·)
 | [],T,E,h=>h
 | x::S,T,E,h=>by
   unfold Cr;split
   ·exact cQ id S _ _ (DO _).1
   ·exact cQ id S _ _ h
theorem cN (id:Int) (J:List SX):∀(S:List SX) (T:List Int) (E:List ML),(∀x∈S,x∈J)→(∀m∈E,Ll id J m)→∀m∈(Cr id S T E).2,Ll id J m
 | [],T,E,_,h=>h
 | x::S,T,E,hS,h=>by
   unfold Cr;split
   ·refine cN id J S _ _ (fun y hy=>hS y (List.mem_cons_of_mem _ hy)) fun m hm=>?_;rcases List.mem_append.1 hm with hm | hm
    ·exact h m hm
    ·simp at hm;subst hm;exact ⟨rfl,⟨x,hS x (by simp),rfl⟩,rfl⟩
   ·exact cN id J S _ _ (fun y hy=>hS y (List.mem_cons_of_mem _ hy)) h
theorem lS (id:Int):∀(S:List SX) (T:List Int) (E:List ML),(∀x∈S,CK T x=false)→Cr id S T E=(T,E)
 | [],T,E,_=>rfl
 | x::S,T,E,h=>by unfold Cr;rw [h x (by simp),if_neg (by simp)];exact lS id S T E fun y hy=>h y (List.mem_cons_of_mem _ hy)
theorem YD (n:NO) (p:Int):p∈(Dr n).1↔p∈n.TL∨n.DK.DI.PH=2∧∃x∈n.DK.DI.SD,x.SS=1∧x.PE=p:=by
 unfold Dr;split
 ·rename_i h;rw [cP];simp [h]
 ·rename_i h;simp [h]
theorem OkN.tel {m:NO} (h:OkN m):OkN (CI m):=by
 refine {h with told:=?_,tin:=fun p hp=>?_}
 ·show (Dr m).1.Pairwise _;unfold Dr;split
  ·exact cQ _ _ _ _ h.told
  ·exact h.told
 ·rcases (YD m p).1 hp with hp | ⟨_,hp⟩
  ·exact h.tin p hp
  ·exact hp
theorem Tp {id th:Int} {N:List Int} {S:List SX} {x:SX} (h:x∈B0 id th N S):∃y∈S,(x=y∧C1 th N y=false)∨(C1 th N y=true∧id<y.PE∧x={y with SS:=3}):=by
 obtain ⟨y,hy,e⟩:=List.mem_filterMap.1 h;refine ⟨y,hy,?_⟩;unfold DJ at e;cases hg:C1 th N y with
 | false=>rw [hg,if_neg (by simp)] at e;simp at e;exact .inl ⟨e.symm,rfl⟩
 | true=>
   rw [hg,if_pos rfl] at e;split at e
   ·simp at e;exact .inr ⟨rfl,by assumption,e.symm⟩
   ·simp at e
theorem sU {id th:Int} {N:List Int} {S:List SX} {y:SX} (h:y∈S) (hg:C1 th N y=false):y∈B0 id th N S:=List.mem_filterMap.2 ⟨y,h,by unfold DJ;rw [hg,if_neg (by simp)]⟩
theorem UG {th:Int} {N:List Int} {x:SX} (h:C1 th N x=true):x.SS=2:=by unfold C1 at h;rw [Bool.and_eq_true,decide_eq_true_eq] at h;exact h.1
theorem Zw {th:Int} {N:List Int} {x:SX} (h:x.SS≠2):C1 th N x=false:=by unfold C1;rw [DN h];rfl
theorem OkN.needed {m:NO} (h:OkN m) {x:SX} (hx:x∈m.DK.DI.SD) (hn:x.PE∈m.DK.NE):C1 m.DK.TH m.DK.NE x=false:=by
 cases hg:C1 m.DK.TH m.DK.NE x with
 | false=>rfl
 | true=>
   exfalso;have h2:=UG hg;unfold C1 at hg;rw [DT h2,DT hn] at hg;simp at hg;have h0:=h.dr.t0;have ht:=h.dr.t2;have hz:m.DK.TH≠0:=fun e=>by rw [h.dr.nz e] at hn;simp at hn
   obtain ⟨s,l,hb,hs,e⟩:=h.thirsty Om;obtain ⟨y,hy,h6,ey⟩:=h.wt s (by rw [hb];simp) hs x.PE (by rw [e];exact hn);have:=LH h.rowS.up hx hy ey.symm;subst this;omega
theorem OkN.lea {m:NO} (h:OkN m):OkN (Ec m):=by
 have h8:∀ {x:SX},x∈(Ec m).DK.DI.SD→∃y∈m.DK.DI.SD,(x=y∧C1 m.DK.TH m.DK.NE y=false)∨(C1 m.DK.TH m.DK.NE y=true∧m.DK.DI.ID<y.PE∧x={y with SS:=3}):=fun hx=>Tp hx;have hw:∀ {x:SX},x∈(Ec m).DK.DI.SD→∃y∈m.DK.DI.SD,x.PE=y.PE:=fun hx=>by
  obtain ⟨y,hy,(⟨rfl,_⟩ | ⟨_,_,rfl⟩)⟩:=h8 hx
  ·exact ⟨_,hy,rfl⟩
  ·exact ⟨y,hy,rfl⟩
 have h9:∀ {y:SX},y∈m.DK.DI.SD→C1 m.DK.TH m.DK.NE y=false→y∈(Ec m).DK.DI.SD:=fun hy hg=>sU hy hg;have h6:=h.dr.din;refine ⟨⟨⟨h6.id0,h6.p0,h6.p2,?_,?_,fun x hx=>?_⟩,h.dr.t0,h.dr.t2,h.dr.up,h.dr.nz,fun p hp=>?_⟩,h.bk,fun k hk=>⟨fun x hx=>?_,(h.may k hk).2⟩,h.dis,h.id,h.kup,h.kr,fun x hx=>?_,h.told,fun p hp=>?_,h.th,h.hq,fun x hx hn=>?_,fun s hs h0 p hp=>?_⟩
 ·have:=gi m.DK.DI.ID m.DK.TH m.DK.NE m.DK.DI.SD;have:=h6.len;show (B0 _ _ _ _).length<64;omega
 ·show (B0 _ _ _ _).Pairwise _;unfold B0;rw [List.pairwise_filterMap];refine h6.up.imp fun {a b} hab y hy z hz=>?_;have e:∀ {a y:SX},DJ m.DK.DI.ID m.DK.TH m.DK.NE a=some y→y.PE=a.PE:=by
   intro a y hy;unfold DJ at hy;split at hy
   ·split at hy
    ·simp at hy;subst hy;rfl
    ·simp at hy
   ·simp at hy;subst hy;rfl
  rw [e hy,e hz];exact hab
 ·obtain ⟨y,hy,(⟨rfl,_⟩ | ⟨_,_,rfl⟩)⟩:=h8 hx
  ·exact h6.side _ hy
  ·have:=h6.side y hy;exact ⟨this.lo,this.ne,this.e0,this.e1,by show (0:Int)≤3;omega,by show (3:Int)≤3;omega,this.df⟩
 ·obtain ⟨x,hx,e⟩:=h.dr.has p hp;exact ⟨x,h9 hx (h.needed hx (by rw [e];exact hp)),e⟩
 ·obtain ⟨y,hy,e⟩:=hw hx;rw [e];exact (h.may k hk).1 y hy
 ·obtain ⟨y,hy,(⟨rfl,_⟩ | ⟨_,hi,rfl⟩)⟩:=h8 hx
  ·exact h.sd _ hy
  ·have:=h.sd y hy;exact ⟨this.1,this.2.1,this.2.2.1,fun _=>by show m.DK.DI.ID≤y.PE;omega⟩
 ·obtain ⟨x,hx,h1,e⟩:=h.tin p hp;exact ⟨x,h9 hx (Zw Om),h1,e⟩
 ·obtain ⟨y,hy,(⟨rfl,_⟩ | ⟨hg,_,rfl⟩)⟩:=h8 hx
  ·exact h.nl _ hy hn
  ·have:=h.needed hy hn;rw [hg] at this;simp at this
 ·obtain ⟨x,hx,e0,e⟩:=h.wt s hs h0 p hp;exact ⟨x,h9 hx (Zw Om),e0,e⟩
theorem OkN.once {n:NO} (h:OkN n):OkN (AN n):=h.pre.firgra.tel.lea
theorem mD (x y:KE):(decide (x.PE=y.PE)&&(decide (x.EP=y.EP)&&true))=decide (x=y):=by obtain ⟨a,b⟩:=x;obtain ⟨c,d⟩:=y;simp only [KE.mk.injEq,Bool.and_true];by_cases h1:a=c<;>by_cases h2:b=d<;>simp [h1,h2]
theorem kg (l m:List KE) (hl:l.length≤1000000):Ol l m=some (decide (l=m)):=by
 simp only [Ol,Mp];by_cases h:l.length=m.length
 ·simp only [h,decide_true,Bool.not_true,Aa];rw [Mq l m _ (fun x y=>decide (x=y)) h Om (fun k x y hx hy=>by simp only [Xa,AQ hx,Ag,Ar hx,Ar hy,OB,mD,EA hx (show l.length≤4000000000000000000 by omega),Je];cases decide (x=y)<;>rfl) (by simp only [Xa,AT,Aa,X9,Option.map_some]),LK l m h]
 ·simp [h,Mo h]
theorem wc (x y:SE) (hx:x.NE.length≤1000000):L6 x y=some (decide (x=y)):=by obtain ⟨i,n,s,a⟩:=x;obtain ⟨i',n',s',a'⟩:=y;simp only at hx;simp only [L6,L7,TJ n n' hx,OB,SE.mk.injEq];by_cases h1:i=i'<;>by_cases h2:s=s'<;>by_cases h3:a=a'<;>by_cases h4:n=n'<;>simp [h1,h2,h3,h4]
theorem kR (b c:BK) (hb:DF b):O2 b c=some (decide (b=c)):=by
 obtain ⟨L,l⟩:=b;obtain ⟨L',m⟩:=c;have h1:l.length≤1000000:=hb.1;have h2:∀s∈l,s.NE.length≤1000000:=hb.2;have e:T9 l m (fun z=>L6 z.1 z.2)=some (decide (l=m)):=by
  simp only [T9,Mp];by_cases h:l.length=m.length
  ·simp only [h,decide_true,Bool.not_true,Aa];rw [Mq l m _ (fun x y=>decide (x=y)) h Om (fun k x y hx hy=>by have hm:=h2 x (List.mem_of_getElem? hx);simp only [X8,AQ hx,Ag,Ar hx,Ar hy,OB,wc x y hm,EA hx (show l.length≤4000000000000000000 by omega),Je];cases decide (x=y)<;>rfl) (by simp only [X8,AT,Aa,X7,Option.map_some]),LK l m h]
  ·simp [h,Mo h]
 simp only [O2,SC,e,OB,BK.mk.injEq];by_cases q1:L=L'<;>by_cases q2:l=m<;>simp [q1,q2]
theorem vU (a b:NO) (h:FewN a):JE a b=some (decide (a=b)):=by have h1:=h.sides;have h2:=h.need;have h3:=h.told;have h4:=h.known;have h5:=h.asked;obtain ⟨d,k,K,T,A⟩:=a;obtain ⟨d',k',K',T',A'⟩:=b;simp only at h1 h2 h3 h4 h5;simp only [JE,JF,kC d d' Om Om,kR k k' h.bk,kg K K' Om,kg A A' Om,TJ T T' Om,OB,NO.mk.injEq];by_cases q1:d=d'<;>by_cases q2:k=k'<;>by_cases q3:K=K'<;>by_cases q4:T=T'<;>by_cases q5:A=A'<;>simp [q1,q2,q3,q4,q5]
theorem HP (l:List KE) (h:l.length≤1000000):El l=some l:=by simp only [El];rw [B5 _ _ Om (by simp;omega),List.nil_append]
theorem w3 (n:NO) (a b c d:Int) (h:FewN n):NP a b c d n.BK.SE n.TL n.DK.DI.SD n.DK.NE n.KN n.AK=some (n.DK.DI.SD,n.DK.NE,n.KN,n.TL,n.AK,n.BK.SE):=by
 have h1:=h.sides;have h2:=h.need;have h3:=h.told;have h4:=h.known;have h5:=h.asked;have h6:=h.book;dsimp only [NP,WL,WM];rw [Lz _ Om,OB,Ex _ Om,OB,HP _ Om,OB,Ex _ Om,OB,HP _ Om,OB,OU _ Om,OB];refine D0 n.BK.SE _ (fun pre=>((pre.length:Int),n.BK.SE)) _ (fun pre x post h0=>?_) ?_
 ·have hx:=BL h0;have hm:=BG h0;have hN:=h.needs x (Di h0);dsimp only [WP,WO];rw [AQ hx,Ag,Ar hx,OB,Ex _ Om,OB,AC Om,Int.toNat_natCast,HS hx,AW]
 ·dsimp only [WP,WN];rw [AT,Aa];rfl
theorem kN (n:NO) (h:FewN n):NN n=some (n.DK.DI.SD,n.DK.NE,n.KN,n.TL,n.AK,n.BK.SE):=by
 have h1:=h.sides;have h2:=h.need;have h3:=h.told;have h4:=h.known;have h5:=h.asked;have h6:=h.book;dsimp only [NN,WG,WH];rw [Lz _ Om,OB,Ex _ Om,OB,HP _ Om,OB,Ex _ Om,OB,HP _ Om,OB,OU _ Om,OB];refine D0 n.BK.SE _ (fun pre=>((pre.length:Int),n.BK.SE)) _ (fun pre x post h0=>?_) ?_
 ·have hx:=BL h0;have hm:=BG h0;have hN:=h.needs x (Di h0);dsimp only [WK,WJ];rw [AQ hx,Ag,Ar hx,OB,Ex _ Om,OB,AC Om,Int.toNat_natCast,HS hx,AW]
 ·dsimp only [WK,WI];rw [AT,Aa];rfl
structure Quiet (n:NO):Prop where
 ask:n.DK.DI.PH=2∨n.AK=[]
 thi:Cf n=none∨n.DK.TH≠0
 hun:n.DK.DI.PH≠0∨n.DK.DI.SD.any (CK n.TL)=false
 fire:AY n.DK=n.DK
 tel:n.DK.DI.PH≠2∨n.DK.DI.SD.any (CK n.TL)=false
 lea:n.DK.DI.SD.any (C1 n.DK.TH n.DK.NE)=false
theorem Quiet.pre {n:NO} (h:Quiet n):Bj n=n∧AZ n=n∧Gq n=[]∧Ha n=[]:=by
 obtain ⟨⟨⟨id,ph,S⟩,th,N⟩,B,K,T,A⟩:=n;have ha:=h.ask;have ht:=h.thi;have hh:=h.hun;simp only at ha ht hh;have e1:AZ ⟨⟨⟨id,ph,S⟩,th,N⟩,B,K,T,A⟩=⟨⟨⟨id,ph,S⟩,th,N⟩,B,K,T,A⟩∧Gq ⟨⟨⟨id,ph,S⟩,th,N⟩,B,K,T,A⟩=[]∧Ha ⟨⟨⟨id,ph,S⟩,th,N⟩,B,K,T,A⟩=[]:=by
  unfold AZ Gq Ha;dsimp only;split
  ·exact ⟨rfl,rfl,rfl⟩
  ·rename_i h2;rcases ha with ha | ha
   ·exact absurd ha h2
   ·subst ha;exact ⟨rfl,rfl,rfl⟩
 have e2:BM ⟨⟨⟨id,ph,S⟩,th,N⟩,B,K,T,A⟩=⟨⟨⟨id,ph,S⟩,th,N⟩,B,K,T,A⟩:=by
  unfold BM CJ;split
  ·rename_i s hw;rcases ht with ht | ht
   ·rw [hw] at ht;simp at ht
   ·dsimp only;rw [if_neg ht]
  ·rfl
 have e3:BB ⟨⟨⟨id,ph,S⟩,th,N⟩,B,K,T,A⟩=⟨⟨⟨id,ph,S⟩,th,N⟩,B,K,T,A⟩:=by
  unfold BB Gw;dsimp only;rcases hh with hh | hh
  ·rw [DN hh];rfl
  ·rw [hh,Bool.and_false];rfl
 unfold Bj;rw [e1.1,e2,e3];exact ⟨rfl,rfl,e1.2⟩
theorem Z3 {α:Type} {l:List α} {q:α→Bool} (h:l.any q=false):∀x∈l,q x=false:=by rw [List.any_eq_false] at h;intro x hx;simpa using h x hx
theorem Quiet.once {n:NO} (hk:OkN n) (h:Quiet n):AN n=n∧E6 n=[]∧Ef n=[]:=by
 obtain ⟨p1,p2,p3,p4⟩:=h.pre;have hf:=qC h.fire;have hm:Aw n=n:=by unfold Aw;rw [p1];unfold BI;rw [hf]
 have hg:AL n=n∧CO n=[]:=by
  rcases Zz n with ⟨e1,e2⟩ | ⟨s,l,e1,e2,e3,_⟩
  ·exact ⟨by unfold AL;rw [e1],e2⟩
  ·exfalso;have:=hk.nowait e3;unfold Cf at this;rw [e1] at this;dsimp only at this;rw [if_pos e2] at this;simp at this
 have ht:CI n=n∧(Dr n).2=[]:=by
  have:Dr n=(n.TL,[]):=by
   unfold Dr;split
   ·rename_i h2;rcases h.tel with q | q
    ·exact absurd h2 q
    ·exact lS _ _ _ _ (Z3 q)
   ·rfl
  unfold CI;rw [this];exact ⟨rfl,rfl⟩
 have hl:=ZO (id:=n.DK.DI.ID) (Z3 h.lea);have h6:Ec n=n:=by unfold Ec;rw [hl.1]
 unfold AN E6 Ef EK;rw [hm,hg.1,ht.1,h6,p1,p3,p4,hg.2,ht.2,hf,hl.2];exact ⟨rfl,rfl,rfl⟩
theorem Hb (n:NO):(AZ n).TL=n.TL∧(AZ n).BK=n.BK∧(AZ n).DK.TH=n.DK.TH∧(AZ n).DK.NE=n.DK.NE∧(AZ n).DK.DI.ID=n.DK.DI.ID∧(AZ n).DK.DI.PH=n.DK.DI.PH:=by unfold AZ;split<;>exact ⟨rfl,rfl,rfl,rfl,rfl,rfl⟩
theorem dI {n:NO} {x:SX} (h:x∈(AZ n).DK.DI.SD):x∈n.DK.DI.SD∨∃k∈n.AK,x=Cg k:=by
 unfold AZ at h;split at h
 ·exact .inl h
 ·exact Pc.1 h
theorem Z2 {n:NO} {x:SX} (h:x∈n.DK.DI.SD):x∈(AZ n).DK.DI.SD:=by
 unfold AZ;split
 ·exact h
 ·exact Pc.2 (.inl h)
theorem cR (n:NO):(BM n).DK.DI=n.DK.DI:=by
 show (CJ n).DI=_;unfold CJ;split
 ·split<;>rfl
 ·rfl
theorem bI (n:NO):(Bj n).DK.DI.SD=(AZ n).DK.DI.SD:=by show (BM (AZ n)).DK.DI.SD=_;rw [cR]
theorem bH (n:NO):(Bj n).DK.DI.ID=n.DK.DI.ID:=by show (BM (AZ n)).DK.DI.ID=_;rw [cR];exact (Hb n).2.2.2.2.1
theorem xt (n:NO):Cf (AZ n)=Cf n:=by unfold Cf;rw [(Hb n).2.1]
theorem jC (n:NO):(Bj n).DK.DI.PH=if decide (n.DK.DI.PH=0)&&(AZ n).DK.DI.SD.any (CK n.TL) then 1 else n.DK.DI.PH:=by show Gw (BM (AZ n))=_;unfold Gw;rw [cR,(Hb n).2.2.2.2.2,show (BM (AZ n)).TL=n.TL from (Hb n).1]
theorem jD (n:NO):(Cf n=none∨n.DK.TH≠0)∧(Bj n).DK.TH=n.DK.TH∧(Bj n).DK.NE=n.DK.NE∨n.DK.TH=0∧∃s,Cf n=some s∧(Bj n).DK.TH=1∧(Bj n).DK.NE=s.NE:=by
 have e1:(Bj n).DK.TH=(CJ (AZ n)).TH:=rfl;have e2:(Bj n).DK.NE=(CJ (AZ n)).NE:=rfl;rw [e1,e2];unfold CJ;rw [xt,(Hb n).2.2.1];cases hw:Cf n with
 | none=>left;exact ⟨.inl rfl,(Hb n).2.2.1,(Hb n).2.2.2.1⟩
 | some s=>
   by_cases h0:n.DK.TH=0
   ·right;dsimp only;rw [if_pos h0];exact ⟨h0,s,rfl,rfl,rfl⟩
   ·left;dsimp only;rw [if_neg h0];exact ⟨.inr h0,(Hb n).2.2.1,(Hb n).2.2.2.1⟩
theorem gO {n:NO} {x:SX} (h:x∈(Aw n).DK.DI.SD):∃y∈(AZ n).DK.DI.SD,y.PE=x.PE∧y.EP=x.EP∧y.SS=x.SS:=by have:=I2 (Km (Bj n).DK).core h;rw [bI] at this;exact this
theorem tL {n:NO} {x:SX} (h:x∈(AN n).DK.DI.SD):∃y∈(AZ n).DK.DI.SD,y.PE=x.PE∧y.EP=x.EP∧(y.SS=x.SS∨y.SS=2∧x.SS=3):=by
 obtain ⟨z,hz,hq⟩:=Tp h;obtain ⟨y,hy,e1,e2,e3⟩:=gO (n:=n) hz;refine ⟨y,hy,?_⟩;rcases hq with ⟨rfl,_⟩ | ⟨hg,_,rfl⟩
 ·exact ⟨e1,e2,.inl e3⟩
 ·exact ⟨e1,e2,.inr ⟨by rw [e3];exact UG hg,rfl⟩⟩
theorem xn {n:NO} {p:Int} (h:p∈n.TL):p∈(AN n).TL:=(YD (AL (Aw n)) p).2 (.inl (by show p∈(AZ n).TL;rw [(Hb n).1];exact h))
theorem bz {n:NO} (h:(AN n).DK.DI.SD.any (CK (AN n).TL)=true):∃z∈n.DK.DI.SD,CK n.TL z=true:=by
 obtain ⟨x,hx,hu⟩:=List.any_eq_true.1 h;unfold CK ER at hu ⊢;simp only [Bool.and_eq_true,decide_eq_true_eq,Bool.not_eq_true',decide_eq_false_iff_not] at hu ⊢;obtain ⟨y,hy,e1,e2,e3⟩:=tL hx;rcases dI hy with hy | ⟨k,_,rfl⟩
 ·exact ⟨y,hy,Om,fun hm=>hu.2 (by rw [←e1];exact xn hm)⟩
 ·exfalso;have:(Cg k).SS=0:=rfl;omega
def K9 (th:Int):Nat:=if th=0 then 2 else if th=1 then 1 else 0
def I7 (n:NO):Bool:=n.DK.DI.SD.any (C1 n.DK.TH n.DK.NE)
def FS (n:NO):Bool:=n.DK.DI.SD.any (CK n.TL)
def Ov (n:NO):Nat:=bn (!n.AK.isEmpty)+K9 n.DK.TH+bn (decide (n.DK.DI.PH=0)&&FS n)+bn (!decide (AY n.DK=n.DK))+bn (FS n)+2*bn (I7 n)
theorem LU (b:Bool):bn b≤1:=by cases b<;>simp [bn]
theorem o6 {a b:Bool} (h:a=true→b=true):bn a≤bn b:=by
 cases a with
 | false=>simp [bn]
 | true=>rw [h rfl];exact Nat.le_refl _
theorem Uk {a:Bool} (h:a=false):bn a=0:=by rw [h];rfl
theorem dP {a:Bool} (h:a=true):bn a=1:=by rw [h];rfl
theorem js (n:NO):(AN n).AK=if n.DK.DI.PH=2 then n.AK else []:=by show (AZ n).AK=_;unfold AZ;split<;>rfl
theorem tH (n:NO):I7 (AN n)=false:=by unfold I7;rw [List.any_eq_false];intro x hx;have:=gj _ _ _ _ x hx;rw [show (AN n).DK.TH=(CI (AL (Aw n))).DK.TH from rfl,show (AN n).DK.NE=(CI (AL (Aw n))).DK.NE from rfl,this];simp
theorem tO (n:NO) (h:OkN n):(K9 (AN n).DK.TH≤K9 n.DK.TH)∧((Cf n=none∨n.DK.TH≠0)∨K9 (AN n).DK.TH<K9 n.DK.TH):=by
 have hR:=(Km (Bj n).DK).th;have e:(AN n).DK.TH=(Bv (Bj n).DK).1.TH:=rfl;have h0:=h.dr.t0;have h2:=h.dr.t2;rw [e];unfold K9;rcases jD n with ⟨q1,q2,_⟩ | ⟨q1,s,_,q2,_⟩
 ·refine ⟨?_,.inl q1⟩
  (repeat' split)<;>omega
 ·refine ⟨?_,.inr ?_⟩<;>(repeat' split)<;>omega
theorem td {n:NO} (hg:I7 n=false):∀x∈(Aw n).DK.DI.SD,C1 (Aw n).DK.TH (Aw n).DK.NE x=false:=by
 intro x hx;by_cases h2:x.SS=2
 ·obtain ⟨y,hy,e1,_,e3⟩:=gO hx;rcases dI hy with hy | ⟨k,_,rfl⟩
  ·have:=Z3 hg y hy;unfold C1 at this ⊢;rw [DT (show y.SS=2 by omega),Bool.true_and,Bool.not_eq_false',Bool.and_eq_true,decide_eq_true_eq,decide_eq_true_eq] at this;have hR:=Km (Bj n).DK;have h9:=hR.th;have h6:(Aw n).DK.NE=(Bj n).DK.NE:=hR.need;have h8:(Aw n).DK.TH=(Bv (Bj n).DK).1.TH:=rfl;rcases jD n with ⟨_,q2,q3⟩ | ⟨q1,_⟩
   ·rw [h6,q3,h8,DT (show (Bv (Bj n).DK).1.TH=2 by omega),←e1,DT this.2];simp
   ·omega
  ·exfalso;have:(Cg k).SS=0:=rfl;omega
 ·exact Zw h2
theorem tF {n:NO} (h:OkN n) (hg:I7 n=false):AY (AN n).DK=(AN n).DK:=by
 have hc:=ZO (id:=(Aw n).DK.DI.ID) (td hg);have e:(AN n).DK=(Aw n).DK:=by show (⟨⟨(Aw n).DK.DI.ID,(Aw n).DK.DI.PH,B0 (Aw n).DK.DI.ID (Aw n).DK.TH (Aw n).DK.NE (Aw n).DK.DI.SD⟩,(Aw n).DK.TH,(Aw n).DK.NE⟩:DK)=_;rw [hc.1]
 rw [e];exact qD ((Y1 _).2 h.pre.dr.din)
theorem tJ {n:NO} (hu:FS (AN n)=true):(AN n).DK.DI.PH≠0:=by
 obtain ⟨z,hz,hz'⟩:=bz hu;have hs:z.SS=1:=by unfold CK ER at hz';rw [Bool.and_eq_true,decide_eq_true_eq] at hz';exact hz'.1
 have hb:LW (Bj n).DK:=by
  refine ⟨?_,z,by rw [bI];exact Z2 hz,hs⟩;rw [jC];split
  ·omega
  ·rename_i hc;intro e;exact hc (by rw [DT e,Bool.true_and];exact List.any_eq_true.2 ⟨z,Z2 hz,hz'⟩)
 exact (og hb).1
theorem ui {n:NO} (h:Ki n.DK):Ki (Bj n).DK:=by obtain ⟨h1,x,hx,h2⟩:=h;refine ⟨?_,x,by rw [bI];exact Z2 hx,h2⟩;rw [jC,DN Om];exact h1
theorem tM {n:NO} (hp:n.DK.DI.PH=2):FS (AN n)=false:=by
 cases hu:FS (AN n) with
 | false=>rfl
 | true=>
   exfalso;obtain ⟨x,hx,h6⟩:=List.any_eq_true.1 hu;obtain ⟨z,hz,hz'⟩:=bz hu;have hs:z.SS=1:=by unfold CK ER at hz';rw [Bool.and_eq_true,decide_eq_true_eq] at hz';exact hz'.1
   have he:=qh (ui (n:=n) ⟨hp,z,hz,hs⟩);unfold CK ER at h6;simp only [Bool.and_eq_true,decide_eq_true_eq,Bool.not_eq_true',decide_eq_false_iff_not] at h6;refine h6.2 ?_;refine (YD (AL (Aw n)) x.PE).2 (.inr ⟨he.1,?_⟩);obtain ⟨y,hy,hq⟩:=Tp hx;rcases hq with ⟨rfl,_⟩ | ⟨_,_,rfl⟩
   ·exact ⟨_,hy,h6.1,rfl⟩
   ·exact absurd h6.1 (by show ¬(3:Int)=1;omega)
theorem ju {n:NO} (h:OkN n):Quiet n∨Ov (AN n)<Ov n:=by
 have a1:bn (!(AN n).AK.isEmpty)≤bn (!n.AK.isEmpty):=by
  rw [js];split
  ·exact Nat.le_refl _
  ·simp [bn]
 have a2:=tO n h;have a3:bn (decide ((AN n).DK.DI.PH=0)&&FS (AN n))=0:=Uk (by
  cases hu:FS (AN n) with
  | false=>simp
  | true=>rw [DN (tJ hu)];rfl)
 have a4:bn (FS (AN n))≤bn (FS n):=o6 fun hu=>by obtain ⟨z,hz,hz'⟩:=bz hu;exact List.any_eq_true.2 ⟨z,hz,hz'⟩
 have a5:bn (I7 (AN n))=0:=Uk (tH n);have a6:=LU (!decide (AY (AN n).DK=(AN n).DK));have a7:I7 n=false→bn (!decide (AY (AN n).DK=(AN n).DK))=0:=fun hg=>Uk (by rw [DT (tF h hg)];rfl);unfold Ov;cases hg:I7 n with
 | true=>right;rw [show bn true=1 from rfl,a3,a5];omega
 | false=>
   rw [a7 hg,a3,a5,show bn false=0 from rfl];by_cases c1:n.DK.DI.PH=2∨n.AK=[]
   ·by_cases c2:Cf n=none∨n.DK.TH≠0
    ·cases c3:decide (n.DK.DI.PH=0)&&FS n with
     | true=>right;rw [show bn true=1 from rfl];omega
     | false=>
       by_cases c4:AY n.DK=n.DK
       ·by_cases c5:n.DK.DI.PH=2∧FS n=true
        ·right;rw [dP c5.2,Uk (tM c5.1)];omega
        ·left;refine ⟨c1,c2,?_,c4,?_,hg⟩
         ·rw [Bool.and_eq_false_iff,decide_eq_false_iff_not] at c3;exact c3
         ·by_cases hp:n.DK.DI.PH=2
          ·right;cases hu:n.DK.DI.SD.any (CK n.TL) with
           | false=>rfl
           | true=>exact absurd ⟨hp,hu⟩ c5
          ·exact .inl hp
       ·right;rw [DN c4,show bn (!false)=1 from rfl];omega
    ·right;rcases a2.2 with q | q
     ·exact absurd q c2
     ·omega
   ·right;have c1:=not_or.1 c1;rw [js,if_neg c1.1];have:bn (!n.AK.isEmpty)=1:=dP (by cases he:n.AK with
     | nil=>exact absurd he c1.2
     | cons a l=>rfl)
    rw [this];have:bn (!([]:List KE).isEmpty)=0:=rfl;omega
theorem tc (n:NO):Ov n≤8:=by
 have b1:=LU (!n.AK.isEmpty);have b2:=LU (decide (n.DK.DI.PH=0)&&FS n);have b3:=LU (!decide (AY n.DK=n.DK));have b4:=LU (FS n);have b5:=LU (I7 n);have:K9 n.DK.TH≤2:=by unfold K9;(repeat' split)<;>omega
 unfold Ov;omega
theorem uu {n:NO} (h:OkN n):Quiet n↔AN n=n:=by
 constructor
 ·exact fun q=>(q.once h).1
 ·intro e;rcases ju h with q | q
  ·exact q
  ·rw [e] at q;omega
def Gl:Nat→NO→List ML→List EV→NO×List ML×List EV
 | 0,n,E,V=>(n,E,V)
 | k+1,n,E,V=>if AN n=n then (n,E,V) else Gl k (AN n) (E++E6 n) (V++Ef n)
def BE (n:NO) (E:List ML) (V:List EV):NO×List ML×List EV:=Gl 9 n E V
theorem jp {n:NO} (h:OkN n):(E6 n).length≤500:=by
 have h1:=h.askedL;have h2:=eX ((Tz _).2 h.pre.dr);have hm:OkN (AL (Aw n)):=h.pre.firgra;have h3:=hm.dr.din.len;have h4:(Dr (AL (Aw n))).2.length≤64:=by
  unfold Dr;split
  ·have:=YE (AL (Aw n)).DK.DI.ID (AL (Aw n)).DK.DI.SD (AL (Aw n)).TL [];simp only [List.length_nil] at this;omega
  ·simp
 have h5:(EK (CI (AL (Aw n)))).length≤64:=by have:=ZN (AL (Aw n)).DK.DI.ID (AL (Aw n)).DK.TH (AL (Aw n)).DK.NE (AL (Aw n)).DK.DI.SD;unfold EK;show (BJ (AL (Aw n)).DK.DI.ID (AL (Aw n)).DK.TH (AL (Aw n)).DK.NE (AL (Aw n)).DK.DI.SD).length≤64;omega
 have h6:(Gq n).length≤64:=by
  unfold Gq;split
  ·simp
  ·unfold EE;rw [List.length_map];omega
 unfold E6;simp only [List.length_append];omega
theorem jq {n:NO} (h:OkN n):(Ef n).length≤500:=by
 have h1:=h.askedL;have h6:(Ha n).length≤64:=by
  unfold Ha;split
  ·simp
  ·unfold FX;rw [List.length_map];omega
 have:(CO (Aw n)).length≤1:=by rcases Zz (Aw n) with ⟨_,e⟩ | ⟨s,l,_,_,_,_,e⟩<;>rw [e]<;>simp
 unfold Ef;rw [List.length_append];omega
def cU (r:NO×List ML×List EV):Int×Int×Int×Int×List SE×List Int×Int×List SX×List Int×List KE×List KE×List ML×List EV:=(r.1.DK.DI.ID,r.1.DK.DI.PH,r.1.DK.TH,r.1.BK.LA,r.1.BK.SE,r.1.TL,0,r.1.DK.DI.SD,r.1.DK.NE,r.1.KN,r.1.AK,r.2.1,r.2.2)
theorem lx (body:Int×Int×Int×Int×List SE×List Int×List ML×List KE×List EV×List KE×List Int×List SX→Option ((Int×Int×Int×Int×List SE×List Int×List ML×List KE×List EV×List KE×List Int×List SX) ⊕ (Int×Int×Int×Int×List SE×List Int×Int×List SX×List Int×List KE×List KE×List ML×List EV)))
  (hb:∀(n:NO) E V,OkN n→E.length≤600000→V.length≤600000→body (n.DK.DI.ID,n.DK.DI.PH,n.DK.TH,n.BK.LA,n.BK.SE,n.TL,E,n.KN,V,n.AK,n.DK.NE,n.DK.DI.SD) =
    if n=AN n then some (.inr (cU (AN n,E++E6 n,V++Ef n))) else some (.inl ((AN n).DK.DI.ID,(AN n).DK.DI.PH,(AN n).DK.TH,(AN n).BK.LA,(AN n).BK.SE,(AN n).TL,E++E6 n,(AN n).KN,V++Ef n,(AN n).AK,(AN n).DK.NE,(AN n).DK.DI.SD))):
  ∀(k:Nat) (n:NO) (E:List ML) (V:List EV),OkN n→Ov n<k→E.length+500*k≤500000→V.length+500*k≤500000→
   loop body (n.DK.DI.ID,n.DK.DI.PH,n.DK.TH,n.BK.LA,n.BK.SE,n.TL,E,n.KN,V,n.AK,n.DK.NE,n.DK.DI.SD)=some (cU (Gl k n E V))
 | 0,_,_,_,_,h,_,_=>by omega
 | k+1,n,E,V,hn,hm,hE,hV=>by
   have l1:=jp hn;have l2:=jq hn;rw [Bn,hb n E V hn Om Om];unfold Gl;by_cases hq:AN n=n
   ·obtain ⟨q1,q2,q3⟩:=((uu hn).2 hq).once hn;rw [if_pos hq.symm,if_pos hq,q2,q3,List.append_nil,List.append_nil,hq]
   ·rw [if_neg fun e=>hq e.symm,if_neg hq];refine lx body hb k (AN n) _ _ hn.once ?_ (by rw [List.length_append];omega) (by rw [List.length_append];omega);rcases ju hn with q | q
    ·exact absurd (q.once hn).1 hq
    ·omega
theorem wQ (f:Int) (n:NO) (E:List ML) (V:List EV) (hn:OkN n) (J:E.length≤600000) (U:V.length≤600000):
  (NP n.DK.DI.ID n.DK.DI.PH n.DK.TH n.BK.LA n.BK.SE n.TL n.DK.DI.SD n.DK.NE n.KN n.AK)=some (n.DK.DI.SD,n.DK.NE,n.KN,n.TL,n.AK,n.BK.SE)
  ∧NA n.DK.DI.ID n.DK.DI.PH n.DK.TH n.BK.LA n.BK.SE n.TL f n.DK.DI.SD n.DK.NE n.KN n.AK E V=some (H6 (AN n) (E++E6 n) (V++Ef n))
  ∧JE n (AN n)=some (decide (n=AN n)):=
 ⟨w3 n _ _ _ _ hn.few,vZ f n hn.go E V J U,vU n _ hn.few⟩
theorem kT (n:NO) (h:OkN n) (V:List EV) (J:V.length≤100000):
  JN n.DK.DI.ID n.DK.DI.PH n.DK.TH n.BK.LA n.BK.SE n.TL 0 n.DK.DI.SD n.DK.NE n.KN n.AK V=some (cU (BE n [] V)):=by
 dsimp only [JN];rw [DT rfl,Bool.not_true,Aa];refine lx _ (fun m E V hm hE J=>?_) 9 n [] V h (by have:=tc n;omega) (by simp) Om;obtain ⟨e1,e2,e3⟩:=wQ 0 m E V hm hE J;dsimp only [aE];rw [e1,OB,e2,OB];have e3':JE m (AN m)=some (decide (m=AN m)):=e3;dsimp only [H6];rw [e3',OB];by_cases hq:m=AN m
 ·rw [if_pos hq,DT hq];rfl
 ·rw [if_neg hq,DN hq];rfl
theorem kU (a b c d e:Int) (B:List SE) (he:e≠0) (V:List EV) (N:List Int) (S:List SX) (T:List Int) (A K:List KE):
  JN a b c d B T e S N K A V=some (0,0,0,0,[],[],e,[],[],[],[],[],[]):=by
 dsimp only [JN];rw [DN he,Bool.not_false,Ag]
theorem lu {P:NO→List ML→List EV→Prop} (hs:∀n E V,OkN n→P n E V→P (AN n) (E++E6 n) (V++Ef n)):∀(k:Nat) (n:NO) (E:List ML) (V:List EV),OkN n→P n E V→P (Gl k n E V).1 (Gl k n E V).2.1 (Gl k n E V).2.2
 | 0,_,_,_,_,h=>h
 | k+1,n,E,V,hn,h=>by
   unfold Gl;split
   ·exact h
   ·exact lu hs k _ _ _ hn.once (hs n E V hn h)
theorem Lw {P:NO→List ML→List EV→Prop} (hs:∀n E V,OkN n→P n E V→P (AN n) (E++E6 n) (V++Ef n)) {n:NO} {E:List ML} {V:List EV} (hn:OkN n) (h:P n E V):P (BE n E V).1 (BE n E V).2.1 (BE n E V).2.2:=lu hs 9 n E V hn h
theorem uD {n:NO} (h:OkN n) (E:List ML) (V:List EV):OkN (BE n E V).1:=Lw (P:=fun n _ _=>OkN n) (fun _ _ _ h _=>h.once) h h
def Bw (p:Int) (s:SE):Bool:=decide (s.SS=0)&&decide (p∈s.NE)
def Co (p:Int) (l:List SE):List Int:=(l.filter (Bw p)).map (·.ID)
theorem kh (s:SE) (p:Int) (Pu:List Int) (hs:s.NE.length≤1000000) (hi:Pu.length≤1000000):NY s p Pu=some (Bw p s,if Bw p s then Pu++[s.ID] else Pu):=by simp only [NY,Sz,SA,Gi s.NE p hs,OB];rw [B5 _ _ Om (by simp;omega),OB];unfold Bw;cases decide (s.SS=0)<;>cases decide (p∈s.NE)<;>rfl
theorem fw (p:Int) (l:List SE) (s:SE):Co p (l++[s])=if Bw p s then Co p l++[s.ID] else Co p l:=by unfold Co;rw [List.filter_append,List.map_append];cases h:Bw p s<;>simp [h]
theorem Me (p:Int) (l:List SE):(Co p l).length≤l.length:=by unfold Co;rw [List.length_map];exact List.length_filter_le _ _
theorem vd (p:Int) (l:List SE) (hl:l.length≤100000) (hn:∀s∈l,s.NE.length≤1000000):
  Ti p l=some (match l.findIdx? (Bw p) with | some i=>((i:Int),Co p (l.take (i+1))) | none=>(-1,[])):=by
 unfold Ti;have Ap:∀(post pre:List SE),l=pre++post→(∀s∈pre,Bw p s=false)→loop (Tj p l) ((pre.length:Int),([]:List Int))=some (match l.findIdx? (Bw p) with | some i=>((i:Int),Co p (l.take (i+1))) | none=>(-1,[])):=by
  intro post;induction post with
  | nil=>
    intro pre h hp;have h:pre=l:=by simpa using h.symm
    subst h;have:pre.findIdx? (Bw p)=none:=by rw [List.findIdx?_eq_none_iff];exact hp
    rw [this,Bn];dsimp only [Tj];rw [AT,Aa];rfl
  | cons x post ih=>
    intro pre h hp;have hx:=BL h;have hm:=BG h;rw [Bn];dsimp only [Tj];rw [AQ hx,Ag,Ar hx,OB,kh x p [] (hn x (Di h)) (by simp),OB];cases hg:Bw p x with
    | true=>
      have hf:l.findIdx? (Bw p)=some pre.length:=by
       rw [List.findIdx?_eq_some_iff_getElem];refine ⟨Om,?_,fun j hj=>?_⟩
       ·have:l[pre.length]'Om=x:=(List.getElem?_eq_some_iff.1 hx).2;rw [this];exact hg
       ·have h6:l[j]?=pre[j]?:=by rw [h,List.getElem?_append_left hj]
        have:l[j]'Om∈pre:=by have e:l[j]?=some (l[j]'Om):=List.getElem?_eq_getElem _;rw [h6] at e;exact List.mem_of_getElem? e
        simpa using hp _ this
      rw [hf];have ht:l.take (pre.length+1)=pre++[x]:=by rw [h,show pre++x::post=(pre++[x])++post by simp,List.take_left' (by simp)]
      have hz:Co p pre=[]:=by unfold Co;rw [List.filter_eq_nil_iff.2 fun s hs=>by rw [hp s hs];simp];rfl
      dsimp only;rw [ht,fw,hg,hz];rfl
    | false=>
      have:=ih (pre++[x]) (by simpa using h) fun s hs=>by
       rcases List.mem_append.1 hs with hs | hs
       ·exact hp s hs
       ·simp at hs;subst hs;exact hg
      rw [AW] at this;rw [←this];dsimp only;rw [if_neg (by simp),Aa,AC Om]
 exact Ap l [] rfl (by simp)
theorem uX (p:Int) (l:List SE) (hl:l.length≤100000) (hn:∀s∈l,s.NE.length≤1000000):
  T3 p l=some (Co p l,l.filter fun s=>!Bw p s):=by
 simp only [T3,vd p l hl hn,OB];cases hf:l.findIdx? (Bw p) with
 | none=>
   rw [List.findIdx?_eq_none_iff] at hf;dsimp only;rw [DT rfl,Ag,List.filter_eq_self.2 (fun x hx=>by rw [hf x hx];rfl)];have:Co p l=[]:=by unfold Co;rw [List.filter_eq_nil_iff.2 fun s hs=>by rw [hf s hs];simp];rfl
   rw [this]
 | some i=>
   obtain ⟨hi,hq,hB⟩:=List.findIdx?_eq_some_iff_getElem.1 hf;dsimp only;rw [DN Om,Aa,AC Om]
   let F:List SE→List SE:=fun pre=>pre.filter fun x=>!Bw p x
   have hF:∀pre post,l=pre++post→(F pre).length≤pre.length:=fun pre post _=>List.length_filter_le _ _;have Ap:=PM l (T4 p) (fun pre=>(((F pre).length:Int),(pre.length:Int),F pre++l.drop (F pre).length,Co p pre)) (fun _ _=>some (Co p l,F l)) (fun pre x post h=>?_) ?_ (l.drop (i+1)) (l.take (i+1)) (by simp)
   ·have e1:F (l.take (i+1))=l.take i:=by
     show (l.take (i+1)).filter _=_;rw [List.take_succ_eq_append_getElem hi,List.filter_append];have a1:(l.take i).filter (fun x=>!Bw p x)=l.take i:=by rw [List.filter_eq_self];intro x hx;obtain ⟨j,hj,rfl⟩:=List.mem_iff_getElem.1 hx;rw [List.getElem_take];have:=hB j (by simp at hj;omega);simpa using this
     have a2: [l[i]].filter (fun x=>!Bw p x)=[]:=by simp [hq]
     rw [a1,a2,List.append_nil]
    rw [e1] at Ap;have e2:(l.take i).length=i:=by simp;omega
    have e3:(l.take (i+1)).length=i+1:=by simp;omega
    rw [e2,e3,List.take_append_drop] at Ap;exact Ap
   ·left;refine ⟨?_,rfl⟩;have hx:=BL h;have hm:=BG h;have h8:=hF pre (x::post) h;have hE:=Me p pre;have h6:(F pre++l.drop (F pre).length).length=l.length:=by simp;omega
    have h9:(F pre++l.drop (F pre).length)[pre.length]?=some x:=by rw [List.getElem?_append_right h8,List.getElem?_drop,show (F pre).length+(pre.length-(F pre).length)=pre.length by omega];exact hx
    dsimp only [T4];rw [AQ h9,Ag,Ar h9,OB,kh x p _ (hn x (Di h)) Om,OB];have hw:F (pre++[x])=F pre++(if Bw p x then [] else [x]):=by show (pre++[x]).filter _=_;rw [List.filter_append];congr 1;cases hC:Bw p x<;>simp [hC]
    rw [←fw];cases hA:Bw p x with
    | true=>rw [Bool.not_true,Aa];dsimp only [Oh];rw [AC Om,hw,hA,if_pos rfl,List.append_nil,AW]
    | false=>
      rw [Bool.not_false,Ag];obtain ⟨d,hd⟩:=Zq (fun x=>!Bw p x) pre post x;rw [←h] at hd;have hd':l.drop (F pre).length=d::l.drop ((F pre).length+1):=hd;have hD:(F pre++l.drop (F pre).length)[(F pre).length]?=some d:=by rw [hd'];simp
      rw [Ar hD,OB];dsimp only [Oh];rw [AC Om,AC Om,hw,hA,if_neg (by simp),AW,hd',Int.toNat_natCast,AW];simp
   ·dsimp only [T4];have h8:=hF l [] (by simp);have h6:(F l++l.drop (F l).length).length=l.length:=by simp;omega
    rw [show ((l.length:Int))=((F l++l.drop (F l).length).length:Int) by rw [h6],AT,Aa];dsimp only [X1];unfold DQ;rw [AX,h6,if_pos ⟨Om,Om,Om,Om⟩,OB];unfold He;rw [h6,if_pos ⟨Om,by simp;omega⟩,OB];unfold D3;rw [if_pos ⟨Om,Om,by simp;omega⟩,OB];simp [Int.toNat_natCast,List.append_assoc]
theorem wb (b:BK) (p:Int) (hk:Cw b=true):Sy b p=some (⟨b.LA,b.SE.filter fun s=>!Bw p s⟩,Co p b.SE,0):=by have h:=(CR b).1 hk;have hf:=h.few;have hl:=h.len;simp only [Sy,LB b hf,hk,if_true,OB,TM b hf,uX p b.SE Om (fun s hs=>hf.2 s hs),decide_true,Bool.not_true,Aa]
theorem BkOK.sub {b:BK} (h:BkOK b) {l:List SE} (hs:l.Sublist b.SE):BkOK ⟨b.LA,l⟩:=⟨h.last,Nat.le_trans hs.length_le h.len,h.up.sublist hs,fun s hm=>h.ok s (hs.subset hm),fun s hm=>h.tl s (hs.tail.subset hm)⟩
theorem Us {α:Type} (l:List α) (i:Nat):(l.take i++l.drop (i+1)).Sublist l:=by
 conv=>rhs;rw [←List.take_append_drop i l]
 refine List.Sublist.append (List.Sublist.refl _) ?_;rw [←List.drop_drop];exact List.drop_sublist _ _
def FO (s:SE):SE:=⟨s.ID,s.NE,s.SS,max s.Age (min s.Age 4611686018427387903+1)⟩
def Dk (b:BK) (hold:Int):BK×Int:=match b.SE with
 | []=>(b,0)
 | s::l=>if s.SS=1 then (if (FO s).Age<hold then (⟨b.LA,FO s::l⟩,0) else (⟨b.LA,l⟩,s.ID)) else (b,0)
theorem vr (b:BK) (hold:Int) (hk:Cw b=true):SF b hold=some ((Dk b hold).1,(Dk b hold).2,0):=by
 have h:=(CR b).1 hk;have hf:=h.few;have hl:=h.len;simp only [SF,LB b hf,hk,if_true,OB,TM b hf,decide_true,Bool.not_true,Aa,AX];unfold Dk;cases hb:b.SE with
 | nil=>dsimp only;rw [show decide (((([]:List SE).length:Nat):Int)=0)=true from rfl,Ag];dsimp only [O3];rw [Ag,←hb]
 | cons s l=>
   have hs:=h.ok s (by rw [hb];simp);have h0:Ac (s::l) 0=some s:=rfl;dsimp only;rw [DN (by simp;omega),Aa,h0,OB];dsimp only [O3];by_cases h1:s.SS=1
   ·have h8:=hs.age;have h6:wr (min s.Age 4611686018427387903+1)=min s.Age 4611686018427387903+1:=D4 Om Om;rw [DT h1,Bool.not_true,Aa,h0,OB,h6,if_pos h1];have e:(⟨s.ID,s.NE,s.SS,max s.Age (min s.Age 4611686018427387903+1)⟩:SE)=FO s:=rfl;rw [e];have es:(s::l).set (Int.toNat 0) (FO s)=FO s::l:=rfl;rw [es];by_cases hh:(FO s).Age<hold
    ·rw [if_pos hh,show decide (max s.Age (min s.Age 4611686018427387903+1)<hold)=true from DT hh,Ag]
    ·rw [if_neg hh,show decide (max s.Age (min s.Age 4611686018427387903+1)<hold)=false from DN hh,Aa];have hd:=kf (FO s::l) 0 (by simp) (by rw [hb] at hl;simp at hl ⊢;omega);have hd:Li 0 1 (FO s::l)=some l:=hd;rw [hd,OB]
   ·rw [DN h1,Bool.not_false,Ag,if_neg h1,←hb]
theorem BkOK.tick {b:BK} (h:BkOK b) (hold:Int):BkOK (Dk b hold).1:=by
 unfold Dk;cases hb:b.SE with
 | nil=>exact h
 | cons s l=>
   dsimp only;split
   ·rename_i h1;split
    ·have hu:=h.up;have hl:=h.len;have ht:=h.tl;have hs:=h.ok s (by rw [hb];simp);rw [hb] at hu hl ht;refine ⟨h.last,hl,?_,fun t ht'=>?_,ht⟩
     ·rw [List.pairwise_cons] at hu ⊢;exact hu
     ·rcases List.mem_cons.1 ht' with rfl | ht'
      ·have:=hs.age;exact {hs with age:=by show 0≤max s.Age _;omega,st:=.inl h1}
      ·exact h.ok t (by rw [hb];exact List.mem_cons_of_mem _ ht')
    ·exact h.sub (by rw [hb];exact List.sublist_cons_self _ _)
   ·exact h
def Dm (is:Bool) (c e:Int):Int:=if decide (e=0)&&!is then c else e
theorem cb (is:Bool) (c a b d f:Int) (B:List SE) (e:Int) (S:List SX) (N:List Int) (K:List KE) (T:List Int) (A:List KE):KX is c a b d f B e S N K T A=some (decide (Dm is c e=0),Dm is c e):=by simp only [KX,S6,S7,Dm];by_cases h:e=0<;>cases is<;>simp [h,A0]
theorem TQ (is:Bool) (c a b d f e:Int) (S:List SX) (N:List Int) (B:List SE) (K:List KE) (T:List Int) (A:List KE):E2 is c a b d f e S N B K T A=some (decide (Dm is c e=0),Dm is c e):=by simp only [E2,S2,S3,Dm];by_cases h:e=0<;>cases is<;>simp [h,A0]
theorem ce (c a b d f e:Int) (S:List SX) (N:List Int) (B:List SE) (K:List KE) (T:List Int) (A:List KE):Fg c a b d f e S N B K T A=some (decide (Dm false c e=0),Dm false c e):=by simp only [Fg,S4,S5,Dm];by_cases h:e=0<;>simp [h,A0]
theorem Ox {c e:Int} (is:Bool) (h:e≠0):Dm is c e=e:=by unfold Dm;rw [DN h];rfl
theorem FG (c e:Int):Dm true c e=e:=by unfold Dm;simp
theorem Ev (c:Int):Dm false c 0=c:=rfl
def C7 (S:List SX) (p:Int):Option Nat:=S.findIdx? fun x=>decide (x.PE=p)
theorem cj (x:node_node) (p:Int) (h:x.NO.DK.DI.SD.length≤1000000):L0 x p=some (Br (C7 x.NO.DK.DI.SD p)):=by simp only [L0,TK x.NO.DK.DI.SD (fun z=>Sb z p) (fun x=>decide (x.PE=p)) Om (fun _ _=>rfl),OB];rfl
theorem Lu {S:List SX} {p:Int} {j:Nat} (h:C7 S p=some j):∃x,S[j]?=some x∧x.PE=p:=by obtain ⟨hi,hq,_⟩:=List.findIdx?_eq_some_iff_getElem.1 h;exact ⟨_,List.getElem?_eq_getElem hi,by simpa using hq⟩
theorem bG {S:List SX} {p:Int} (h:C7 S p=none):∀x∈S,x.PE≠p:=by unfold C7 at h;rw [List.findIdx?_eq_none_iff] at h;intro x hx;simpa using h x hx
theorem kW (d:DK) (h:DrOK d) (E:d.NE.length≤1000000) (K A:List KE) (T:List Int) (V:List EV) (x:Int) (B:List SE) (e:Int):
  HD d.DI.ID d.DI.PH d.TH x B e d.DI.SD d.NE K T A V=some (d.DI.ID,d.DI.PH,0,d.DI.SD,[]):=by
 simp only [HD,Sj,vy d ((Tz d).2 h) E,OB];by_cases h0:d.TH=0
 ·rw [if_pos h0,h.nz h0,h0];rfl
 ·rw [if_neg h0];rfl
theorem c6 (r:BK×Int) (b c d L:Int) (l:List SE) (S:List SX) (N:List Int) (K:List KE) (T:List Int) (A:List KE):KV r.1 r.2 b c d L l 0 S N K T A=some (if r.2=0 then (true,r.1.LA,r.1.SE,0) else (false,L,l,r.2)):=by
 simp only [KV,RP,cb,OB];by_cases h:r.2=0
 ·rw [if_pos h,h];rfl
 ·rw [if_neg h,DN h,Ev,DN h];rfl
theorem ck (k i a b c d:Int) (B:List SE) (e:Int) (S:List SX) (N:List Int) (K:List KE) (T:List Int) (A:List KE):L1 k i a b c d B e S N K T A=some [⟨k,a,i,0,[]⟩]:=by simp only [L1];rw [B5 _ _ Om (by simp),OB];rfl
theorem vf (n:NO) (hn:FewN n) (a b c d:Int) (N:List Int) (B:List SE) (K:List KE) (T:List Int) (A:List KE):Rr a b c d B n.DK.DI.SD N K T A=some (D1 n Dy):=by
 have hl:=hn.sides;simp only [Rr,WQ];have:loop (Sk n.DK.DI.SD fun z=>Hx z) (0,([]:List Int))=some (D1 n Dy):=by
  refine D0 n.DK.DI.SD _ (fun pre=>((pre.length:Int),(pre.filter Dy).map (·.PE))) _ (fun pre x post h=>?_) ?_
  ·have hx:=BL h;have hm:=BG h;have hf:=List.length_filter_le Dy pre;dsimp only [Sk];rw [AQ hx,Ag,Ar hx,OB,show Hx x=some (Dy x) from rfl,OB];cases hq:Dy x with
   | true=>rw [Ag,B5 _ _ Om (by simp;omega),OB];dsimp only [NQ];rw [AC Om,AW];simp [hq]
   | false=>rw [Aa];dsimp only [NQ];rw [AC Om,AW];simp [hq]
  ·dsimp only [Sk];rw [AT,Aa];rfl
 rw [this];rfl
def LV (n:NO) (b:BK):NO:=⟨n.DK,b,n.KN,n.TL,n.AK⟩
def IW (n:NO) (b:BK):NO:=⟨⟨n.DK.DI,0,[]⟩,b,n.KN,n.TL,n.AK⟩
def CF (n:NO) (a:Do):Int×NO×List EV:=
 if a.KI=0 then
  (if (DA n.BK a.ID a.NE).2=0 then (if (a.NE.all fun z=>decide (z∈D1 n Dy))=true then (0,LV n (DA n.BK a.ID a.NE).1,[⟨0,n.DK.DI.ID,a.ID,0,Bm a.NE⟩]) else (181,n,[])) else ((DA n.BK a.ID a.NE).2,n,[]))
 else if a.KI=1 then
  (if (C6 n.BK a.ID 1).2=0 then (0,IW n (C6 n.BK a.ID 1).1,[⟨2,n.DK.DI.ID,a.ID,0,[]⟩]) else ((C6 n.BK a.ID 1).2,n,[]))
 else if a.KI=2 then
  (if (C6 n.BK a.ID 0).2=0 then (0,if (CZ n).1.ID=a.ID∧n.DK.TH=1 then IW n (C6 n.BK a.ID 0).1 else LV n (C6 n.BK a.ID 0).1,[⟨3,n.DK.DI.ID,a.ID,0,[]⟩]) else ((C6 n.BK a.ID 0).2,n,[]))
 else if a.KI=3 then
  (if (Dk n.BK a.Hold).2=0 then (0,LV n (Dk n.BK a.Hold).1,[]) else (0,IW n (Dk n.BK a.Hold).1,[⟨4,n.DK.DI.ID,(Dk n.BK a.Hold).2,0,[]⟩]))
 else (0,n,[])
def xo (e:Int) (m:NO) (V:List EV):Int×Int×Int×Int×List SE×Int×List EV×List SX×List Int:=(m.DK.DI.ID,m.DK.DI.PH,m.DK.TH,m.BK.LA,m.BK.SE,e,V,m.DK.DI.SD,m.DK.NE)
theorem vH (n:NO) (a b c d:Int) (S:List SX) (N:List Int) (K:List KE) (T:List Int) (A:List KE):RH a b c d S N n.BK.SE K T A=some (CZ n):=by
 simp only [RH,AX];unfold CZ;cases h:n.BK.SE with
 | nil=>rfl
 | cons s l=>rw [DN (by simp;omega),Aa];rfl
theorem vI (n:NO) (a b c d:Int) (S:List SX) (N:List Int) (K:List KE) (T:List Int) (A:List KE):RE a b c d n.BK.SE S N K T A=some (CZ n):=by
 simp only [RE,AX];unfold CZ;cases h:n.BK.SE with
 | nil=>rfl
 | cons s l=>rw [DN (by simp;omega),Aa];rfl
theorem wf (n:NO) (a:Do) (h:OkN n) (ha:a.NE.length≤1000):
  NI a n.DK.DI.ID n.DK.DI.PH n.DK.TH n.BK.LA 0 n.DK.DI.SD n.DK.NE n.BK.SE n.KN n.TL n.AK=some (xo (CF n a).1 (CF n a).2.1 (CF n a).2.2):=by
 have hf:=h.few;have hb:=hf.bk;have hN:=hf.need;have hS:=hf.sides;have hp:=Yb n Dy;have h6:∀(x:Int) (B:List SE) (e:Int) (K A:List KE) (T:List Int) (V:List EV),HD n.DK.DI.ID n.DK.DI.PH n.DK.TH x B e n.DK.DI.SD n.DK.NE K T A V=some (n.DK.DI.ID,n.DK.DI.PH,0,n.DK.DI.SD,[]):=fun x B e K A T V=>kW n.DK h.dr Om K A T V x B e;unfold NI CF;have eb:(⟨n.BK.LA,n.BK.SE⟩:BK)=n.BK:=rfl;rw [eb];by_cases k0:a.KI=0
 ·rw [DT k0,Ag,if_pos k0,ku n.BK a.ID a.NE hb Om,OB];dsimp only [Wu];rw [cb,OB];by_cases e0:(DA n.BK a.ID a.NE).2=0
  ·rw [if_pos e0,e0,DT rfl,FG];dsimp only;rw [DT rfl,Ag,vf n hf,OB,OV a.NE (D1 n Dy) Om Om,OB,cb,OB];dsimp only [Se];cases hw:(a.NE.all fun z=>decide (z∈D1 n Dy)) with
   | true=>rw [FG,DT rfl,Ag,TR a.NE Om,OB,B5 _ _ Om (by simp),OB];rfl
   | false=>rfl
  ·rw [if_neg e0,DN e0,Ev];dsimp only;rw [DN e0,Aa];rfl
 ·rw [DN k0,Aa,if_neg k0];by_cases k1:a.KI=1
  ·rw [DT k1,Ag,if_pos k1,bZ n.BK a.ID hb,OB,c6,OB];by_cases e0:(C6 n.BK a.ID 1).2=0
   ·rw [if_pos e0,if_pos e0];dsimp only;rw [Ag,ck,OB,h6,OB];rfl
   ·rw [if_neg e0,if_neg e0];rfl
  ·rw [DN k1,Aa,if_neg k1];by_cases k2:a.KI=2
   ·rw [DT k2,Ag,if_pos k2,vH n,OB,bU n.BK a.ID hb,OB,c6,OB];by_cases e0:(C6 n.BK a.ID 0).2=0
    ·rw [if_pos e0,if_pos e0];dsimp only;rw [Ag,ck,OB];dsimp only [Sf];rw [h6,OB];by_cases c1:(CZ n).1.ID=a.ID
     ·rw [DT c1];by_cases c2:n.DK.TH=1
      ·rw [DT c2,if_pos ⟨c1,c2⟩];rfl
      ·rw [DN c2,if_neg fun c=>c2 c.2];rfl
     ·rw [DN c1,if_neg fun c=>c1 c.1];rfl
    ·rw [if_neg e0,if_neg e0];rfl
   ·rw [DN k2,Aa,if_neg k2];by_cases k3:a.KI=3
    ·rw [DT k3,Ag,if_pos k3,vr n.BK a.Hold h.bk,OB];dsimp only [Wv,Sg];have:=c6 ((Dk n.BK a.Hold).1,0) n.DK.DI.ID n.DK.DI.PH n.DK.TH n.BK.LA n.BK.SE n.DK.DI.SD n.DK.NE n.KN n.TL n.AK;dsimp only at this;rw [this,OB,if_pos rfl];dsimp only;rw [Ag];by_cases e0:(Dk n.BK a.Hold).2=0
     ·rw [if_pos e0,DT e0];rfl
     ·rw [if_neg e0,DN e0,Bool.not_false,Ag,ck,OB,h6,OB];rfl
    ·rw [DN k3,Aa,if_neg k3];rfl
theorem cz {α:Type} {S:List α} {j:Nat} {x:α} (h:S[j]?=some x) (y:α):S=S.take j++x::S.drop (j+1)∧S.set j y=S.take j++y::S.drop (j+1):=by
 obtain ⟨hj,hx⟩:=List.getElem?_eq_some_iff.1 h;have e1:S=S.take j++x::S.drop (j+1):=by rw [←hx];simp
 refine ⟨e1,?_⟩;have hl:(S.take j).length=j:=by simp;omega
 conv=>lhs;rw [e1]
 rw [List.set_append_right _ _ Om,hl,Nat.sub_self];rfl
theorem K5 {S:List SX} (hu:S.Pairwise fun x y=>x.PE<y.PE) {j:Nat} {x:SX} (h:S[j]?=some x) (y:SX) {z:SX}:z∈S.set j y↔z=y∨z∈S∧z.PE≠x.PE:=by
 obtain ⟨e1,e2⟩:=cz h y;have hu':=hu;rw [e1,List.pairwise_append,List.pairwise_cons] at hu';obtain ⟨_,⟨u2,_⟩,u3⟩:=hu';rw [e2,List.mem_append,List.mem_cons];constructor
 ·rintro (hz | hz | hz)
  ·have:=u3 z hz x (by simp);exact .inr ⟨by rw [e1];simp [hz],Om⟩
  ·exact .inl hz
  ·have:=u2 z hz;exact .inr ⟨by rw [e1];simp [hz],Om⟩
 ·rintro (hz | ⟨hz,hn⟩)
  ·exact .inr (.inl hz)
  ·rw [e1,List.mem_append,List.mem_cons] at hz;rcases hz with hz | hz | hz
   ·exact .inl hz
   ·rw [hz] at hn;exact absurd rfl hn
   ·exact .inr (.inr hz)
theorem lr {S:List SX} {j:Nat} {x y:SX} (h:S[j]?=some x) (hp:y.PE=x.PE):(S.set j y).map (·.PE)=S.map (·.PE):=by
 obtain ⟨e1,e2⟩:=cz h y;rw [e2]
 conv=>rhs;rw [e1]
 simp [hp]
theorem DrOK.state {d:DK} (h:DrOK d) {j:Nat} {x:SX} (hx:d.DI.SD[j]?=some x) {s:Int} (hs:0≤s∧s≤3):DrOK ⟨⟨d.DI.ID,d.DI.PH,d.DI.SD.set j {x with SS:=s}⟩,d.TH,d.NE⟩:=by
 have h6:=h.din.up;have hm:=fun {z:SX}=>K5 (z:=z) h6 hx {x with SS:=s};have h8:=List.mem_of_getElem? hx;refine ⟨⟨h.din.id0,h.din.p0,h.din.p2,by rw [List.length_set];exact h.din.len,OQ (lr hx rfl) h6,fun z hz=>?_⟩,h.t0,h.t2,h.up,h.nz,fun p hp=>?_⟩
 ·rcases hm.1 hz with rfl | ⟨hz,_⟩
  ·have:=h.din.side x h8;exact ⟨this.lo,this.ne,this.e0,this.e1,hs.1,hs.2,this.df⟩
  ·exact h.din.side z hz
 ·obtain ⟨y,hy,e⟩:=h.has p hp;by_cases hq:y.PE=x.PE
  ·exact ⟨_,hm.2 (.inl rfl),by show x.PE=p;omega⟩
  ·exact ⟨y,hm.2 (.inr ⟨hy,hq⟩),e⟩
def OX (n:NO) (p:Int):Bool:=(CZ n).2&&(decide (n.DK.TH=1)&&decide ((CZ n).1.ID∈Co p n.BK.SE))
def cA (n:NO) (p:Int):BK:=⟨n.BK.LA,n.BK.SE.filter fun s=>!Bw p s⟩
def OY (n:NO) (j:Nat) (x:SX):DI:=⟨n.DK.DI.ID,n.DK.DI.PH,n.DK.DI.SD.set j {x with SS:=2}⟩
def Bp (n:NO) (j:Nat) (x:SX):NO:=⟨if OX n x.PE then ⟨OY n j x,0,[]⟩ else ⟨OY n j x,n.DK.TH,n.DK.NE⟩,cA n x.PE,n.KN,n.TL,n.AK⟩
def G0 (id:Int) (l:List Int):List EV:=l.map fun i=>⟨5,id,i,0,[]⟩
def Ez (n:NO) (p:Int):List EV:=⟨7,n.DK.DI.ID,0,p,[]⟩::G0 n.DK.DI.ID (Co p n.BK.SE)
theorem kV (n:NO) (h:OkN n) (p:Int) (j:Nat) (x:SX) (hp:C7 n.DK.DI.SD p=some j) (hx:n.DK.DI.SD[j]?=some x) (h8:x.PE=p) (e:Int):
  L2 p n.DK.DI.ID n.DK.DI.PH n.DK.TH n.BK.LA e n.DK.DI.SD n.DK.NE n.BK.SE n.KN n.TL n.AK =
   some ((Bp n j x).DK.DI.ID,(Bp n j x).DK.DI.PH,(Bp n j x).DK.TH,(Bp n j x).BK.LA,(Bp n j x).BK.SE,Ez n p,(Bp n j x).DK.DI.SD,(Bp n j x).DK.NE):=by
 subst h8;have hf:=h.few;have hS:=hf.sides;have hN:=hf.need;have hB:=hf.book;have hg:=Me x.PE n.BK.SE;have h9:=h.dr.state hx (s:=2) Om;unfold L2;rw [cj _ _ (show _≤_ by dsimp only;omega),OB];dsimp only;rw [hp];dsimp only [Br];rw [Ar hx,OB,Int.toNat_natCast];have hw:(⟨x.PE,x.EP,2,x.FK,x.DY,x.TO,x.BO,x.Ask⟩:SX)={x with SS:=2}:=rfl;rw [hw];dsimp only [Ww];have h6:∀(S:List SX),JK 7 x.PE n.DK.DI.ID n.DK.DI.PH n.DK.TH n.BK.LA e S n.DK.NE n.BK.SE n.KN n.TL n.AK=some [⟨7,n.DK.DI.ID,0,x.PE,[]⟩]:=fun S=>by simp only [JK];rw [B5 _ _ Om (by simp),OB];rfl
 rw [h6,OB,show (⟨n.BK.LA,n.BK.SE⟩:BK)=n.BK from rfl,wb n.BK x.PE h.bk,OB,vI n,OB];have j3:∀(d:DK),d.DI.ID=n.DK.DI.ID→NJ e n.KN n.TL n.AK [⟨7,n.DK.DI.ID,0,x.PE,[]⟩] (⟨n.BK.LA,n.BK.SE.filter fun s=>!Bw x.PE s⟩,Co x.PE n.BK.SE,0) (d.DI.ID,d.DI.PH,d.TH,d.DI.SD,d.NE) =
   some (d.DI.ID,d.DI.PH,d.TH,(cA n x.PE).LA,(cA n x.PE).SE,Ez n x.PE,d.DI.SD,d.NE):=fun d hA=>by
  dsimp only [NJ];refine D0 (Co x.PE n.BK.SE) _ (fun pre=>((pre.length:Int),⟨7,n.DK.DI.ID,0,x.PE,[]⟩::G0 n.DK.DI.ID pre)) _ (fun pre y post h0=>?_) ?_
  ·have hy:=BL h0;have hm:=BG h0;have hD:(G0 n.DK.DI.ID pre).length=pre.length:=by unfold G0;rw [List.length_map]
   dsimp only [WB,Ws];rw [AQ hy,Ag,Ar hy,OB,B5 _ _ Om (by simp;omega),OB,OB,AC Om,AW,hA];simp [G0]
  ·dsimp only [WB,WA];rw [AT,Aa];rfl
 have hC:∀(x':Int) (B:List SE) (e:Int) (K A:List KE) (T:List Int) (V:List EV),HD n.DK.DI.ID n.DK.DI.PH n.DK.TH x' B e (n.DK.DI.SD.set j {x with SS:=2}) n.DK.NE K T A V=some (n.DK.DI.ID,n.DK.DI.PH,0,n.DK.DI.SD.set j {x with SS:=2},[]):=fun x' B e K A T V=>kW _ h9 (by show n.DK.NE.length≤_;omega) K A T V x' B e;have j2:∀z,z=OX n x.PE→L3 n.DK.DI.ID n.DK.DI.PH n.DK.TH n.BK.LA e n.DK.NE n.BK.SE n.KN n.TL n.AK (n.DK.DI.SD.set j {x with SS:=2}) [⟨7,n.DK.DI.ID,0,x.PE,[]⟩] (⟨n.BK.LA,n.BK.SE.filter fun s=>!Bw x.PE s⟩,Co x.PE n.BK.SE,0) z=some ((Bp n j x).DK.DI.ID,(Bp n j x).DK.DI.PH,(Bp n j x).DK.TH,(Bp n j x).BK.LA,(Bp n j x).BK.SE,Ez n x.PE,(Bp n j x).DK.DI.SD,(Bp n j x).DK.NE):=fun z hz=>by
  dsimp only [L3];cases z with
  | true=>rw [Ag,hC,OB];have:=j3 ⟨OY n j x,0,[]⟩ rfl;refine Eq.trans this ?_;unfold Bp;rw [←hz];rfl
  | false=>rw [Aa];have:=j3 ⟨OY n j x,n.DK.TH,n.DK.NE⟩ rfl;refine Eq.trans this ?_;unfold Bp;rw [←hz];rfl
 unfold OX at j2;cases h1:(CZ n).2 with
 | false=>rw [Aa];exact j2 false (by rw [h1];rfl)
 | true=>
   rw [Ag];by_cases h2:n.DK.TH=1
   ·rw [DT h2,Ag,Yi _ _ (by dsimp only;omega),OB];exact j2 _ (by rw [h1,DT h2];rfl)
   ·rw [DN h2,Aa];exact j2 false (by rw [h1,DN h2];rfl)
theorem fc {n:NO} {s:SE} {l:List SE} (h:n.BK.SE=s::l):CZ n=(s,true):=by unfold CZ;rw [h]
theorem OkN.shut {n:NO} (h:OkN n) {j:Nat} {x:SX} (hx:n.DK.DI.SD[j]?=some x) (h0:x.SS=0):OkN (Bp n j x):=by
 have hD:=(CR _).1 h.bk;have h9:=List.mem_of_getElem? hx;have hE:=h.dr.state hx (s:=2) Om;have hm:∀ {z:SX},z∈(OY n j x).SD↔z={x with SS:=2}∨z∈n.DK.DI.SD∧z.PE≠x.PE:=fun {z}=>K5 (z:=z) h.rowS.up hx {x with SS:=2};have h6:(Bp n j x).DK.DI=OY n j x:=by unfold Bp;dsimp only;split<;>rfl
 have hC:∀p∈(Bp n j x).DK.NE,p∈n.DK.NE:=by
  unfold Bp;dsimp only;split
  ·intro p hp;simp at hp
  ·exact fun p hp=>hp
 have hI:∀s∈n.BK.SE,s.SS=1→Bw x.PE s=false:=fun s _ e=>by unfold Bw;rw [DN Om];rfl
 refine ⟨?_,(CR _).2 (hD.sub List.filter_sublist),fun k hk=>?_,h.dis,?_,h.kup,h.kr,fun z hz=>?_,h.told,fun p hp=>?_,?_,?_,fun z hz hn=>?_,fun s hs hw p hp=>?_⟩
 ·unfold Bp;dsimp only;split
  ·exact ⟨hE.din,by show (0:Int)≤0;omega,by show (0:Int)≤2;omega,.nil,fun _=>rfl,by simp⟩
  ·exact hE
 ·have:=h.may k hk;rw [h6];exact ⟨fun z hz=>by
   rcases hm.1 hz with rfl | ⟨hz,_⟩
   ·exact this.1 x h9
   ·exact this.1 z hz,this.2⟩
 ·rw [h6];exact h.id
 ·rw [h6] at hz ⊢;rcases hm.1 hz with rfl | ⟨hz,_⟩
  ·have:=h.sd x h9;exact ⟨this.1,this.2.1,this.2.2.1,fun e=>by have e:(2:Int)=1∨(2:Int)=3:=e;omega⟩
  ·exact h.sd z hz
 ·obtain ⟨z,hz,e1,e⟩:=h.tin p hp;rw [h6];refine ⟨z,hm.2 (.inr ⟨hz,fun q=>?_⟩),e1,e⟩;have:=LH h.rowS.up hz h9 q;subst this;omega
 ·rw [F8];constructor
  ·intro e;have h2:n.DK.TH=2:=by
    unfold Bp at e;dsimp only at e;split at e
    ·have e:(0:Int)=2:=e;omega
    ·exact e
   obtain ⟨s,l,hb,h8,_⟩:=h.drinks h2;refine ⟨s,l.filter fun s=>!Bw x.PE s,?_,h8⟩;show (n.BK.SE.filter _)=_;rw [hb,List.filter_cons,hI s (by rw [hb];simp) h8];simp
  ·rintro ⟨s,l,hb,h8⟩;have hb:n.BK.SE.filter (fun s=>!Bw x.PE s)=s::l:=hb;have hsm:s∈n.BK.SE:=(List.mem_filter.1 (by rw [hb];simp)).1;cases hB:n.BK.SE with
   | nil=>rw [hB] at hsm;simp at hsm
   | cons t r=>
     have hG:=hD.tl;rw [hB] at hG hsm;rcases List.mem_cons.1 hsm with rfl | hsm
     ·have h2:=h.th.2 ((F8 n).2 ⟨s,r,hB,h8⟩);unfold Bp OX;dsimp only;rw [DN (show ¬n.DK.TH=1 by omega)];simp [h2]
     ·have:=hG s hsm;omega
 ·cases hc:OX n x.PE with
  | true=>left;unfold Bp;dsimp only;rw [hc];rfl
  | false=>
    rcases h.hq with q | q
    ·left;unfold Bp;dsimp only;rw [hc];exact q
    ·by_cases hz:n.DK.TH=0
     ·left;unfold Bp;dsimp only;rw [hc];exact hz
     ·right;obtain ⟨s,l,hb,hn⟩:=(Hj n).1 q;have hsm:s∈n.BK.SE:=by rw [hb];simp
      have hg:Bw x.PE s=false:=by
       cases hg:Bw x.PE s with
       | false=>rfl
       | true=>
         exfalso;have hw:s.SS=0:=by unfold Bw at hg;rw [Bool.and_eq_true,decide_eq_true_eq] at hg;exact hg.1
         have ht:n.DK.TH=1:=by
          have:=h.dr.t0;have:=h.dr.t2;by_cases e2:n.DK.TH=2
          ·obtain ⟨s',l',hb',hs',_⟩:=h.drinks e2;rw [hb] at hb';simp only [List.cons.injEq] at hb';rw [←hb'.1] at hs';omega
          ·omega
         unfold OX at hc;rw [fc hb,DT ht,DT (show (s,true).1.ID∈Co x.PE n.BK.SE from List.mem_map.2 ⟨s,List.mem_filter.2 ⟨hsm,hg⟩,rfl⟩)] at hc;simp at hc
      rw [Hj];refine ⟨s,l.filter fun s=>!Bw x.PE s,?_,?_⟩
      ·show (n.BK.SE.filter _)=_;rw [hb,List.filter_cons,hg];simp
      ·unfold Bp;dsimp only;rw [hc];exact hn
 ·rw [h6] at hz;rcases hm.1 hz with rfl | ⟨hz,_⟩
  ·show (2:Int)≠3;omega
  ·exact h.nl z hz (hC _ hn)
 ·have hs:s∈n.BK.SE.filter fun s=>!Bw x.PE s:=hs;obtain ⟨h8,hA⟩:=List.mem_filter.1 hs;obtain ⟨y,hy,e0,e⟩:=h.wt s h8 hw p hp;rw [h6];refine ⟨y,hm.2 (.inr ⟨hy,fun q=>?_⟩),e0,e⟩;unfold Bw at hA;rw [DT hw,DT (show x.PE∈s.NE by rw [←q,e];exact hp)] at hA;simp at hA
def XM:NO:=⟨⟨⟨0,0,[]⟩,0,[]⟩,⟨0,[]⟩,[],[],[]⟩
def E7 (e:Int) (m:NO) (V:List EV):NO×List ML×List EV×Int:=if e=0 then ((BE m [] V).1,(BE m [] V).2.1,(BE m [] V).2.2,0) else (XM,[],[],e)
def addS (n:NO) (p:Int):SX:=⟨p,BR n.KN p+1,1,true,true,false,true,false⟩
def B9 (n:NO) (a:Do):Int×NO×List EV:=
 if a.KI=0∨a.KI=1∨a.KI=2∨a.KI=3 then CF n a
 else if a.KI=4 then
  (if n.DK.DI.ID<a.PE∧a.PE<64 then (match C7 n.DK.DI.SD a.PE with
    | some _=>(183,n,[])
    | none=>if BR n.KN a.PE<65535 then (0,HM n (addS n a.PE) n.AK,[]) else (186,n,[])) else (182,n,[]))
 else if a.KI=5 then
  (if n.DK.DI.ID<a.PE∧a.PE<64 then (match C7 n.DK.DI.SD a.PE with
    | none=>(184,n,[])
    | some j=>match n.DK.DI.SD[j]? with
      | none=>(184,n,[])
      | some x=>if x.SS=0 then (0,Bp n j x,Ez n a.PE) else (185,n,[])) else (182,n,[]))
 else (188,n,[])
theorem Uf (m:NO) (V:List EV) (e:Int) (x3:List SX×List Int×List KE×List Int×List KE×List SE) (J:x3.2.2.2.1=m.TL) (E:x3.2.2.2.2.1=m.AK) (h:e=0→OkN m) (U:V.length≤100000):
  G9 x3 (m.DK.DI.ID,m.DK.DI.PH,m.DK.TH,m.BK.LA,m.BK.SE,e,m.DK.DI.SD,m.DK.NE,m.KN,V)=some (E7 e m V):=by
 dsimp only [G9];rw [J,E];unfold E7;by_cases he:e=0
 ·subst he;rw [kT m (h rfl) V U,OB,if_pos rfl];rfl
 ·rw [kU _ _ _ _ e _ he,OB,if_neg he];rfl
theorem OkN.book {n:NO} (h:OkN n) {b:BK} (hb:BkOK b) (hg:n.DK.TH=2↔∃s l,b.SE=s::l∧s.SS=1) (hq:n.DK.TH=0∨∃s l,b.SE=s::l∧s.NE=n.DK.NE)
  (E:∀s∈b.SE,s.SS=0→∀p∈s.NE,∃x∈n.DK.DI.SD,x.SS=0∧x.PE=p):OkN (LV n b):=
 {h with bk:=(CR _).2 hb,th:=by rw [F8];exact hg,hq:=by rw [Hj];exact hq,wt:=E}
theorem OkN.calm {n:NO} (h:OkN n) {b:BK} (hb:BkOK b) (h0:∀s∈b.SE,s.SS=0) (E:∀s∈b.SE,s.SS=0→∀p∈s.NE,∃x∈n.DK.DI.SD,x.SS=0∧x.PE=p):OkN (IW n b):=
 {h with
  dr:=⟨h.dr.din,by show (0:Int)≤0;omega,by show (0:Int)≤2;omega,.nil,fun _=>rfl,fun p hp=>by have:p∈([]:List Int):=hp;simp at this⟩
  bk:=(CR _).2 hb
  th:=by
   rw [F8];constructor
   ·intro e;have:(0:Int)=2:=e;omega
   ·rintro ⟨s,l,e,hs⟩;have e:b.SE=s::l:=e;have:=h0 s (by rw [e];simp);omega
  hq:=.inl rfl
  nl:=fun x _ hx=>by have:x.PE∈([]:List Int):=hx;simp at this
  wt:=E}
theorem eN {b:BK} {id w:Int} (h:(C6 b id w).2=0):∃i s,b.SE[i]?=some s∧s.ID=id∧s.SS=w∧(C6 b id w).1=⟨b.LA,b.SE.take i++b.SE.drop (i+1)⟩:=by
 unfold C6 at h ⊢;split at h
 ·rename_i hk;rw [if_pos hk];cases hf:FZ b id with
  | none=>rw [hf] at h;simp at h
  | some i=>
    obtain ⟨s,hs,h6⟩:=eV hf;rw [hf] at h;dsimp only at h ⊢;rw [hs] at h;dsimp only at h;rw [hs];split at h
    ·rename_i hw;exact ⟨i,s,hs,h6,hw,by dsimp only;rw [if_pos hw]⟩
    ·simp at h
 ·simp at h
theorem Ur {α:Type} {l:List α} {i:Nat} {x:α} (h:x∈l.take i++l.drop (i+1)):x∈l:=(Us l i).subset h
structure EvOK (id:Int) (v:EV):Prop where
 node:v.NO=id
 edge:6≤v.KI→v.ID=0
 sess:v.KI<6→v.PE=0
 need:v.KI≠0→v.NE=[]
theorem lm {n:NO} {a:Do} (h:OkN n) (he:(CF n a).1=0):OkN (CF n a).2.1∧(CF n a).2.1.DK.DI=n.DK.DI∧(CF n a).2.1.TL=n.TL∧(CF n a).2.1.AK=n.AK∧(CF n a).2.1.KN=n.KN∧(∀v∈(CF n a).2.2,EvOK n.DK.DI.ID v∧v.KI≠1)∧(CF n a).2.2.length≤1:=by
 have h6:=(CR _).1 h.bk;have hB:n.DK.TH≠2→∀s∈n.BK.SE,s.SS=0:=fun h2 s hs=>by
  cases hb:n.BK.SE with
  | nil=>rw [hb] at hs;simp at hs
  | cons t r=>
    have h8:=h6.tl;rw [hb] at h8 hs;rcases List.mem_cons.1 hs with rfl | hs
    ·rcases fI h6 hb with e | e
     ·exact absurd (h.th.2 ((F8 n).2 ⟨s,r,hb,e⟩)) h2
     ·exact e
    ·exact h8 s hs
 revert he;unfold CF;split
 ·split
  ·rename_i k0 e0;split
   ·rename_i hw;intro _;refine ⟨?_,rfl,rfl,rfl,rfl,?_,by simp⟩
    ·have hG:n.BK.LA<a.ID∧FF (Bm a.NE)=true∧n.BK.SE.length≠8∧DA n.BK a.ID a.NE=(⟨a.ID,n.BK.SE++[⟨a.ID,Bm a.NE,0,0⟩]⟩,0):=by
      unfold DA at e0 ⊢;rw [if_pos h.bk] at e0 ⊢;by_cases c1:a.ID≤n.BK.LA
      ·rw [if_pos c1] at e0;simp at e0
      ·rw [if_neg c1] at e0 ⊢;cases c2:FF (Bm a.NE) with
       | false=>rw [c2] at e0;simp at e0
       | true=>
         rw [c2,if_pos rfl] at e0;rw [if_pos rfl];by_cases c3:n.BK.SE.length=8
         ·rw [if_pos c3] at e0;simp at e0
         ·rw [if_neg c3];exact ⟨Om,rfl,c3,rfl⟩
     obtain ⟨o1,o2,o3,o4⟩:=hG;have hC:=DO a.NE;have hL:=h6.last;have hN:=h6.len;rw [o4];refine h.book ⟨by show 0≤a.ID;omega,by show (n.BK.SE++[_]).length≤8;rw [AW];omega,?_,fun s hs=>?_,fun s hs=>?_⟩ ?_ ?_ fun s hs hI p hp=>?_
     ·show (n.BK.SE++[_]).Pairwise _;rw [List.pairwise_append];refine ⟨h6.up,by simp,fun s hs t ht=>?_⟩;simp at ht;subst ht;have:=(h6.ok s hs).hi;show s.ID<a.ID;omega
     ·have hs:s∈n.BK.SE++[⟨a.ID,Bm a.NE,0,0⟩]:=hs;rcases List.mem_append.1 hs with hs | hs
      ·have:=h6.ok s hs;exact {this with hi:=by have:=this.hi;show s.ID≤a.ID;omega}
      ·simp at hs;subst hs;exact ⟨by show 0<a.ID;omega,by show a.ID≤a.ID;omega,o2,hC.1,by show (0:Int)≤0;omega,.inr ⟨rfl,rfl⟩⟩
     ·have hs:s∈(n.BK.SE++[(⟨a.ID,Bm a.NE,0,0⟩:SE)]).tail:=hs;cases hb:n.BK.SE with
      | nil=>rw [hb] at hs;simp at hs
      | cons t r=>
        have h8:=h6.tl;rw [hb] at h8 hs;have hs:s∈r++[⟨a.ID,Bm a.NE,0,0⟩]:=hs;rcases List.mem_append.1 hs with hs | hs
        ·exact h8 s hs
        ·simp at hs;subst hs;rfl
     ·rw [h.th,F8];show (∃s l,n.BK.SE=s::l∧s.SS=1)↔∃s l,n.BK.SE++[⟨a.ID,Bm a.NE,0,0⟩]=s::l∧s.SS=1;cases hb:n.BK.SE with
      | nil=>simp
      | cons t r=>simp
     ·rcases h.hq with q | q
      ·exact .inl q
      ·right;obtain ⟨s,l,hb,hn⟩:=(Hj n).1 q;exact ⟨s,l++[⟨a.ID,Bm a.NE,0,0⟩],by show n.BK.SE++_=_;rw [hb];rfl,hn⟩
     ·have hs:s∈n.BK.SE++[⟨a.ID,Bm a.NE,0,0⟩]:=hs;rcases List.mem_append.1 hs with hs | hs
      ·exact h.wt s hs hI p hp
      ·simp at hs;subst hs;have:=List.all_eq_true.1 hw p ((hC.2 p).1 hp);rw [decide_eq_true_eq,aZ] at this;obtain ⟨x,hx,hl,e⟩:=this;exact ⟨x,hx,by simpa [Dy] using hl,e⟩
    ·intro v hv;simp at hv;subst hv;exact ⟨⟨rfl,fun q=>by have q:(6:Int)≤0:=q;omega,fun _=>rfl,fun q=>absurd rfl q⟩,by show (0:Int)≠1;omega⟩
   ·intro he;simp at he
  ·rename_i e0;exact fun he=>absurd he e0
 ·split
  ·split
   ·rename_i e0;intro _;obtain ⟨i,s,hs,hD,hJ,eb⟩:=eN e0;refine ⟨?_,rfl,rfl,rfl,rfl,?_,by simp⟩
    ·rw [eb];have hz:∀t∈n.BK.SE.take i++n.BK.SE.drop (i+1),t.SS=0:=by
      intro t ht;cases hb:n.BK.SE with
      | nil=>rw [hb] at hs;simp at hs
      | cons u r=>
        have h8:=h6.tl;rw [hb] at h8 hs ht;cases i with
        | zero=>exact h8 t (by simpa using ht)
        | succ i=>have:s∈r:=List.mem_of_getElem? (by simpa using hs);have:=h8 s this;omega
     exact h.calm (h6.sub (Us _ _)) hz fun t ht h0 p hp=>h.wt t (Ur ht) h0 p hp
    ·intro v hv;simp at hv;subst hv;exact ⟨⟨rfl,fun q=>by have q:(6:Int)≤2:=q;omega,fun _=>rfl,fun _=>rfl⟩,by show (2:Int)≠1;omega⟩
   ·rename_i e0;exact fun he=>absurd he e0
  ·split
   ·split
    ·rename_i e0;intro _;obtain ⟨i,s,hs,hD,hJ,eb⟩:=eN e0;have hE:∀v∈ [(⟨3,n.DK.DI.ID,a.ID,0,[]⟩:EV)],EvOK n.DK.DI.ID v∧v.KI≠1:=fun v hv=>by simp at hv;subst hv;exact ⟨⟨rfl,fun q=>by have q:(6:Int)≤3:=q;omega,fun _=>rfl,fun _=>rfl⟩,by show (3:Int)≠1;omega⟩
     have hw:∀t∈n.BK.SE.take i++n.BK.SE.drop (i+1),t.SS=0→∀p∈t.NE,∃x∈n.DK.DI.SD,x.SS=0∧x.PE=p:=fun t ht h0 p hp=>h.wt t (Ur ht) h0 p hp;split
     ·rename_i hc;refine ⟨?_,rfl,rfl,rfl,rfl,hE,by simp⟩;rw [eb];exact h.calm (h6.sub (Us _ _)) (fun t ht=>hB Om t (Ur ht)) hw
     ·rename_i hc;refine ⟨?_,rfl,rfl,rfl,rfl,hE,by simp⟩;rw [eb];have hA:n.DK.TH≠0→∃t r,n.BK.SE=t::r∧t.NE=n.DK.NE∧∃r',n.BK.SE.take i++n.BK.SE.drop (i+1)=t::r':=fun hz=>by
       obtain ⟨t,r,hb,hn⟩:=(Hj n).1 (by rcases h.hq with q | q;exact absurd q hz;exact q);refine ⟨t,r,hb,hn,?_⟩;cases i with
       | succ i=>rw [hb];exact ⟨_,rfl⟩
       | zero=>
         exfalso;rw [hb] at hs;simp at hs;subst hs;have h0:=h.dr.t0;have h2:=h.dr.t2;by_cases e1:n.DK.TH=1
         ·exact hc ⟨by rw [fc hb];exact hD,e1⟩
         ·obtain ⟨t',r',hb',hs',_⟩:=h.drinks Om;rw [hb] at hb';simp only [List.cons.injEq] at hb';rw [←hb'.1] at hs';omega
      refine h.book (h6.sub (Us n.BK.SE i)) ?_ ?_ hw
      ·constructor
       ·intro h2;obtain ⟨t,r,hb,_,r',e⟩:=hA Om;obtain ⟨t',r2,hb',hs',_⟩:=h.drinks h2;rw [hb] at hb';simp only [List.cons.injEq] at hb';exact ⟨t,r',e,by rw [hb'.1];exact hs'⟩
       ·rintro ⟨t,r',e,ht⟩;have hK:t∈n.BK.SE:=Ur (i:=i) (by rw [show n.BK.SE.take i++n.BK.SE.drop (i+1)=t::r' from e];simp);by_cases h2:n.DK.TH=2
        ·exact h2
        ·have:=hB h2 t hK;omega
      ·by_cases hz:n.DK.TH=0
       ·exact .inl hz
       ·obtain ⟨t,r,hb,hn,r',e⟩:=hA hz;exact .inr ⟨t,r',e,hn⟩
    ·rename_i e0;exact fun he=>absurd he e0
   ·split
    ·have h9:=h6.tick a.Hold;split
     ·rename_i e0;intro _;refine ⟨?_,rfl,rfl,rfl,rfl,by simp,by simp⟩;unfold Dk at e0 h9 ⊢;cases hb:n.BK.SE with
      | nil=>exact h
      | cons s l=>
        rw [hb] at e0 h9;dsimp only at e0 h9 ⊢;by_cases h1:s.SS=1
        ·rw [if_pos h1] at e0 h9 ⊢;by_cases hh:(FO s).Age<a.Hold
         ·rw [if_pos hh] at h9 ⊢;refine h.book h9 ?_ ?_ fun t ht h0 p hp=>?_
          ·constructor
           ·intro _;exact ⟨FO s,l,rfl,h1⟩
           ·intro _;exact h.th.2 ((F8 n).2 ⟨s,l,hb,h1⟩)
          ·rcases h.hq with q | q
           ·exact .inl q
           ·obtain ⟨t,r,hb',hn⟩:=(Hj n).1 q;rw [hb] at hb';simp only [List.cons.injEq] at hb';exact .inr ⟨FO s,l,rfl,by rw [←hn,←hb'.1];rfl⟩
          ·have ht:t∈FO s::l:=ht;rcases List.mem_cons.1 ht with rfl | ht
           ·have h0:s.SS=0:=h0;omega
           ·exact h.wt t (by rw [hb];exact List.mem_cons_of_mem _ ht) h0 p hp
         ·rw [if_neg hh] at e0;have:=(h6.ok s (by rw [hb];simp)).lo;have e0:s.ID=0:=e0;omega
        ·rw [if_neg h1];exact h
     ·rename_i e0;intro _;refine ⟨?_,rfl,rfl,rfl,rfl,?_,by simp⟩
      ·unfold Dk at e0 h9 ⊢;cases hb:n.BK.SE with
       | nil=>rw [hb] at e0;exact absurd rfl e0
       | cons s l=>
         rw [hb] at e0 h9;dsimp only at e0 h9 ⊢;by_cases h1:s.SS=1
         ·rw [if_pos h1] at e0 h9 ⊢;by_cases hh:(FO s).Age<a.Hold
          ·rw [if_pos hh] at e0;exact absurd rfl e0
          ·rw [if_neg hh] at h9 ⊢;have h8:=h6.tl;rw [hb] at h8;exact h.calm h9 (fun t ht=>h8 t ht) fun t ht h0 p hp=>h.wt t (by rw [hb];exact List.mem_cons_of_mem _ ht) h0 p hp
         ·rw [if_neg h1] at e0;exact absurd rfl e0
      ·intro v hv;simp at hv;subst hv;exact ⟨⟨rfl,fun q=>by have q:(6:Int)≤4:=q;omega,fun _=>rfl,fun _=>rfl⟩,by show (4:Int)≠1;omega⟩
    ·intro _;exact ⟨h,rfl,rfl,rfl,rfl,by simp,by simp⟩
def BN (n:NO):List SX×List Int×List KE×List Int×List KE×List SE:=(n.DK.DI.SD,n.DK.NE,n.KN,n.TL,n.AK,n.BK.SE)
def ZF (a:Do):Bool:=decide (a.KI=0∨a.KI=1∨a.KI=2∨a.KI=3)
theorem nI (n:NO) (a:Do) (hf:FewN n):KK n a=JA n a (BN n) (if Ls n then 0 else 180) (Br (C7 n.DK.DI.SD a.PE)) (BR n.KN a.PE) (ZF a):=by
 have hS:=hf.sides;unfold KK;rw [kN n hf,OB,Ym n hf,OB,cj _ _ (show _≤_ by dsimp only;omega),OB,c9 n hf,OB];unfold ZF BN;by_cases c0:a.KI=0
 ·simp [c0,A0]
 ·by_cases c1:a.KI=1
  ·simp [c1,A0]
  ·by_cases c2:a.KI=2
   ·simp [c2,A0]
   ·by_cases c3:a.KI=3
    ·simp [c3,A0]
    ·simp [c0,c1,c2,c3,A0]
theorem Pa {n:NO} {a:Do} (h:OkN n) (he:(B9 n a).1=0):OkN (B9 n a).2.1∧(B9 n a).2.1.DK.DI.ID=n.DK.DI.ID∧(B9 n a).2.1.TL=n.TL∧(B9 n a).2.1.AK=n.AK∧(∀v∈(B9 n a).2.2,EvOK n.DK.DI.ID v∧v.KI≠1)∧(B9 n a).2.2.length≤1000:=by
 revert he;unfold B9;split
 ·intro he;obtain ⟨h1,h2,h3,h4,h5,h6,h7⟩:=lm h he;exact ⟨h1,by rw [h2],h3,h4,h6,Om⟩
 ·split
  ·split
   ·rename_i hp;cases h8:C7 n.DK.DI.SD a.PE with
    | some j=>intro he;simp at he
    | none=>
      dsimp only;split
      ·rename_i hq;intro _;have h0:=Pp h.kup (fun k hk=>(h.kr k hk).2.2) a.PE;have hw:=h.dr.din.id0;refine ⟨h.put (x:=addS n a.PE) ⟨by show 0≤a.PE;omega,hp.2,by show a.PE≠_;omega⟩ (bG h8) ⟨by show 1≤BR n.KN a.PE+1;omega,by show BR n.KN a.PE+1≤65535;omega⟩ (.inr ⟨rfl,by show n.DK.DI.ID≤a.PE;omega⟩) (fun _=>rfl) (fun k hk=>⟨hk,by have:=h.may k hk;show k.PE≠a.PE;omega⟩) h.dis,rfl,rfl,rfl,by simp,by simp⟩
      ·intro he;simp at he
   ·intro he;simp at he
  ·split
   ·split
    ·cases h8:C7 n.DK.DI.SD a.PE with
     | none=>intro he;simp at he
     | some j=>
       dsimp only;obtain ⟨x,hx,hA⟩:=Lu h8;rw [hx];dsimp only;split
       ·rename_i h0;intro _;have hg:=Me a.PE n.BK.SE;have hb:=((CR _).1 h.bk).len;have h9:(Bp n j x).DK.DI.ID=n.DK.DI.ID:=by unfold Bp;dsimp only;split<;>rfl
        refine ⟨h.shut hx h0,h9,rfl,rfl,fun v hv=>?_,by unfold Ez G0;simp only [List.length_cons,List.length_map];omega⟩;rcases List.mem_cons.1 hv with rfl | hv
        ·exact ⟨⟨rfl,fun _=>rfl,fun q=>by have q:(7:Int)<6:=q;omega,fun _=>rfl⟩,by show (7:Int)≠1;omega⟩
        ·obtain ⟨i,_,rfl⟩:=List.mem_map.1 hv;exact ⟨⟨rfl,fun q=>by have q:(6:Int)≤5:=q;omega,fun _=>rfl,fun _=>rfl⟩,by show (5:Int)≠1;omega⟩
       ·intro he;simp at he
    ·intro he;simp at he
   ·intro he;simp at he
theorem uL (n:NO) (a:Do) (h:OkN n) (ha:a.NE.length≤1000):KK n a=some (E7 (B9 n a).1 (B9 n a).2.1 (B9 n a).2.2):=by
 have hf:=h.few;have hok:=fun he=>Pa (a:=a) h he;have bad:∀e:Int,e≠0→G9 (BN n) (n.DK.DI.ID,n.DK.DI.PH,n.DK.TH,n.BK.LA,n.BK.SE,e,n.DK.DI.SD,n.DK.NE,n.KN,[])=some (E7 e n []):=fun e he=>Uf n [] e (BN n) rfl rfl (fun q=>absurd q he) (by simp);have n2:∀(is:Bool) (c e:Int),E2 is c n.DK.DI.ID n.DK.DI.PH n.DK.TH n.BK.LA e (BN n).1 (BN n).2.1 (BN n).2.2.2.2.2 (BN n).2.2.1 (BN n).2.2.2.1 (BN n).2.2.2.2.1=some (decide (Dm is c e=0),Dm is c e):=fun is c e=>TQ _ _ _ _ _ _ _ _ _ _ _ _ _;have n3:∀c e,Fg c n.DK.DI.ID n.DK.DI.PH n.DK.TH n.BK.LA e (BN n).1 (BN n).2.1 (BN n).2.2.2.2.2 (BN n).2.2.1 (BN n).2.2.2.1 (BN n).2.2.2.2.1=some (decide (Dm false c e=0),Dm false c e):=fun c e=>ce _ _ _ _ _ _ _ _ _ _ _ _;rw [nI n a hf,(Y3 n).2 h,if_pos rfl];dsimp only [JA];unfold ZF;by_cases hk:a.KI=0∨a.KI=1∨a.KI=2∨a.KI=3
 ·have eA:B9 n a=CF n a:=by unfold B9;rw [if_pos hk]
  rw [eA] at hok ⊢;rw [DT hk,Ag,DT rfl,Ag];have hs:=wf n a h ha;have hs:NI a n.DK.DI.ID n.DK.DI.PH n.DK.TH n.BK.LA 0 (BN n).1 (BN n).2.1 (BN n).2.2.2.2.2 (BN n).2.2.1 (BN n).2.2.2.1 (BN n).2.2.2.2.1=_:=hs;rw [hs,OB];by_cases he:(CF n a).1=0
  ·obtain ⟨h1,_,h3,h4,h5,h6⟩:=hok he;obtain ⟨_,_,_,_,q5,_⟩:=lm h he;have:=Uf (CF n a).2.1 (CF n a).2.2 (CF n a).1 (BN n) h3.symm h4.symm (fun _=>h1) Om;rw [q5] at this;exact this
  ·have e:(CF n a).2.1=n∧(CF n a).2.2=[]:=by
    revert he;unfold CF;split
    ·split
     ·split
      ·intro he;exact absurd rfl he
      ·intro _;exact ⟨rfl,rfl⟩
     ·intro _;exact ⟨rfl,rfl⟩
    ·split
     ·split
      ·intro he;exact absurd rfl he
      ·intro _;exact ⟨rfl,rfl⟩
     ·split
      ·split
       ·intro he;exact absurd rfl he
       ·intro _;exact ⟨rfl,rfl⟩
      ·split
       ·split
        ·intro he;exact absurd rfl he
        ·intro he;exact absurd rfl he
       ·intro he;exact absurd rfl he
   have:=bad (CF n a).1 he;rw [e.1,e.2];exact this
 ·rw [DN hk,Aa];unfold B9;rw [if_neg hk];by_cases k4:a.KI=4
  ·rw [DT k4,Ag,if_pos k4];have j3b:∀e:Int,e≠0→KL n a (BN n) (Br (C7 n.DK.DI.SD a.PE)) (BR n.KN a.PE) e=some (E7 e n []):=fun e he=>by dsimp only [KL];rw [n2,OB,Ox _ he,n2,OB,Ox _ he,DN he];exact bad e he
   by_cases c1:n.DK.DI.ID<a.PE
   ·rw [DT c1,Ag,n2,OB];by_cases c2:a.PE<64
    ·rw [DT c2,FG,if_pos ⟨c1,c2⟩];dsimp only [KL];rw [n2,OB];cases h8:C7 n.DK.DI.SD a.PE with
     | some j=>rw [show Br (some j)=(j:Int) from rfl,DN (show ¬(j:Int)<0 by omega),Ev];dsimp only;rw [n2,OB,Ox _ Om];exact bad 183 Om
     | none=>
       rw [show Br none = -1 from rfl,DT (show (-1:Int)<0 by omega),FG];dsimp only;rw [n2,OB];by_cases c3:BR n.KN a.PE<65535
       ·have eA:B9 n a=(0,HM n (addS n a.PE) n.AK,[]):=by unfold B9;rw [if_neg hk,if_pos k4,if_pos ⟨c1,c2⟩,h8];dsimp only;rw [if_pos c3]
        rw [if_pos c3];rw [DT c3,FG,DT rfl,Ag];have h0:=Pp h.kup (fun k hk=>(h.kr k hk).2.2) a.PE;have hw:NH (addS n a.PE) n.DK.DI.ID n.DK.DI.PH n.DK.TH n.BK.LA 0 (BN n).1 (BN n).2.1 (BN n).2.2.2.2.2 (BN n).2.2.1 (BN n).2.2.2.1 (BN n).2.2.2.2.1=some (Cy n.DK.DI.SD (addS n a.PE),D9 n.KN (addS n a.PE).PE (addS n a.PE).EP):=w4 (addS n a.PE) _ _ _ _ _ _ _ _ _ _ _ h.rowS h.rowK (by have:=h.dr.din.id0;show -100000≤a.PE∧a.PE≤100000;omega);rw [show (⟨a.PE,wr (BR n.KN a.PE+1),1,true,true,false,true,false⟩:SX)=addS n a.PE by unfold addS;rw [D4 Om Om],hw,OB];obtain ⟨h1,_,h3,h4,h5,h6⟩:=hok (by rw [eA]);rw [eA] at h1;exact Uf (HM n (addS n a.PE) n.AK) [] 0 (BN n) rfl rfl (fun _=>h1) (by simp)
       ·rw [if_neg c3,DN c3,Ev];dsimp only;rw [DN (show ¬(186:Int)=0 by omega),Aa];exact bad 186 Om
    ·rw [DN c2,Ev,if_neg fun q=>c2 q.2];exact j3b 182 Om
   ·rw [DN c1,Aa,n3,OB,Ev,if_neg fun q=>c1 q.1];exact j3b 182 Om
  ·rw [DN k4,Aa,if_neg k4];by_cases k5:a.KI=5
   ·rw [DT k5,Ag,if_pos k5];have j4b:∀e:Int,e≠0→KM n a (BN n) (Br (C7 n.DK.DI.SD a.PE)) e=some (E7 e n []):=fun e he=>by dsimp only [KM];rw [n2,OB,Ox _ he,DN he];exact bad e he
    by_cases c1:n.DK.DI.ID<a.PE
    ·rw [DT c1,Ag,n2,OB];by_cases c2:a.PE<64
     ·rw [DT c2,FG,if_pos ⟨c1,c2⟩];dsimp only [KM];rw [n2,OB];cases h8:C7 n.DK.DI.SD a.PE with
      | none=>rw [show Br none = -1 from rfl,DN (show ¬(0:Int)≤ -1 by omega),Ev];exact bad 184 Om
      | some j=>
        obtain ⟨x,hx,hA⟩:=Lu h8;rw [show Br (some j)=(j:Int) from rfl,DT (show (0:Int)≤j by omega),FG];dsimp only;rw [DT rfl,Ag,show (BN n).1=n.DK.DI.SD from rfl,Ar hx,OB,hx];dsimp only;have hB:Hx x=some (decide (x.SS=0)):=rfl;rw [hB,OB,TQ,OB];dsimp only [Rp];by_cases h0:x.SS=0
        ·rw [if_pos h0,DT h0,FG,DT rfl,Ag];have h9:=kV n h a.PE j x h8 hx hA 0;have h9:L2 a.PE n.DK.DI.ID n.DK.DI.PH n.DK.TH n.BK.LA 0 (BN n).1 (BN n).2.1 (BN n).2.2.2.2.2 (BN n).2.2.1 (BN n).2.2.2.1 (BN n).2.2.2.2.1=_:=h9;rw [h9,OB];have hg:=Me a.PE n.BK.SE;have hb:=((CR _).1 h.bk).len;exact Uf (Bp n j x) (Ez n a.PE) 0 (BN n) rfl rfl (fun _=>h.shut hx h0) (by unfold Ez G0;simp only [List.length_cons,List.length_map];omega)
        ·rw [if_neg h0,DN h0,Ev,DN (show ¬(185:Int)=0 by omega),Aa];exact bad 185 Om
     ·rw [DN c2,Ev,if_neg fun q=>c2 q.2];exact j4b 182 Om
    ·rw [DN c1,Aa,n3,OB,Ev,if_neg fun q=>c1 q.1];exact j4b 182 Om
   ·rw [DN k5,Aa,if_neg k5,n3,OB,Ev];exact bad 188 Om
theorem OkN.sides {n:NO} (h:OkN n) {S:List SX} (hc:S.map CN=n.DK.DI.SD.map CN) (hd:∀x∈S,x.DY=true→x.FK=true):OkN ⟨⟨⟨n.DK.DI.ID,n.DK.DI.PH,S⟩,n.DK.TH,n.DK.NE⟩,n.BK,n.KN,n.TL,n.AK⟩:=by
 have side:∀ {x:SX},x∈S→∃y∈n.DK.DI.SD,y.PE=x.PE∧y.EP=x.EP∧y.SS=x.SS:=fun hx=>I2 hc hx;have edis:∀ {x:SX},x∈n.DK.DI.SD→∃y∈S,y.PE=x.PE∧y.EP=x.EP∧y.SS=x.SS:=fun hx=>I2 hc.symm hx;have hl:S.length=n.DK.DI.SD.length:=by have:=congrArg List.length hc;rwa [List.length_map,List.length_map] at this
 refine {h with
  dr:=⟨⟨h.dr.din.id0,h.dr.din.p0,h.dr.din.p2,by show S.length<64;rw [hl];exact h.dr.din.len,OQ (oL hc) h.dr.din.up,fun x hx=>?_⟩,h.dr.t0,h.dr.t2,h.dr.up,h.dr.nz,fun p hp=>?_⟩
  may:=fun k hk=>⟨fun x hx=>?_,(h.may k hk).2⟩
  sd:=fun x hx=>?_
  tin:=fun p hp=>?_
  nl:=fun x hx hn=>?_
  wt:=fun s hs h0 p hp=>?_}
 ·obtain ⟨y,hy,e1,e2,e3⟩:=side hx;have:=h.dr.din.side y hy;exact ⟨by rw [←e1];exact this.lo,by rw [←e1];exact this.ne,by rw [←e2];exact this.e0,by rw [←e2];exact this.e1,by rw [←e3];exact this.s0,by rw [←e3];exact this.s3,hd x hx⟩
 ·obtain ⟨x,hx,e⟩:=h.dr.has p hp;obtain ⟨y,hy,e1,_⟩:=edis hx;exact ⟨y,hy,Om⟩
 ·obtain ⟨y,hy,e1,_⟩:=side hx;rw [←e1];exact (h.may k hk).1 y hy
 ·obtain ⟨y,hy,e1,e2,e3⟩:=side hx;have:=h.sd y hy;rw [←e1,←e2,←e3];exact this
 ·obtain ⟨x,hx,e,e'⟩:=h.tin p hp;obtain ⟨y,hy,e1,_,e3⟩:=edis hx;exact ⟨y,hy,Om,Om⟩
 ·obtain ⟨y,hy,e1,_,e3⟩:=side hx;rw [←e3];exact h.nl y hy (by rw [e1];exact hn)
 ·obtain ⟨x,hx,e,e'⟩:=h.wt s hs h0 p hp;obtain ⟨y,hy,e1,_,e3⟩:=edis hx;exact ⟨y,hy,Om,Om⟩
theorem g8 (k:Int) (x:SX):CN (CP k x)=CN x:=by
 unfold CP;split
 ·rfl
 ·split
  ·rfl
  ·split<;>rfl
theorem s7 (k:Int) (x:SX) (h:x.DY=true→x.FK=true):(CP k x).DY=true→(CP k x).FK=true:=by
 unfold CP;split
 ·exact fun _=>rfl
 ·split
  ·exact h
  ·split<;>exact h
theorem lq {S:List SX} {j:Nat} {x y:SX} (h:S[j]?=some x) (hc:CN y=CN x):(S.set j y).map CN=S.map CN:=by
 obtain ⟨e1,e2⟩:=cz h y;rw [e2]
 conv=>rhs;rw [e1]
 simp [hc]
def Jh (n:NO) (j:Nat) (x:SX) (k:Int):NO:=⟨⟨⟨n.DK.DI.ID,n.DK.DI.PH,n.DK.DI.SD.set j (CP k x)⟩,n.DK.TH,n.DK.NE⟩,n.BK,n.KN,n.TL,n.AK⟩
theorem OkN.lay {n:NO} (h:OkN n) {j:Nat} {x:SX} (hx:n.DK.DI.SD[j]?=some x) (k:Int):OkN (Jh n j x k):=by
 refine h.sides (lq hx (g8 k x)) fun z hz=>?_;rcases (K5 h.rowS.up hx _).1 hz with rfl | ⟨hz,_⟩
 ·exact s7 k x (h.dr.din.side x (List.mem_of_getElem? hx)).df
 ·exact (h.dr.din.side z hz).df
def LT (n:NO) (k:KE):NO:=⟨n.DK,n.BK,n.KN,n.TL,n.AK++[k]⟩
theorem OkN.ask {n:NO} (h:OkN n) {k:KE} (hm:Fj n k=true) (hd:EG (n.AK++[k])=true):OkN (LT n k):=
 {h with
  may:=fun q hq=>by
   have hq:q∈n.AK++[k]:=hq;rcases List.mem_append.1 hq with hq | hq
   ·exact h.may q hq
   ·simp at hq;subst hq;exact (aW n _).1 hm
  dis:=by unfold EG at hd;rw [decide_eq_true_eq] at hd;exact hd}
def Ig (n:NO) (j:Nat) (x:SX):NO:=⟨⟨⟨n.DK.DI.ID,n.DK.DI.PH,n.DK.DI.SD.set j {x with SS:=0}⟩,n.DK.TH,n.DK.NE⟩,n.BK,n.KN,(Bm n.TL).filter fun z=>!decide (z∈ [x.PE]),n.AK⟩
theorem OkN.live {n:NO} (h:OkN n) {j:Nat} {x:SX} (hx:n.DK.DI.SD[j]?=some x):OkN (Ig n j x):=by
 have h6:=List.mem_of_getElem? hx;have hm:∀ {z:SX},z∈(Ig n j x).DK.DI.SD↔z={x with SS:=0}∨z∈n.DK.DI.SD∧z.PE≠x.PE:=fun {z}=>K5 (z:=z) h.rowS.up hx {x with SS:=0};refine {h with
  dr:=h.dr.state hx Om
  may:=fun k hk=>⟨fun z hz=>?_,(h.may k hk).2⟩
  sd:=fun z hz=>?_
  told:=(DO n.TL).1.filter _
  tin:=fun p hp=>?_
  nl:=fun z hz hn=>?_
  wt:=fun s hs h0 p hp=>?_}
 ·rcases hm.1 hz with rfl | ⟨hz,_⟩
  ·exact (h.may k hk).1 x h6
  ·exact (h.may k hk).1 z hz
 ·rcases hm.1 hz with rfl | ⟨hz,_⟩
  ·have:=h.sd x h6;exact ⟨this.1,this.2.1,this.2.2.1,fun e=>by have e:(0:Int)=1∨(0:Int)=3:=e;omega⟩
  ·exact h.sd z hz
 ·obtain ⟨h1,h2⟩:=List.mem_filter.1 hp;obtain ⟨z,hz,e1,e⟩:=h.tin p (((DO n.TL).2 p).1 h1);refine ⟨z,hm.2 (.inr ⟨hz,fun q=>?_⟩),e1,e⟩;rw [DT (show p∈ [x.PE] by rw [←e,q];simp)] at h2;simp at h2
 ·rcases hm.1 hz with rfl | ⟨hz,_⟩
  ·show (0:Int)≠3;omega
  ·exact h.nl z hz hn
 ·obtain ⟨z,hz,e0,e⟩:=h.wt s hs h0 p hp;by_cases q:z.PE=x.PE
  ·exact ⟨_,hm.2 (.inl rfl),rfl,by show x.PE=p;omega⟩
  ·exact ⟨z,hm.2 (.inr ⟨hz,q⟩),e0,e⟩
def I3 (n:NO) (p:Int):NO:=⟨⟨⟨n.DK.DI.ID,n.DK.DI.PH,n.DK.DI.SD.filter fun x=>!decide (x.PE=p)⟩,n.DK.TH,n.DK.NE⟩,n.BK,n.KN,n.TL,n.AK⟩
theorem OkN.drop {n:NO} (h:OkN n) {x:SX} (hx:x∈n.DK.DI.SD) (h3:x.SS=3):OkN (I3 n x.PE):=by
 have hm:∀ {z:SX},z∈(I3 n x.PE).DK.DI.SD↔z∈n.DK.DI.SD∧z.PE≠x.PE:=fun {z}=>by show z∈n.DK.DI.SD.filter _↔_;rw [List.mem_filter];simp
 have hne:∀ {z:SX},z∈n.DK.DI.SD→z.SS≠3→z.PE≠x.PE:=fun hz hs q=>by have:=LH h.rowS.up hz hx q;subst this;exact hs h3
 refine {h with
  dr:=⟨⟨h.dr.din.id0,h.dr.din.p0,h.dr.din.p2,Nat.lt_of_le_of_lt (List.length_filter_le _ _) h.dr.din.len,h.dr.din.up.filter _,fun z hz=>h.dr.din.side z (hm.1 hz).1⟩,h.dr.t0,h.dr.t2,h.dr.up,h.dr.nz,fun p hp=>?_⟩
  may:=fun k hk=>⟨fun z hz=>(h.may k hk).1 z (hm.1 hz).1,(h.may k hk).2⟩
  sd:=fun z hz=>h.sd z (hm.1 hz).1
  tin:=fun p hp=>?_
  nl:=fun z hz hn=>h.nl z (hm.1 hz).1 hn
  wt:=fun s hs h0 p hp=>?_}
 ·obtain ⟨z,hz,e⟩:=h.dr.has p hp;exact ⟨z,hm.2 ⟨hz,hne hz (h.nl z hz (by rw [e];exact hp))⟩,e⟩
 ·obtain ⟨z,hz,e1,e⟩:=h.tin p hp;exact ⟨z,hm.2 ⟨hz,hne hz Om⟩,e1,e⟩
 ·obtain ⟨z,hz,e0,e⟩:=h.wt s hs h0 p hp;exact ⟨z,hm.2 ⟨hz,hne hz Om⟩,e0,e⟩
def BQ (n:NO) (p:Int):Option (Nat×SX):=match C7 n.DK.DI.SD p with | none=>none | some j=>(n.DK.DI.SD[j]?).map fun x=>(j,x)
def E0 (o:Option (Nat×SX)) (m:Msg) (s:Int):Bool:=match o with | none=>false | some (_,x)=>decide (x.EP=m.EP)&&decide (x.SS=s)
def jO (o:Option (Nat×SX)):Nat:=match o with | none=>0 | some (j,_)=>j
def xO (o:Option (Nat×SX)):SX:=match o with | none=>wS | some (_,x)=>x
def Hg (o:Option (Nat×SX)) (m:Msg):Bool:=match o with | none=>false | some (_,x)=>decide (x.EP=m.EP)
def Eb (m:Msg):Bool:=decide (m.KI=1∨m.KI=2∨m.KI=3∨m.KI=4)
def Bc (n:NO) (p:Int) (m:Msg):Int×NO×List EV:=
 if m.Num≠0 then (187,n,[])
 else if Eb m=true then
  (if Hg (BQ n p) m=true then (if BF m.KI (xO (BQ n p))=true then (187,n,[]) else (0,Jh n (jO (BQ n p)) (xO (BQ n p)) m.KI,[])) else (0,n,[]))
 else if m.KI=5 then (if Fj n ⟨p,m.EP⟩=true∧EG (n.AK++[⟨p,m.EP⟩])=true then (0,LT n ⟨p,m.EP⟩,[]) else (187,n,[]))
 else if m.KI=6 then (if E0 (BQ n p) m 1=true∧p∈n.TL then (0,Ig n (jO (BQ n p)) (xO (BQ n p)),[⟨6,n.DK.DI.ID,0,p,[]⟩]) else (187,n,[]))
 else if m.KI=7 then (if E0 (BQ n p) m 0=true∧p<n.DK.DI.ID then (0,Bp n (jO (BQ n p)) (xO (BQ n p)),Ez n p) else (187,n,[]))
 else if m.KI=8 then (if E0 (BQ n p) m 3=true then (0,I3 n p,[⟨8,n.DK.DI.ID,0,p,[]⟩]) else (187,n,[]))
 else (187,n,[])
theorem K6 {n:NO} {p:Int} {j:Nat} {x:SX} (h:BQ n p=some (j,x)):C7 n.DK.DI.SD p=some j∧n.DK.DI.SD[j]?=some x∧x.PE=p:=by
 unfold BQ at h;cases hp:C7 n.DK.DI.SD p with
 | none=>rw [hp] at h;simp at h
 | some i=>obtain ⟨y,hy,e⟩:=Lu hp;rw [hp] at h;dsimp only at h;rw [hy] at h;simp only [Option.map_some,Option.some.injEq,Prod.mk.injEq] at h;obtain ⟨rfl,rfl⟩:=h;exact ⟨rfl,hy,e⟩
theorem cB {n:NO} {p:Int} (h:BQ n p=none):C7 n.DK.DI.SD p=none:=by
 unfold BQ at h;cases hp:C7 n.DK.DI.SD p with
 | none=>rfl
 | some i=>obtain ⟨y,hy,e⟩:=Lu hp;rw [hp] at h;dsimp only at h;rw [hy] at h;simp at h
theorem Gx {n:NO} {p s:Int} {m:Msg} (h:E0 (BQ n p) m s=true):∃j x,BQ n p=some (j,x)∧x.EP=m.EP∧x.SS=s∧n.DK.DI.SD[j]?=some x∧x.PE=p∧C7 n.DK.DI.SD p=some j:=by
 cases hs:BQ n p with
 | none=>rw [hs] at h;simp [E0] at h
 | some q=>obtain ⟨j,x⟩:=q;rw [hs] at h;unfold E0 at h;simp only [Bool.and_eq_true,decide_eq_true_eq] at h;obtain ⟨h1,h2,h3⟩:=K6 hs;exact ⟨j,x,rfl,h.1,h.2,h2,h3,h1⟩
theorem Pq {n:NO} {p:Int} {m:Msg} (h:OkN n) (he:(Bc n p m).1=0):OkN (Bc n p m).2.1∧(Bc n p m).2.1.DK.DI.ID=n.DK.DI.ID∧(∀v∈(Bc n p m).2.2,EvOK n.DK.DI.ID v∧v.KI≠1)∧(Bc n p m).2.2.length≤1000:=by
 revert he;unfold Bc;split
 ·intro he;simp at he
 ·split
  ·split
   ·rename_i hs;split
    ·intro he;simp at he
    ·intro _;refine ⟨?_,rfl,by simp,by simp⟩;cases hq:BQ n p with
     | none=>rw [hq] at hs;simp [Hg] at hs
     | some q=>obtain ⟨j,x⟩:=q;exact h.lay (K6 hq).2.1 _
   ·intro _;exact ⟨h,rfl,by simp,by simp⟩
  ·split
   ·split
    ·rename_i hc;intro _;exact ⟨h.ask hc.1 hc.2,rfl,by simp,by simp⟩
    ·intro he;simp at he
   ·split
    ·split
     ·rename_i hc;intro _;obtain ⟨j,x,hq,_,_,hx,_,_⟩:=Gx hc.1;rw [hq];refine ⟨h.live hx,rfl,fun v hv=>?_,by simp⟩;simp at hv;subst hv;exact ⟨⟨rfl,fun _=>rfl,fun q=>by have q:(6:Int)<6:=q;omega,fun _=>rfl⟩,by show (6:Int)≠1;omega⟩
     ·intro he;simp at he
    ·split
     ·split
      ·rename_i hc;intro _;obtain ⟨j,x,hq,_,h0,hx,h6,_⟩:=Gx hc.1;rw [hq];have hg:=Me p n.BK.SE;have hb:=((CR _).1 h.bk).len;have h8:(Bp n j x).DK.DI.ID=n.DK.DI.ID:=by unfold Bp;dsimp only;split<;>rfl
       refine ⟨h.shut hx h0,h8,fun v hv=>?_,by unfold Ez G0;simp only [List.length_cons,List.length_map];omega⟩;rcases List.mem_cons.1 hv with rfl | hv
       ·exact ⟨⟨rfl,fun _=>rfl,fun q=>by have q:(7:Int)<6:=q;omega,fun _=>rfl⟩,by show (7:Int)≠1;omega⟩
       ·obtain ⟨i,_,rfl⟩:=List.mem_map.1 hv;exact ⟨⟨rfl,fun q=>by have q:(6:Int)≤5:=q;omega,fun _=>rfl,fun _=>rfl⟩,by show (5:Int)≠1;omega⟩
      ·intro he;simp at he
     ·split
      ·split
       ·rename_i hc;intro _;obtain ⟨j,x,hq,_,h3,hx,h6,_⟩:=Gx hc;have:=h.drop (List.mem_of_getElem? hx) h3;rw [h6] at this;refine ⟨this,rfl,fun v hv=>?_,by simp⟩;simp at hv;subst hv;exact ⟨⟨rfl,fun _=>rfl,fun q=>by have q:(8:Int)<6:=q;omega,fun _=>rfl⟩,by show (8:Int)≠1;omega⟩
       ·intro he;simp at he
      ·intro he;simp at he
theorem fo (m:NO) (V:List EV) (e:Int) (K:List KE) (E:K=m.KN) (h:e=0→OkN m) (J:V.length≤100000):
  Ed K (m.DK.DI.ID,m.DK.DI.PH,m.DK.TH,m.BK.LA,m.BK.SE,m.TL,e,m.DK.DI.SD,m.DK.NE,m.AK,V)=some (E7 e m V):=by
 subst E;dsimp only [Ed];unfold E7;by_cases he:e=0
 ·subst he;rw [kT m (h rfl) V J,OB,if_pos rfl];rfl
 ·rw [kU _ _ _ _ e _ he,OB,if_neg he];rfl
theorem OW (n:NO) (s:Int) (p:Int) (m:Msg) (x:node_node) (hx:x.NO.DK.DI.SD=n.DK.DI.SD):KR s (Br (C7 n.DK.DI.SD p)) x m=some (E0 (BQ n p) m s):=by
 simp only [KR,Nu,hx];cases hq:BQ n p with
 | none=>rw [cB hq];rfl
 | some q=>obtain ⟨j,y⟩:=q;obtain ⟨h1,h2,h3⟩:=K6 hq;rw [h1,show Br (some j)=(j:Int) from rfl,DT (show (0:Int)≤j by omega),Ag,Ar h2,OB,OB];unfold E0;dsimp only;cases decide (y.EP=m.EP)<;>rfl
theorem qU (n:NO) (p:Int) (m:Msg) (hf:FewN n):KQ n p m=Hw n p m n.DK.DI.SD n.DK.NE n.KN n.TL n.AK n.BK.SE (decide (Dm (decide (m.Num=0)) 187 (if Ls n then 0 else 180)=0),Dm (decide (m.Num=0)) 187 (if Ls n then 0 else 180)) (Br (C7 n.DK.DI.SD p)) (Eb m):=by
 have hS:=hf.sides;unfold KQ;rw [kN n hf,OB,Ym n hf,OB];dsimp only [Wh];rw [TQ,OB,cj _ _ (show _≤_ by dsimp only;omega),OB];unfold Eb;by_cases c1:m.KI=1
 ·simp [c1,A0]
 ·by_cases c2:m.KI=2
  ·simp [c2,A0]
  ·by_cases c3:m.KI=3
   ·simp [c3,A0]
   ·by_cases c4:m.KI=4
    ·simp [c4,A0]
    ·simp [c1,c2,c3,c4,A0]
theorem qT (n:NO) (p:Int) (m:Msg) (hf:FewN n) (e:Int) (he:e≠0) (z:Bool):Hw n p m n.DK.DI.SD n.DK.NE n.KN n.TL n.AK n.BK.SE (decide (e=0),e) (Br (C7 n.DK.DI.SD p)) z=some (XM,[],[],e):=by
 have hA:=hf.asked;have hT:=hf.told;have h6:Ed n.KN (n.DK.DI.ID,n.DK.DI.PH,n.DK.TH,n.BK.LA,n.BK.SE,n.TL,e,n.DK.DI.SD,n.DK.NE,n.AK,[])=some (XM,[],[],e):=by have:=fo n [] e n.KN rfl (fun q=>absurd q he) (by simp);unfold E7 at this;rw [if_neg he] at this;exact this
 have n2:∀(is:Bool) (c:Int),E2 is c n.DK.DI.ID n.DK.DI.PH n.DK.TH n.BK.LA e n.DK.DI.SD n.DK.NE n.BK.SE n.KN n.TL n.AK=some (false,e):=fun is c=>by rw [TQ,Ox is he,DN he]
 have n3:∀c,Fg c n.DK.DI.ID n.DK.DI.PH n.DK.TH n.BK.LA e n.DK.DI.SD n.DK.NE n.BK.SE n.KN n.TL n.AK=some (false,e):=fun c=>by rw [ce,Ox _ he,DN he]
 dsimp only [Hw];cases z with
 | true=>rw [Ag,DN he,Aa];dsimp only [Ip];rw [Aa];exact h6
 | false=>
   rw [Aa];cases decide (m.KI=5) with
   | true=>rw [Ag,ca n hf,OB,HP _ Om,OB,B5 _ _ Om (by simp;omega),OB,c8 _ (by simp;omega),OB,n2,n3,OB];dsimp only [JB];rw [Aa,h6];cases Fj n ⟨p,m.EP⟩<;>rfl
   | false=>
     rw [Aa];cases decide (m.KI=6) with
     | true=>rw [Ag,OW n 1 p m _ rfl,OB,Gi _ _ Om,OB,n2,n3,OB];dsimp only [JC];rw [Aa,h6];cases E0 (BQ n p) m 1<;>rfl
     | false=>
       rw [Aa];cases decide (m.KI=7) with
       | true=>rw [Ag,OW n 0 p m _ rfl,OB,n2,n3,OB];dsimp only [JD];rw [Aa,h6];cases E0 (BQ n p) m 0<;>rfl
       | false=>
         rw [Aa];cases decide (m.KI=8) with
         | true=>rw [Ag,OW n 3 p m _ rfl,OB,n2,OB];exact h6
         | false=>rw [Aa,n3,OB];exact h6
theorem v7 (n:NO) (p:Int) (m:Msg) (h:OkN n):KQ n p m=some (E7 (Bc n p m).1 (Bc n p m).2.1 (Bc n p m).2.2):=by
 have hf:=h.few;have hA:=hf.asked;have hT:=hf.told;have hS:=hf.sides;have hN:=hf.need;rw [qU n p m hf,(Y3 n).2 h,if_pos rfl];have hok:=fun he=>Pq (p:=p) (m:=m) h he;by_cases hn:m.Num=0
 ·have eG:Bc n p m=_:=rfl;have h6:∀(r:NO) (V:List EV) (e:Int),n.KN=r.KN→r.DK.DI.ID=r.DK.DI.ID→(e=0→OkN r)→V.length≤100000→Ed n.KN (r.DK.DI.ID,r.DK.DI.PH,r.DK.TH,r.BK.LA,r.BK.SE,r.TL,e,r.DK.DI.SD,r.DK.NE,r.AK,V)=some (E7 e r V):=fun r V e hK _ h1 hV=>fo r V e n.KN hK h1 hV;have bad:∀e:Int,e≠0→Ed n.KN (n.DK.DI.ID,n.DK.DI.PH,n.DK.TH,n.BK.LA,n.BK.SE,n.TL,e,n.DK.DI.SD,n.DK.NE,n.AK,[])=some (E7 e n []):=fun e he=>h6 n [] e rfl rfl (fun q=>absurd q he) (by simp);have n2:∀(is:Bool) (c:Int),E2 is c n.DK.DI.ID n.DK.DI.PH n.DK.TH n.BK.LA 0 n.DK.DI.SD n.DK.NE n.BK.SE n.KN n.TL n.AK=some (decide (Dm is c 0=0),Dm is c 0):=fun is c=>TQ _ _ _ _ _ _ _ _ _ _ _ _ _;have n3:∀c,Fg c n.DK.DI.ID n.DK.DI.PH n.DK.TH n.BK.LA 0 n.DK.DI.SD n.DK.NE n.BK.SE n.KN n.TL n.AK=some (decide (c=0),c):=fun c=>ce _ _ _ _ _ _ _ _ _ _ _ _;rw [DT hn,FG,DT rfl];unfold Bc at hok ⊢;rw [if_neg fun q=>q hn] at hok ⊢;dsimp only [Hw];cases hk:Eb m with
  | true=>
    rw [Ag,DT rfl,Ag,if_pos rfl];rw [hk,if_pos rfl] at hok;have j4f:Ip n p m n.DK.DI.SD n.DK.NE n.KN n.TL n.AK n.BK.SE (true,0) false=some (E7 0 n []):=by dsimp only [Ip];rw [Aa];exact h6 n [] 0 rfl rfl (fun _=>h) (by simp)
    cases hq:BQ n p with
    | none=>rw [cB hq,show Br none = -1 from rfl,DN (show ¬(0:Int)≤ -1 by omega),Aa,if_neg (by simp [Hg])];exact j4f
    | some q=>
      obtain ⟨j,x⟩:=q;obtain ⟨h1,h2,h3⟩:=K6 hq;rw [h1,show Br (some j)=(j:Int) from rfl,DT (show (0:Int)≤j by omega),Ag,Ar h2,OB];have ex:xO (some (j,x))=x:=rfl;have ej:jO (some (j,x))=j:=rfl;rw [ex,ej];rw [hq,ex,ej] at hok;by_cases h8:x.EP=m.EP
      ·rw [DT h8,if_pos (show Hg (some (j,x)) m=true from DT h8)];rw [if_pos (show Hg (some (j,x)) m=true from DT h8)] at hok;have hC:n.DK.DI.SD.findIdx? (fun x=>decide (x.PE=p)&&decide (x.EP=m.EP))=some j:=by
        obtain ⟨g1,g2,g3⟩:=List.findIdx?_eq_some_iff_getElem.1 h1;obtain ⟨_,hD⟩:=List.getElem?_eq_some_iff.1 h2;rw [List.findIdx?_eq_some_iff_getElem];refine ⟨g1,?_,fun i hi=>?_⟩
        ·rw [hD,DT h3,DT h8];rfl
        ·have:=g3 i hi;simp only [decide_eq_true_eq] at this;rw [DN this];simp
       have hE:1≤m.KI∧m.KI≤4:=by unfold Eb at hk;rw [decide_eq_true_eq] at hk;omega
       have hg:=vA n.DK p m ((Tz _).2 h.dr) Om hC h2 hn hE;dsimp only [Ip,WC];rw [Ag,hg,OB];dsimp only [WD,Si];by_cases hl:BF m.KI x=true
       ·simp only [if_pos hl];rw [n2,OB];exact bad 187 Om
       ·rw [if_neg hl] at hok;simp only [if_neg hl];rw [n2,OB];exact h6 (Jh n j x m.KI) [] 0 rfl rfl (fun _=>(hok rfl).1) (by simp)
      ·rw [DN h8,if_neg (show ¬Hg (some (j,x)) m=true from fun q=>h8 (of_decide_eq_true q))];exact j4f
  | false=>
    rw [Aa,if_neg (by simp)];rw [hk,if_neg (by simp)] at hok;by_cases k5:m.KI=5
    ·rw [DT k5,Ag,if_pos k5,ca n hf,OB];rw [if_pos k5] at hok;have j5f:JB n p m n.DK.DI.SD n.DK.NE n.KN n.TL n.AK n.BK.SE (false,187)=some (E7 187 n []):=by dsimp only [JB];rw [Aa];exact bad 187 Om
     cases hm:Fj n ⟨p,m.EP⟩ with
     | false=>rw [Aa,n3,OB,if_neg (by simp),DN (show ¬(187:Int)=0 by omega)];exact j5f
     | true=>
       rw [Ag,HP _ Om,OB,B5 _ _ Om (by simp;omega),OB,c8 _ (by simp;omega),OB,n2,OB];cases hd:EG (n.AK++[⟨p,m.EP⟩]) with
       | false=>rw [Ev,DN (show ¬(187:Int)=0 by omega),if_neg (by simp)];exact j5f
       | true=>rw [FG,DT rfl,if_pos ⟨rfl,rfl⟩];dsimp only [JB];rw [Ag,B5 _ _ Om (by simp;omega),OB];exact h6 (LT n ⟨p,m.EP⟩) [] 0 rfl rfl (fun _=>h.ask hm hd) (by simp)
    ·rw [DN k5,Aa,if_neg k5];rw [if_neg k5] at hok;by_cases k6:m.KI=6
     ·rw [DT k6,Ag,if_pos k6,OW n 1 p m _ rfl,OB];have j6f:JC n p n.DK.DI.SD n.DK.NE n.KN n.TL n.AK n.BK.SE (Br (C7 n.DK.DI.SD p)) (false,187)=some (E7 187 n []):=by dsimp only [JC];rw [Aa];exact bad 187 Om
      cases hi:E0 (BQ n p) m 1 with
      | false=>rw [Aa,n3,OB,if_neg (by simp),DN (show ¬(187:Int)=0 by omega)];exact j6f
      | true=>
        rw [Ag,Gi _ _ Om,OB,n2,OB];by_cases ht:p∈n.TL
        ·obtain ⟨j,x,hq,_,_,hx,hw,hB⟩:=Gx hi;rw [DT ht,FG,DT rfl,if_pos ⟨rfl,ht⟩,hq,hB];dsimp only [JC,xO,jO];rw [Ag,show Br (some j)=(j:Int) from rfl,Ar hx,OB,kd _ _ Om,OB,Int.toNat_natCast];have h9:∀(S:List SX) (T:List Int) (e:Int),RU 6 p n.DK.DI.ID n.DK.DI.PH n.DK.TH n.BK.LA T e S n.DK.NE n.BK.SE n.KN n.AK=some [⟨6,n.DK.DI.ID,0,p,[]⟩]:=fun S T e=>by simp only [RU];rw [B5 _ _ Om (by simp),OB];rfl
         rw [h9,OB];have:=h6 (Ig n j x) [⟨6,n.DK.DI.ID,0,p,[]⟩] 0 rfl rfl (fun _=>h.live hx) (by simp);subst hw;exact this
        ·rw [DN ht,Ev,DN (show ¬(187:Int)=0 by omega),if_neg fun q=>ht q.2];exact j6f
     ·rw [DN k6,Aa,if_neg k6];rw [if_neg k6] at hok;by_cases k7:m.KI=7
      ·rw [DT k7,Ag,if_pos k7,OW n 0 p m _ rfl,OB];have j7f:JD n p n.DK.DI.SD n.DK.NE n.KN n.TL n.AK n.BK.SE (false,187)=some (E7 187 n []):=by dsimp only [JD];rw [Aa];exact bad 187 Om
       cases hi:E0 (BQ n p) m 0 with
       | false=>rw [Aa,n3,OB,if_neg (by simp),DN (show ¬(187:Int)=0 by omega)];exact j7f
       | true=>
         rw [Ag,n2,OB];by_cases hp:p<n.DK.DI.ID
         ·obtain ⟨j,x,hq,_,h0,hx,hw,hB⟩:=Gx hi;have hg:=Me p n.BK.SE;have hb:=((CR _).1 h.bk).len;rw [DT hp,FG,DT rfl,if_pos ⟨rfl,hp⟩,hq];dsimp only [JD,xO,jO];rw [Ag,kV n h p j x hB hx hw 0,OB];exact h6 (Bp n j x) (Ez n p) 0 rfl rfl (fun _=>h.shut hx h0) (by unfold Ez G0;simp only [List.length_cons,List.length_map];omega)
         ·rw [DN hp,Ev,DN (show ¬(187:Int)=0 by omega),if_neg fun q=>hp q.2];exact j7f
      ·rw [DN k7,Aa,if_neg k7];rw [if_neg k7] at hok;by_cases k8:m.KI=8
       ·rw [DT k8,Ag,if_pos k8,OW n 3 p m _ rfl,OB,n2,OB];cases hi:E0 (BQ n p) m 3 with
        | false=>rw [Ev];dsimp only;rw [DN (show ¬(187:Int)=0 by omega),Aa,if_neg (by simp)];exact bad 187 Om
        | true=>
          obtain ⟨j,x,hq,_,h3,hx,hw,hB⟩:=Gx hi;rw [FG];dsimp only;rw [DT rfl,Ag,if_pos rfl];have hG:RS p n.DK.DI.ID n.DK.DI.PH n.DK.TH n.BK.LA 0 n.DK.DI.SD n.DK.NE n.BK.SE n.KN n.TL n.AK=some (n.DK.DI.SD.filter fun x=>!decide (x.PE=p)):=by simp only [RS,ke n.DK.DI.SD (fun z=>KW z p) (fun x=>decide (x.PE=p)) Om (fun _ _=>rfl),OB]
          have h9:∀(S:List SX),JK 8 p n.DK.DI.ID n.DK.DI.PH n.DK.TH n.BK.LA 0 S n.DK.NE n.BK.SE n.KN n.TL n.AK=some [⟨8,n.DK.DI.ID,0,p,[]⟩]:=fun S=>by simp only [JK];rw [B5 _ _ Om (by simp),OB];rfl
          rw [hG,OB,h9,OB];have:=h.drop (List.mem_of_getElem? hx) h3;rw [hw] at this;exact h6 (I3 n p) [⟨8,n.DK.DI.ID,0,p,[]⟩] 0 rfl rfl (fun _=>this) (by simp)
       ·rw [DN k8,Aa,if_neg k8,n3,OB];exact bad 187 Om
 ·rw [DN hn,Ev];have:=qT n p m hf 187 Om (Eb m);rw [this];unfold Bc;rw [if_pos hn];rfl
end NX
end Go.Proofs.YtgnjledocpbchaaGreat
