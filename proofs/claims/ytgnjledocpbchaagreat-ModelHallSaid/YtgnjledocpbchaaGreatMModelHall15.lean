/-
  Plain laws, gathered by a program of ours. No statement of the seat is proved here.
-/
import Derived.Test.YtgnjledocpbchaaGreatRows
import Derived.Test.YtgnjledocpbchaaGreatMModelHall14
set_option maxRecDepth 100000
set_option maxHeartbeats 40000000
namespace Go.Proofs.YtgnjledocpbchaaGreat
namespace NX
open Go
def F7 (m:Model):Prop:=m.Places.length≤1000000∧∀p∈m.Places,p.Live.length≤800000∧DF p.BK
theorem dL {α:Type} {l:List α} {i:Int} (h:Ac l i=none):¬(0≤i∧i<l.length):=fun ⟨h0,h1⟩=>by obtain ⟨x,hx,_⟩:=Z7 h0 h1;rw [h] at hx;simp at hx
theorem Z6 {α:Type} {l:List α} {i:Int} {x:α} (h:Ac l i=some x):0≤i∧i<l.length∧l[i.toNat]?=some x:=by obtain ⟨h0,h1⟩:=DD h;have:=(List.getElem?_eq_some_iff.1 h1).1;exact ⟨h0,Om,h1⟩
theorem IT {α:Type} {l:List α} {i:Int} {x:α} (h:Ac l i=some x):x∈l:=List.mem_iff_getElem?.2 ⟨_,(Z6 h).2.2⟩
theorem TP (m:Model) (a:Int):Hu m a=some (Ac m.Places a).isSome:=by
 simp only [Hu,QT,AX];cases h:Ac m.Places a with
 | none=>
   have:=dL h;by_cases h0:0≤a
   ·rw [DT h0,Ag,DN Om];rfl
   ·rw [DN h0];rfl
 | some x=>obtain ⟨h0,h1,_⟩:=Z6 h;rw [DT h0,Ag,DT h1];rfl
def Cz (P:List Place) (a b:Int):Bool:=match Ac P a with
 | some p=>p.BK.SE.any fun s=>decide (s.SS=1)&&decide (b∈s.NE)
 | none=>false
theorem Yp (m:Model) (hm:F7 m) (a b:Int):Il m a b=some (Cz m.Places a b):=by
 simp only [Il,QW,TP,OB,Cz];cases h:Ac m.Places a with
 | none=>rfl
 | some p=>have hp:=hm.2 p (IT h);simp only [Option.isSome_some,Ag,OB];rw [kc p.BK.SE _ (fun s=>decide (s.SS=1)&&decide (b∈s.NE)) (by have:=hp.2.1;omega) (fun s hs=>by simp only [QU,QV,Gi s.NE b (hp.2.2 s hs),OB];cases decide (s.SS=1)<;>rfl),OB]
theorem kL (m:Model) (hm:F7 m) (a b:Int) {p:Place} (h:Ac m.Places a=some p):Nc m a b=some (decide (b∈p.Live)):=by simp only [Nc,h,OB,Gi p.Live b (by have:=(hm.2 p (IT h)).1;omega)]
def F6 (live:List Int) (s:SE):Bool:=decide (s.SS=0)&&!s.NE.all fun z=>decide (z∈live)
def DE (p:Place):List Int:=(p.BK.SE.filter (F6 p.Live)).map (·.ID)
theorem Zl (q:List SE) (live:List Int):((q.filter (F6 live)).map (·.ID)).length≤q.length:=by rw [List.length_map];exact List.length_filter_le _ _
theorem bX (m:Model) (hm:F7 m) (a:Int):GJ m a=some (match Ac m.Places a with | some p=>DE p | none=>[]):=by
 simp only [GJ,TP,OB];cases h:Ac m.Places a with
 | none=>rfl
 | some p=>
   have hp:=hm.2 p (IT h);have h8:=hp.2.1;simp only [Option.isSome_some,Bool.not_true,Aa,OB];refine D0 p.BK.SE _ (fun pre=>((pre.length:Int),(pre.filter (F6 p.Live)).map (·.ID))) (DE p) (fun pre x post hx'=>?_) ?_
   ·have hx:=BL hx';have hl:=BG hx';have hd:=Zl pre p.Live;dsimp only [VE];rw [AQ hx,Ag,Ar hx,OB,h,OB,OV x.NE p.Live (hp.2.2 x (Di hx')) Om,OB,AW,List.filter_append,List.map_append];simp only [QJ,QK,AC (show pre.length≤4000000000000000000 by omega)];rw [B5 _ _ Om (by simp only [List.length_singleton];omega),OB];have e:([x].filter (F6 p.Live)).map (·.ID)=if F6 p.Live x then [x.ID] else []:=by cases h2:F6 p.Live x<;>simp [h2]
    rw [e];unfold F6;by_cases h1:x.SS=0
    ·cases h2:x.NE.all fun z=>decide (z∈p.Live)<;>simp [h1]
    ·simp [h1]
   ·dsimp only [VE];rw [AT,Aa];rfl
theorem uY (m:Model) (hm:F7 m) (a:Int):QG a m.Places=some (match Ac m.Places a with | some p=>DE p | none=>[]):=by
 simp only [QG,TP,OB];cases h:Ac m.Places a with
 | none=>rfl
 | some p=>
   have hp:=hm.2 p (IT h);have h8:=hp.2.1;simp only [Option.isSome_some,Bool.not_true,Aa,OB];refine D0 p.BK.SE _ (fun pre=>((pre.length:Int),(pre.filter (F6 p.Live)).map (·.ID))) (DE p) (fun pre x post hx'=>?_) ?_
   ·have hx:=BL hx';have hl:=BG hx';have hd:=Zl pre p.Live;dsimp only [VD];rw [AQ hx,Ag,Ar hx,OB,OV x.NE p.Live (hp.2.2 x (Di hx')) Om,OB,AW,List.filter_append,List.map_append];simp only [QH,QI,AC (show pre.length≤4000000000000000000 by omega)];rw [B5 _ _ Om (by simp only [List.length_singleton];omega),OB];have e:([x].filter (F6 p.Live)).map (·.ID)=if F6 p.Live x then [x.ID] else []:=by cases h2:F6 p.Live x<;>simp [h2]
    rw [e];unfold F6;by_cases h1:x.SS=0
    ·cases h2:x.NE.all fun z=>decide (z∈p.Live)<;>simp [h1]
    ·simp [h1]
   ·dsimp only [VD];rw [AT,Aa];rfl
def En (n:Nat) (i:Nat) (p:Place):Bool:=Cw p.BK&&(decide (p.Live.Pairwise (· < ·))&&p.Live.all fun q=>decide (0≤q)&&(decide (q<(n:Int))&&!decide (q=(i:Int))))
def II (n:Nat):Nat→List Place→Bool
 | _,[]=>true
 | i,p::l=>En n i p&&II n (i+1) l
theorem jh (n:Nat):∀(l:List Place) (i:Nat),II n i l=true↔∀k p,l[k]?=some p→En n (i+k) p=true
 | [],_=>by simp [II]
 | p::l,i=>by
   simp only [II,Bool.and_eq_true,jh n l (i+1)];constructor
   ·rintro ⟨h1,h2⟩ k q hk;cases k with
    | zero=>simp at hk;subst hk;exact h1
    | succ k=>have:=h2 k q (by simpa using hk);rw [show i+(k+1)=i+1+k by omega];exact this
   ·intro h;refine ⟨h 0 p (by simp),fun k q hk=>?_⟩;have:=h (k+1) q (by simpa using hk);rw [show i+1+k=i+(k+1) by omega];exact this
def okM (m:Model):Bool:=decide (m.Places.length≤64)&&II m.Places.length 0 m.Places
theorem jg (m:Model):okM m=true↔m.Places.length≤64∧∀k p,m.Places[k]?=some p→En m.Places.length k p=true:=by simp only [okM,Bool.and_eq_true,decide_eq_true_eq,jh,Nat.zero_add]
theorem kJ (m:Model) (hm:F7 m):N5 m=some (if okM m then 0 else 200):=by
 have h1:=hm.1;simp only [N5,AX];by_cases h6:m.Places.length≤64
 ·rw [DN Om,Aa,show okM m=II m.Places.length 0 m.Places by unfold okM;rw [DT h6,Bool.true_and]];refine Jj m.Places _ (fun pre=>(pre.length:Int)) (fun pre post=>some (if II m.Places.length pre.length post then 0 else 200)) (fun pre x post h=>?_) ?_
  ·have hx:=BL h;have hl:=BG h;have hp:=hm.2 x (Di h);have e2:∀z,KD (pre.length:Int) z=if z then some (.inr 200) else some (.inl ((pre.length+1:Nat):Int)):=fun z=>by simp only [KD,AC (show pre.length≤4000000000000000000 by omega)];cases z<;>rfl
   have e3:x.Live.any (fun q=>!((decide (0≤q)&&(decide (q<(m.Places.length:Int))&&!decide (q=(pre.length:Int))))))=!x.Live.all (fun q=>decide (0≤q)&&(decide (q<(m.Places.length:Int))&&!decide (q=(pre.length:Int)))):=Kf _ _ _ fun _=>rfl;have hb:QF m (pre.length:Int)=if En m.Places.length pre.length x then some (.inl ((pre.length+1:Nat):Int)) else some (.inr 200):=by
    dsimp only [QF];rw [AQ hx,Ag,Ar hx,OB,LB x.BK hp.2,OB,ky x.Live Om,OB,
     K1 x.Live _ (fun q=>!((decide (0≤q)&&(decide (q<(m.Places.length:Int))&&!decide (q=(pre.length:Int)))))) Om (fun q _=>by
       simp only [QD,QE,TP,OB];cases hq:Ac m.Places q with
       | none=>
         have:=dL hq;by_cases h0:0≤q
         ·have:¬q<m.Places.length:=by omega
          simp [this]
         ·simp [h0]
       | some y=>obtain ⟨q0,q1,_⟩:=Z6 hq;simp [q0,q1]),OB,e3]
    have e5:En m.Places.length pre.length x=(Cw x.BK&&(decide (x.Live.Pairwise (· < ·))&&x.Live.all fun q=>decide (0≤q)&&(decide (q<(m.Places.length:Int))&&!decide (q=(pre.length:Int))))):=rfl;rw [e5];simp only [e2];cases hk:Cw x.BK
    ·simp
    ·by_cases h2:x.Live.Pairwise (· < ·)
     ·cases h3:x.Live.all (fun q=>decide (0≤q)&&(decide (q<(m.Places.length:Int))&&!decide (q=(pre.length:Int))))<;>simp [h2]
     ·simp [h2]
   rw [hb,AW];show (_∧some (if (En m.Places.length pre.length x&&II m.Places.length (pre.length+1) post) then (0:Int) else 200)=_)∨∃r,_∧some (if (En m.Places.length pre.length x&&II m.Places.length (pre.length+1) post) then (0:Int) else 200)=some r;cases En m.Places.length pre.length x
   ·right;exact ⟨200,rfl,rfl⟩
   ·left;exact ⟨rfl,by rw [Bool.true_and]⟩
  ·dsimp only [QF];rw [AT,Aa];rfl
 ·rw [DT Om,show okM m=false by unfold okM;rw [DN h6,Bool.false_and]];rfl
theorem vT (m:Model) (hm:F7 m):QQ m=some m.Places:=by
 have h1:=hm.1;have hc:Le m.Places=some m.Places:=by simp only [Le];rw [B5 _ _ Om (by simp;omega),List.nil_append]
 simp only [QQ,hc,OB];refine D0 m.Places _ (fun pre=>((pre.length:Int),m.Places)) m.Places (fun pre x post h=>?_) ?_
 ·have hx:=BL h;have hl:=BG h;have hp:=hm.2 x (Di h);have h8:=hp.2.1;dsimp only [VK];rw [AQ hx,Ag,Ar hx,OB,Ex x.Live Om,OB,OU x.BK.SE hp.2.1,OB,Int.toNat_natCast,HS hx];dsimp only [VH];rw [Ar hx,OB];refine D0 x.BK.SE _ (fun q=>((q.length:Int),x.BK.SE)) _ (fun q y r hq=>?_) ?_
  ·have hy:=BL hq;have h6:=BG hq;dsimp only [VM];rw [AQ hy,Ag,Ar hy,OB,Ex y.NE (hp.2.2 y (Di hq)),OB];dsimp only [VJ];rw [Int.toNat_natCast,HS hy,AC Om,AW]
  ·dsimp only [VM];rw [AT,Aa];dsimp only [VI];rw [Int.toNat_natCast,HS hx,AC Om,AW];rfl
 ·dsimp only [VK];rw [AT,Aa];rfl
def Z4 (P:List Place):Bool:=(List.range P.length).all fun a=>(List.range a).all fun b=>!(Cz P a b&&Cz P b a)
theorem uM (m:Model) (hm:F7 m):QA m=some (Z4 m.Places):=by
 have h1:=hm.1;simp only [QA];have inner:∀k,k<m.Places.length→loop (N4 m (k:Int)) 0=if (List.range k).all (fun b=>!(Cz m.Places k b&&Cz m.Places b k)) then some (.inl ((k+1:Nat):Int)) else some (.inr false):=by
  intro k hk;have Ap:=ZU k (N4 m (k:Int)) (fun j=>(j:Int)) (fun j=>if ((List.range k).drop j).all (fun b=>!(Cz m.Places k b&&Cz m.Places b k)) then some (.inl ((k+1:Nat):Int)) else some (.inr false)) (fun j hj=>?_) ?_
  ·simpa using Ap
  ·have e:(List.range k).drop j=j::(List.range k).drop (j+1):=by have:=List.drop_eq_getElem_cons (l:=List.range k) (i:=j) (by simpa using hj);simpa using this
   dsimp only [N4];rw [DT Om,Ag,Yp m hm,Yp m hm,OB,OB,e,List.all_cons];simp only [QB,AC (show j≤4000000000000000000 by omega)];cases Cz m.Places k j<;>cases Cz m.Places j k<;>simp
  ·dsimp only [N4];rw [DN Om,Aa,List.drop_of_length_le (by simp)];dsimp only [VA];rw [AC Om];rfl
 have Ap:=ZU m.Places.length (QC m) (fun k=>(k:Int)) (fun k=>some (((List.range m.Places.length).drop k).all fun a=>(List.range a).all fun b=>!(Cz m.Places a b&&Cz m.Places b a))) (fun k hk=>?_) ?_
 ·simpa [Z4] using Ap
 ·have e:(List.range m.Places.length).drop k=k::(List.range m.Places.length).drop (k+1):=by have:=List.drop_eq_getElem_cons (l:=List.range m.Places.length) (i:=k) (by simpa using hk);simpa using this
  have hx:∃x,m.Places[k]?=some x:=⟨_,List.getElem?_eq_getElem hk⟩
  obtain ⟨x,hx⟩:=hx;dsimp only [QC];rw [AQ hx,Ag,inner k hk,e,List.all_cons];cases (List.range k).all (fun b=>!(Cz m.Places k b&&Cz m.Places b k))<;>simp
 ·dsimp only [QC];rw [AT,Aa,List.drop_of_length_le (by simp)];rfl
def IG (g:Graph):Model:=⟨(List.range g.N.toNat).map fun a=>⟨C9,Be g (a:Nat)⟩⟩
theorem kK (g:Graph):Jt g=some (if Bd g then (IG g,0) else (⟨[]⟩,30)):=by
 simp only [Jt,Ly,OB];cases hg:Bd g with
 | false=>rfl
 | true=>
   obtain ⟨h0,h6,_⟩:=Dc hg;simp only [if_true,decide_true,Bool.not_true,Aa];refine Kq g.N.toNat _ (fun k=>((k:Int),(List.range k).map fun a=>(⟨C9,Be g (a:Nat)⟩:Place))) (IG g,0) (fun k hk=>?_) ?_
   ·dsimp only [VF];rw [DT Om,Ag,bY,hg,OB];simp only [if_true];rw [B5 _ _ Om (by simp;omega),OB,AC Om,List.range_succ,List.map_append];rfl
   ·dsimp only [VF];rw [DN Om,Aa];rfl
def Em (e:EV):Bool:=decide (e.KI=6)||(decide (e.KI=7)||decide (e.KI=8))
def EF (P:List Place) (e:EV):Bool:=match Ac P e.PE with | some q=>decide (e.NO∈q.Live) | none=>false
def Gt (P:List Place) (p:Place) (e:EV):List Int×Int:=
 if e.KI=6 then (if !decide (e.PE∈p.Live)&&(EF P e==decide (e.NO<e.PE)) then (Bm (p.Live++[e.PE]),0) else ([],206))
 else if e.KI=7 then (if decide (e.PE∈p.Live)&&(decide (e.NO<e.PE)||!EF P e) then ((Bm p.Live).filter (fun z=>!decide (z∈ [e.PE])),0) else ([],206))
 else if e.KI=8 then (if decide (e.NO<e.PE)&&(!decide (e.PE∈p.Live)&&(!EF P e&&(!Cz P e.NO e.PE&&!Cz P e.PE e.NO))) then (p.Live,0) else ([],206))
 else ([],206)
theorem vC (m:Model) (hm:F7 m) (e:EV) {p q:Place} (hp:Ac m.Places e.NO=some p) (hq:Ac m.Places e.PE=some q):QM e m.Places=some (Gt m.Places p e):=by
 have hl:=(hm.2 p (IT hp)).1;have hb:EF m.Places e=decide (e.NO∈q.Live):=by unfold EF;rw [hq]
 simp only [QM,hp,OB,kL m hm e.NO e.PE hp,kL m hm e.PE e.NO hq,←hb];have e2:∀(l:List Int) z,G8 (l,z)=some (if z then (l,0) else ([],206)):=fun l z=>by simp only [G8];cases z<;>rfl
 simp only [VG,QN,Na,k9 p.Live e.PE Om,kd p.Live e.PE Om,Yp m hm,OB,e2,Gt];by_cases h6:e.KI=6
 ·simp only [h6,decide_true,Ag,if_true];cases decide (e.PE∈p.Live)<;>cases (EF m.Places e==decide (e.NO<e.PE))<;>simp
 ·by_cases h7:e.KI=7
  ·simp only [h7,decide_true,Ag,if_true];cases decide (e.PE∈p.Live)<;>cases EF m.Places e<;>cases decide (e.NO<e.PE)<;>simp
  ·by_cases h8:e.KI=8
   ·simp only [h8,decide_true,Ag,if_true];cases decide (e.PE∈p.Live)<;>cases EF m.Places e<;>cases decide (e.NO<e.PE)<;>cases Cz m.Places e.NO e.PE<;>cases Cz m.Places e.PE e.NO<;>simp
   ·simp [h6,h7,h8]
def UI (P:List Place) (p:Place) (e:EV):BK×Int:=
 if (EJ p.BK).2.2=0 then (if (EJ p.BK).2.1=e.ID then (match (EJ p.BK).1.SE with
  | s::_=>if s.NE.any (fun q=>Cz P q e.NO) then (C9,203) else ((EJ p.BK).1,0)
  | []=>(C9,203)) else (C9,203)) else (C9,203)
theorem rG {b:BK} (h:(EJ b).2.2=0):Cw b=true∧∃s l,b.SE=s::l∧s.SS≠1∧EJ b=(⟨b.LA,⟨s.ID,s.NE,1,s.Age⟩::l⟩,s.ID,0):=by
 unfold EJ at h ⊢;cases hk:Cw b
 ·rw [hk] at h;simp at h
 ·rw [hk] at h;simp only [if_true] at h ⊢;refine ⟨trivial,?_⟩;cases hs:b.SE with
  | nil=>rw [hs] at h;simp at h
  | cons s l=>
    rw [hs] at h;simp only at h ⊢;by_cases h1:s.SS=1
    ·rw [if_pos h1] at h;simp at h
    ·exact ⟨s,l,rfl,h1,by rw [if_neg h1]⟩
theorem vK (m:Model) (hm:F7 m) (e:EV) {p:Place} (hp:Ac m.Places e.NO=some p):QP e m.Places=some (UI m.Places p e):=by
 have hl:=hm.2 p (IT hp);simp only [QP,hp,OB,kl p.BK hl.2,Nb,UI];by_cases h1:(EJ p.BK).2.2=0
 ·by_cases h2:(EJ p.BK).2.1=e.ID
  ·obtain ⟨_,s,l,hs,_,hg⟩:=rG h1;have hsm:s∈p.BK.SE:=by rw [hs];simp
   simp only [h1,h2,decide_true,Bool.not_true,Aa,if_true];rw [hg];dsimp only;rw [show Ac ((⟨s.ID,s.NE,1,s.Age⟩:SE)::l) 0=some ⟨s.ID,s.NE,1,s.Age⟩ from rfl,OB];dsimp only;rw [K1 s.NE _ (fun q=>Cz m.Places q e.NO) (by have:=hl.2.2 s hsm;omega) (fun q _=>by simp only [QO,Yp m hm,OB]),OB];cases s.NE.any (fun q=>Cz m.Places q e.NO)<;>rfl
  ·simp [h1,h2,C9]
 ·simp [h1,C9]
def M6 (r:BK×Int):BK×Int:=if r.2=0 then (r.1,0) else (C9,204)
def Fv (P:List Place) (p:Place) (e:EV):BK×Int:=
 if e.KI=0 then (if (DA p.BK e.ID e.NE).2=0 then (if e.NE.all (fun z=>decide (z∈p.Live)) then DA p.BK e.ID e.NE else (C9,202)) else DA p.BK e.ID e.NE)
 else if e.KI=1 then UI P p e
 else if e.KI=2 then M6 (C6 p.BK e.ID 1)
 else if e.KI=4 then M6 (C6 p.BK e.ID 1)
 else if e.KI=5 then (if e.ID∈DE p then M6 (C6 p.BK e.ID 0) else (C9,205))
 else if e.KI=3 then M6 (C6 p.BK e.ID 0)
 else (p.BK,0)
theorem wd (m:Model) (hm:F7 m) (e:EV) (he:e.NE.length≤1000000) {p:Place} (hp:Ac m.Places e.NO=some p):QR e m.Places=some (Fv m.Places p e):=by
 have hl:=hm.2 p (IT hp);have hd:(DE p).length≤1000000:=Nat.le_trans (Zl _ _) hl.2.1;have e1:∀r:BK×Int,KG (r.2,r.1)=some (M6 r):=fun r=>by simp only [KG,M6];by_cases h:r.2=0<;>simp [h,C9]
 simp only [QR,hp,uY m hm,OB,Fv];by_cases h0:e.KI=0
 ·simp only [h0,decide_true,Ag,if_true,VQ,ku p.BK e.ID e.NE hl.2 he,OB,OV e.NE p.Live he Om,QS];generalize DA p.BK e.ID e.NE=r;obtain ⟨r1,r2⟩:=r;by_cases h1:r2=0
  ·cases h2:e.NE.all fun z=>decide (z∈p.Live)<;>simp [h1,C9]
  ·simp [h1]
 rw [DN h0,Aa,if_neg h0];by_cases h1:e.KI=1
 ·simp only [h1,decide_true,Ag,if_true,VP,vK m hm e hp,OB]
 rw [DN h1,Aa,if_neg h1];by_cases h2:e.KI=2
 ·simp only [h2,decide_true,Ag,if_true,Nf,bZ p.BK e.ID hl.2,OB,e1]
 rw [DN h2,Aa,if_neg h2];by_cases h4:e.KI=4
 ·simp only [h4,decide_true,Ag,if_true,Nf,bZ p.BK e.ID hl.2,OB,e1]
 rw [DN h4,Aa,if_neg h4];by_cases h5:e.KI=5
 ·simp only [h5,decide_true,Ag,if_true,VO,Nd,Gi (DE p) e.ID hd,bU p.BK e.ID hl.2,OB,e1];by_cases h6:e.ID∈DE p<;>simp [h6,C9]
 rw [DN h5,Aa,if_neg h5];by_cases h3:e.KI=3
 ·simp only [h3,decide_true,Ag,if_true,Nd,bU p.BK e.ID hl.2,OB,e1]
 rw [DN h3,Aa,if_neg h3];rfl
def IY (m:Model) (p:Place) (e:EV):Model×Int:=
 if Em e then (if (Gt m.Places p e).2=0 then (⟨m.Places.set e.NO.toNat ⟨p.BK,(Gt m.Places p e).1⟩⟩,0) else (⟨[]⟩,(Gt m.Places p e).2))
 else (if (Fv m.Places p e).2=0 then (⟨m.Places.set e.NO.toNat ⟨(Fv m.Places p e).1,p.Live⟩⟩,0) else (⟨[]⟩,(Fv m.Places p e).2))
def Fx (m:Model) (e:EV):Model×Int:=
 if okM m then
  match Ac m.Places e.NO with
  | none=>(⟨[]⟩,201)
  | some p=>
    if Em e&&(!(Ac m.Places e.PE).isSome||decide (e.PE=e.NO)) then (⟨[]⟩,201)
    else if !decide (e.KI=5)&&decide (DE p≠ []) then (⟨[]⟩,205)
    else if decide (e.KI<0)||decide (8<e.KI) then (⟨[]⟩,207)
    else IY m p e
 else (⟨[]⟩,200)
theorem kx (m:Model) (hm:F7 m) (e:EV) (he:e.NE.length≤1000000):Eu m e=some (Fx m e):=by
 have jb:∀z w,w≠0→GM m e z w=some (⟨[]⟩,w):=fun z w hw=>by simp only [GM,hw,decide_false,Bool.not_false,Ag]
 have j1:Eu m e=Ju m e (if okM m then 0 else 200) (Em e):=by
  simp only [Eu,kJ m hm,OB,Em];by_cases h6:e.KI=6
  ·simp [h6]
  ·by_cases h7:e.KI=7
   ·simp [h7]
   ·simp [h6,h7]
 rw [j1];unfold Fx;cases hk:okM m
 ·simp only [Ju,Bool.false_eq_true,if_false];rw [show (!decide ((200:Int)=0))=true from rfl,Ag,jb _ _ Om]
 ·simp only [if_true];have j3:∀x3,Ht m e x3 (Em e) true=some (⟨[]⟩,201):=fun x3=>by simp only [Ht,Ag,jb _ 201 Om]
  simp only [Ju,decide_true,Bool.not_true,Aa,TP,OB];cases hp:Ac m.Places e.NO with
  | none=>simp only [Option.isSome_none,Bool.not_false,Ag,j3]
  | some p=>
    simp only [Option.isSome_some,Bool.not_true,Aa];have hl:=hm.2 p (IT hp);have rest:(Em e=true→∃q,Ac m.Places e.PE=some q)→Ht m e 0 (Em e) false=some (if !decide (e.KI=5)&&decide (DE p≠ []) then (⟨[]⟩,205) else if decide (e.KI<0)||decide (8<e.KI) then (⟨[]⟩,207) else IY m p e):=by
     intro hq;have j2:GM m e (Em e) 0=some (IY m p e):=by
      have j6:∀(w:Int) (l:List Place),N9 (w,l)=some (if w=0 then (⟨l⟩,0) else (⟨[]⟩,w)):=fun w l=>by simp only [N9];by_cases h:w=0<;>simp [h]
      simp only [GM,decide_true,Bool.not_true,Aa,vT m hm,OB,hp,j6,IY];cases ho:Em e
      ·rw [Aa,wd m hm e he hp,OB];rfl
      ·obtain ⟨q,hq⟩:=hq ho;rw [Ag,vC m hm e hp hq,OB];rfl
     have j5:∀z,N8 m e 0 (Em e) z=some (if z then (⟨[]⟩,207) else IY m p e):=fun z=>by simp only [N8,j2,jb _ 207 Om];cases z<;>rfl
     have j4:∀z,N7 m e 0 (Em e) z=some (if z then (⟨[]⟩,205) else if decide (e.KI<0)||decide (8<e.KI) then (⟨[]⟩,207) else IY m p e):=fun z=>by
      simp only [N7,j5,jb _ 205 Om];cases z
      ·cases decide (e.KI<0)<;>simp
      ·rfl
     simp only [Ht,Aa,bX m hm,hp,OB,j4,AX];have e0:decide ((0:Int)<((DE p).length:Nat))=decide (DE p≠ []):=by rw [decide_eq_decide];cases DE p<;>simp<;>omega
     rw [e0];cases decide (e.KI=5)<;>simp
    cases ho:Em e
    ·rw [ho] at rest;rw [Aa,Bool.false_and,if_neg (by simp),rest (by simp)]
    ·rw [ho] at rest j3;rw [Ag,Bool.true_and];cases hq:Ac m.Places e.PE with
     | none=>simp only [Option.isSome_none,Bool.not_false,Ag,j3,Bool.true_or,if_true]
     | some q=>
       simp only [Option.isSome_some,Bool.not_true,Aa,Bool.false_or];by_cases h8:e.PE=e.NO
       ·simp only [h8,decide_true,j3,if_true]
       ·simp only [h8,decide_false,Bool.false_eq_true,if_false];exact rest fun _=>⟨q,hq⟩
theorem jc {b:BK} (h:Cw b=true):DF b:=((CR b).1 h).few
theorem JY {m:Model} (h:okM m=true):F7 m:=by
 obtain ⟨h6,hp⟩:=(jg m).1 h;refine ⟨Om,fun p hm=>?_⟩;obtain ⟨k,hk⟩:=List.mem_iff_getElem?.1 hm;have:=hp k p hk;simp only [En,Bool.and_eq_true,decide_eq_true_eq,List.all_eq_true] at this;refine ⟨?_,jc this.1⟩;rcases bO p.Live 0 m.Places.length this.2.1 (fun x hx=>⟨(this.2.2 x hx).1,(this.2.2 x hx).2.1⟩) with e | e
 ·rw [e];simp
 ·omega
theorem uh {n i:Nat} {p:Place}:En n i p=true↔Cw p.BK=true∧p.Live.Pairwise (· < ·)∧∀q∈p.Live,0≤q∧q<(n:Int)∧q≠(i:Int):=by simp only [En,Bool.and_eq_true,decide_eq_true_eq,List.all_eq_true,Bool.not_eq_true',decide_eq_false_iff_not,ne_eq]
def zS (s:SE):SE:=⟨s.ID,s.NE,s.SS,0⟩
def zB (b:BK):BK:=⟨b.LA,b.SE.map zS⟩
def AR (S:List SX):List Int:=(S.filter Dy).map (·.PE)
def BH (S:List SX) (b:BK):Place:=⟨zB b,AR S⟩
def Bg (n:NO):Place:=BH n.DK.DI.SD n.BK
theorem E3 {S:List SX} {p:Int}:p∈AR S↔∃x∈S,x.SS=0∧x.PE=p:=by
 unfold AR;simp only [List.mem_map,List.mem_filter,Dy,decide_eq_true_eq];constructor
 ·rintro ⟨x,⟨h1,h2⟩,h3⟩;exact ⟨x,h1,h2,h3⟩
 ·rintro ⟨x,h1,h2,h3⟩;exact ⟨x,⟨h1,h2⟩,h3⟩
theorem Ji {S:List SX} (h:S.Pairwise fun x y=>x.PE<y.PE):(AR S).Pairwise (· < ·):=by unfold AR;rw [List.pairwise_map];exact h.sublist List.filter_sublist
theorem U2 {l m:List Int} (hl:l.Pairwise (· < ·)) (hm:m.Pairwise (· < ·)) (h:∀x,x∈l↔x∈m):l=m:=jJ (fun _=>Int.lt_irrefl _) (fun _ _ h1 h2=>Om) hl hm h
theorem BkOK.z {b:BK} (h:BkOK b):BkOK (zB b):=by
 refine ⟨h.last,by simpa [zB] using h.len,?_,fun s hs=>?_,fun s hs=>?_⟩
 ·show (b.SE.map zS).Pairwise _;rw [List.pairwise_map];exact h.up
 ·obtain ⟨t,ht,rfl⟩:=List.mem_map.1 hs;have:=h.ok t ht;refine ⟨this.lo,this.hi,this.nb,this.up,Int.le_refl _,?_⟩;rcases this.st with e | ⟨e,_⟩
  ·exact .inl e
  ·exact .inr ⟨e,rfl⟩
 ·have hs:s∈(b.SE.map zS).tail:=hs;rw [←List.map_tail] at hs;obtain ⟨t,ht,rfl⟩:=List.mem_map.1 hs;exact h.tl t ht
theorem Y0 {b:BK} (h:BkOK b):Cw (zB b)=true:=(CR _).2 h.z
theorem xy {b:BK} (h:BkOK b) {id:Int} {need:List Int} (h0:(DA b id need).2=0):DA (zB b) id (Bm need)=(zB (DA b id need).1,0):=by
 have e1:Bm (Bm need)=Bm need:=wP (DO need).1;have e2:(zB b).SE.length=b.SE.length:=by simp [zB]
 unfold DA at h0 ⊢;rw [Y0 h,if_pos rfl,e1,e2,show (zB b).LA=b.LA from rfl];rw [(CR b).2 h,if_pos rfl] at h0 ⊢;by_cases c1:id≤b.LA
 ·rw [if_pos c1] at h0;simp at h0
 ·rw [if_neg c1] at h0 ⊢;rw [if_neg c1];by_cases c2:FF (Bm need)=true
  ·rw [if_pos c2] at h0 ⊢;rw [if_pos c2];by_cases c3:b.SE.length=8
   ·rw [if_pos c3] at h0;simp at h0
   ·rw [if_neg c3,if_neg c3];simp [zB,zS]
  ·rw [if_neg c2] at h0;simp at h0
theorem xx (b:BK) (id:Int):FZ (zB b) id=FZ b id:=by unfold FZ zB;dsimp only;rw [List.findIdx?_map];rfl
theorem YH {b:BK} (h:BkOK b) {id w:Int} (h0:(C6 b id w).2=0):C6 (zB b) id w=(zB (C6 b id w).1,0):=by
 unfold C6 at h0 ⊢;rw [Y0 h,if_pos rfl,xx];rw [(CR b).2 h,if_pos rfl] at h0 ⊢;cases hf:FZ b id with
 | none=>rw [hf] at h0;simp at h0
 | some i=>
   rw [hf] at h0;dsimp only at h0 ⊢;rw [show (zB b).SE[i]?=(b.SE[i]?).map zS from List.getElem?_map];cases hs:b.SE[i]? with
   | none=>rw [hs] at h0;simp at h0
   | some s=>
     rw [hs] at h0;dsimp only [Option.map_some] at h0 ⊢;by_cases c:s.SS=w
     ·rw [if_pos c,if_pos (show (zS s).SS=w from c)];simp [zB,List.map_take,List.map_drop]
     ·rw [if_neg c] at h0;simp at h0
theorem eO {b:BK} (h:BkOK b) {pre post:List SE} {s:SE} (hb:b.SE=pre++s::post):C6 b s.ID s.SS=(⟨b.LA,pre++post⟩,0):=by
 have hf:FZ b s.ID=some pre.length:=by unfold FZ;rw [List.findIdx?_eq_some_iff_getElem];refine ⟨by rw [hb];simp,by simp [hb],fun j hj=>?_⟩;have h6:=h.up;simp only [hb] at h6 ⊢;rw [List.pairwise_append] at h6;have:(pre++s::post)[j]'(by simp;omega)=pre[j]:=List.getElem_append_left hj;rw [this];have:=h6.2.2 pre[j] (List.getElem_mem hj) s (by simp);simp;omega
 unfold C6;rw [(CR b).2 h,if_pos rfl,hf];dsimp only;rw [show b.SE[pre.length]?=some s by rw [hb];simp];dsimp only;rw [if_pos rfl,hb];simp
inductive Goes:List Place→List EV→List Place→Prop
 | nil (P:List Place):Goes P [] P
 | cons {P Q R:List Place} {e:EV} {V:List EV} (h:Fx ⟨P⟩ e=(⟨Q⟩,0)) (k:Goes Q V R):Goes P (e::V) R
theorem Goes.one {P Q:List Place} {e:EV} (h:Fx ⟨P⟩ e=(⟨Q⟩,0)):Goes P [e] Q:=.cons h (.nil Q)
theorem Goes.app {P Q R:List Place} {V W:List EV} (h:Goes P V Q) (k:Goes Q W R):Goes P (V++W) R:=by
 induction h with
 | nil P=>exact k
 | cons h _ ih=>exact .cons h (ih k)
structure Env (P:List Place) (k:Nat):Prop where
 len:P.length≤64
 lt:k<P.length
 ok:∀(i:Nat) p,i≠k→P[i]?=some p→En P.length i p=true
theorem Env.okM {P:List Place} {k:Nat} (h:Env P k) {p:Place} (hp:En P.length k p=true):okM ⟨P.set k p⟩=true:=by
 refine (jg _).2 ⟨by simpa using h.len,fun i q hq=>?_⟩;have hq:(P.set k p)[i]?=some q:=hq;show En (P.set k p).length i q=true;rw [List.length_set];rw [List.getElem?_set] at hq;split at hq
 ·rename_i e;rw [if_pos h.lt] at hq;cases hq;rw [←e];exact hp
 ·rename_i e;exact h.ok i q (fun e'=>e e'.symm) hq
theorem dM {P:List Place} {k:Nat} (hk:k<P.length) (p:Place):Ac (P.set k p) (k:Int)=some p:=Ar (by rw [List.getElem?_set];simp [hk])
theorem Uh {P:List Place} {k:Nat} (p:Place) {q:Int} (hq:q≠k):Ac (P.set k p) q=Ac P q:=by
 unfold Ac;by_cases h:0≤q
 ·have:k≠q.toNat:=by omega
  rw [List.getElem?_set_ne this]
 ·simp only [if_neg h]
theorem cK {P:List Place} {k:Nat} (h:Env P k) {p p':Place} (hp:En P.length k p=true) {e:EV} (he:e.NO=k) (E:0≤e.KI∧e.KI≤5) (hd:e.KI=5∨DE p=[]) (hs:Fv (P.set k p) p e=(p'.BK,0)) (hl:p'.Live=p.Live):
  Fx ⟨P.set k p⟩ e=(⟨P.set k p'⟩,0):=by
 have ho:Em e=false:=by unfold Em;rw [DN Om,DN Om,DN Om];rfl
 unfold Fx IY;rw [h.okM hp,if_pos rfl,he,show Ac (⟨P.set k p⟩:Model).Places (k:Int)=some p from dM h.lt p];dsimp only;rw [ho,Bool.false_and,if_neg (by simp)];have c:¬(!decide (e.KI=5)&&decide (DE p≠ []))=true:=by
  rcases hd with hd | hd
  ·simp [hd]
  ·simp [hd]
 have c2:¬(decide (e.KI<0)||decide (8<e.KI))=true:=by rw [DN Om,DN Om];simp
 rw [if_neg c,if_neg c2,if_neg (by simp),hs];dsimp only;rw [if_pos rfl,Int.toNat_natCast,List.set_set,←hl]
theorem cJ {P:List Place} {k:Nat} (h:Env P k) {p p':Place} (hp:En P.length k p=true) {e:EV} (he:e.NO=k) (E:e.KI=6∨e.KI=7∨e.KI=8) (hd:DE p=[]) {q:Nat} (hq:e.PE=q) (h8:q≠k) (h6:q<P.length)
  (hs:Gt (P.set k p) p e=(p'.Live,0)) (hl:p'.BK=p.BK):Fx ⟨P.set k p⟩ e=(⟨P.set k p'⟩,0):=by
 have ho:Em e=true:=by unfold Em;rcases E with h | h | h<;>rw [h]<;>rfl
 unfold Fx IY;rw [h.okM hp,if_pos rfl,he,show Ac (⟨P.set k p⟩:Model).Places (k:Int)=some p from dM h.lt p];dsimp only;have c0:¬(Em e&&(!(Ac (P.set k p) e.PE).isSome||decide (e.PE=(k:Int))))=true:=by rw [hq,Uh p (show (q:Int)≠k by omega),Ar (List.getElem?_eq_getElem h6),DN Om];simp
 have c:¬(!decide (e.KI=5)&&decide (DE p≠ []))=true:=by simp [hd]
 have c2:¬(decide (e.KI<0)||decide (8<e.KI))=true:=by rw [DN Om,DN Om];simp
 rw [if_neg c0,if_neg c,if_neg c2,ho,if_pos rfl,hs];dsimp only;rw [if_pos rfl,Int.toNat_natCast,List.set_set,←hl]
structure PlOK (P:List Place) (k:Nat) (S:List SX) (b:BK):Prop where
 up:S.Pairwise fun x y=>x.PE<y.PE
 rng:∀x∈S,0≤x.PE∧x.PE<P.length∧x.PE≠k
 bk:BkOK b
def Ke (S:List SX) (b:BK):Prop:=∀s∈b.SE,s.SS=0→∀p∈s.NE,p∈AR S
theorem PlOK.pl {P:List Place} {k:Nat} {S:List SX} {b:BK} (h:PlOK P k S b):En P.length k (BH S b)=true:=by refine uh.2 ⟨Y0 h.bk,Ji h.up,fun q hq=>?_⟩;obtain ⟨x,hx,_,rfl⟩:=E3.1 hq;exact h.rng x hx
theorem Pm {S:List SX} {b:BK} (h:Ke S b):DE (BH S b)=[]:=by
 unfold DE;rw [List.map_eq_nil_iff,List.filter_eq_nil_iff];intro s hs;obtain ⟨t,ht,rfl⟩:=List.mem_map.1 (show s∈b.SE.map zS from hs);unfold F6;by_cases c:t.SS=0
 ·have:((zS t).NE.all fun z=>decide (z∈(BH S b).Live))=true:=by rw [List.all_eq_true];intro p hp;exact DT (h t ht c p hp)
  rw [this];simp
 ·rw [DN (show ¬(zS t).SS=0 from c)];simp
theorem dF {P:List Place} {k:Nat} (E:Env P k) {b:BK}:∀(A:List KE) (S:List SX),PlOK P k S b→Ke S b→(∀q∈A,(∀x∈S,x.PE≠q.PE)∧0≤q.PE∧q.PE<k∧∃pl,Ac P q.PE=some pl∧(k:Int)∉pl.Live)→(A.map (·.PE)).Nodup→
  Goes (P.set k (BH S b)) (FX k A) (P.set k (BH (D6 S A) b))
 | [],S,_,_,_,_=>.nil _
 | q::A,S,hp,hw,hA,hn=>by
   obtain ⟨a1,a2,a3,pl,a4,a5⟩:=hA q (by simp);rw [List.map_cons,List.nodup_cons] at hn;have h9:=E.lt;have hm:∀x,x∈Cy S (Cg q)↔x=Cg q∨x∈S:=fun x=>Fk;have hp':PlOK P k (Cy S (Cg q)) b:=⟨Pw hp.up rfl a1,fun x hx=>by
    rcases (hm x).1 hx with rfl | hx
    ·exact ⟨a2,show q.PE<_ by omega,show q.PE≠_ by omega⟩
    ·exact hp.rng x hx,hp.bk⟩
   have hl:∀p,p∈AR (Cy S (Cg q))↔p=q.PE∨p∈AR S:=fun p=>by
    rw [E3,E3];constructor
    ·rintro ⟨x,hx,h1,h2⟩;rcases (hm x).1 hx with rfl | hx
     ·exact .inl h2.symm
     ·exact .inr ⟨x,hx,h1,h2⟩
    ·rintro (rfl | ⟨x,hx,h1,h2⟩)
     ·exact ⟨Cg q,(hm _).2 (.inl rfl),rfl,rfl⟩
     ·exact ⟨x,(hm x).2 (.inr hx),h1,h2⟩
   have hw':Ke (Cy S (Cg q)) b:=fun s hs h0 p hp=>(hl p).2 (.inr (hw s hs h0 p hp));have h8:q.PE∉AR S:=fun h=>by obtain ⟨x,hx,_,e⟩:=E3.1 h;exact a1 x hx e
   obtain ⟨j,hj⟩:∃j:Nat,q.PE=j:=⟨q.PE.toNat,Om⟩
   have h6:Fx ⟨P.set k (BH S b)⟩ ⟨6,k,0,q.PE,[]⟩=(⟨P.set k (BH (Cy S (Cg q)) b)⟩,0):=by
    refine cJ E hp.pl rfl (.inl rfl) (Pm hw) hj Om Om ?_ rfl;unfold Gt;rw [if_pos rfl];dsimp only;have hb:EF (P.set k (BH S b)) ⟨6,k,0,q.PE,[]⟩=false:=by unfold EF;rw [Uh _ (show q.PE≠k by omega),a4];exact DN a5
    rw [hb,DN (show ¬q.PE∈(BH S b).Live from h8),DN (show ¬(k:Int)<q.PE by omega),if_pos (show (!false&&false==false)=true from rfl)];congr 1;refine U2 (DO _).1 (Ji hp'.up) fun p=>?_;rw [(DO _).2,List.mem_append,List.mem_singleton,show (BH (Cy S (Cg q)) b).Live=AR (Cy S (Cg q)) from rfl,hl];exact Or.comm
   exact .cons h6 (dF E A _ hp' hw' (fun r hr=>by
    obtain ⟨b1,b2,b3,b4⟩:=hA r (List.mem_cons_of_mem _ hr);refine ⟨fun x hx=>?_,b2,b3,b4⟩;rcases (hm x).1 hx with rfl | hx
    ·intro e;exact hn.1 (List.mem_map.2 ⟨r,hr,e.symm⟩)
    ·exact b1 x hx) hn.2)
theorem rF {P:List Place} {k:Nat} (E:Env P k) {S:List SX} {b:BK} (hp:PlOK P k S b) (J:Ke S b) {s:SE} {l:List SE} (hs:b.SE=s::l) (h0:s.SS=0) (hu:∀q∈s.NE,Cz P q k=false) (hk:(k:Int)∉s.NE):
  Goes (P.set k (BH S b)) [⟨1,k,s.ID,0,[]⟩] (P.set k (BH S ⟨b.LA,⟨s.ID,s.NE,1,s.Age⟩::l⟩)):=by
 refine .one (cK E hp.pl rfl ⟨by simp,by simp⟩ (.inr (Pm J)) ?_ rfl);unfold Fv;rw [if_neg (by simp),if_pos rfl];have hg:EJ (BH S b).BK=(⟨b.LA,⟨s.ID,s.NE,1,0⟩::l.map zS⟩,s.ID,0):=by unfold EJ;rw [show Cw (BH S b).BK=true from Y0 hp.bk,if_pos rfl,show (BH S b).BK.SE=zS s::l.map zS by show b.SE.map zS=_;rw [hs];rfl];dsimp only;rw [if_neg (show ¬(zS s).SS=1 by show ¬s.SS=1;omega)];rfl
 unfold UI;rw [hg];dsimp only;rw [if_pos rfl,if_pos rfl];have:(s.NE.any fun q=>Cz (P.set k (BH S b)) q k)=false:=by rw [List.any_eq_false];intro q hq;have:=hu q hq;unfold Cz at this ⊢;rw [Uh _ (fun e=>hk (e ▸ hq))];rw [this];simp
 rw [this,if_neg (by simp)];simp [BH,zB,zS]
theorem Zx {P:List Place} {k:Nat} (E:Env P k) {S:List SX} {last p:Int} (h6:p∉AR S):∀(d:Nat) (pre l:List SE),l.length=d→(∀s∈pre,Bw p s=false)→PlOK P k S ⟨last,pre++l⟩→
  Goes (P.set k (BH S ⟨last,pre++l⟩)) (G0 k (Co p l)) (P.set k (BH S ⟨last,pre++l.filter fun s=>!Bw p s⟩))
 | _,pre,[],_,_,_=>.nil _
 | 0,pre,s::l,hd,_,_=>by simp at hd
 | d+1,pre,s::l,hd,h8,hp=>by
   have hd:l.length=d:=by simpa using hd
   cases hg:Bw p s with
   | false=>
     have e1:Co p (s::l)=Co p l:=by unfold Co;rw [List.filter_cons,hg];rfl
     have e2:(s::l).filter (fun s=>!Bw p s)=s::l.filter fun s=>!Bw p s:=by rw [List.filter_cons,hg];rfl
     have ih:=Zx E h6 d (pre++[s]) l hd (fun t ht=>by
      rcases List.mem_append.1 ht with ht | ht
      ·exact h8 t ht
      ·simp at ht;rw [ht];exact hg) (by rw [List.append_assoc];exact hp)
     rw [List.append_assoc,List.append_assoc] at ih;rw [e1,e2];exact ih
   | true=>
     have e1:Co p (s::l)=s.ID::Co p l:=by unfold Co;rw [List.filter_cons,hg];rfl
     have e2:(s::l).filter (fun s=>!Bw p s)=l.filter fun s=>!Bw p s:=by rw [List.filter_cons,hg];rfl
     have hg':=hg;unfold Bw at hg';rw [Bool.and_eq_true,decide_eq_true_eq,decide_eq_true_eq] at hg';have hp':PlOK P k S ⟨last,pre++l⟩:=⟨hp.up,hp.rng,by have:=hp.bk.sub (l:=pre++l) (List.Sublist.append (List.Sublist.refl _) (List.sublist_cons_self _ _));exact this⟩
     have hw:C6 (zB ⟨last,pre++s::l⟩) s.ID 0=(zB ⟨last,pre++l⟩,0):=by have h1:=eO hp.bk (pre:=pre) (post:=l) (s:=s) rfl;rw [hg'.1] at h1;have:=YH hp.bk (id:=s.ID) (w:=0) (by rw [h1]);rw [this,h1]
     have h9:Fx ⟨P.set k (BH S ⟨last,pre++s::l⟩)⟩ ⟨5,k,s.ID,0,[]⟩=(⟨P.set k (BH S ⟨last,pre++l⟩)⟩,0):=by
      refine cK E hp.pl rfl ⟨by simp,by simp⟩ (.inl rfl) ?_ rfl;unfold Fv;rw [if_neg (by simp),if_neg (by simp),if_neg (by simp),if_neg (by simp),if_pos rfl];have hA:s.ID∈DE (BH S ⟨last,pre++s::l⟩):=by refine List.mem_map.2 ⟨zS s,List.mem_filter.2 ⟨List.mem_map.2 ⟨s,by simp,rfl⟩,?_⟩,rfl⟩;unfold F6;rw [DT (show (zS s).SS=0 from hg'.1),Bool.true_and,Bool.not_eq_true',←Bool.not_eq_true,List.all_eq_true];intro h;exact h6 (of_decide_eq_true (h p hg'.2))
      rw [if_pos hA,show (BH S ⟨last,pre++s::l⟩).BK=zB ⟨last,pre++s::l⟩ from rfl,hw];rfl
     rw [e1,e2];exact .cons h9 (Zx E h6 d pre l hd h8 hp')
theorem wR {P:List Place} {k:Nat} (U:Env P k) {S S':List SX} {b:BK} (hp:PlOK P k S b) (Y:Ke S b) (J:PlOK P k S' b) {j:Nat} (hj:(j:Int)∈AR S) (h8:j≠k) (h9:j<P.length) (E:∀q,q∈AR S'↔q∈AR S∧q≠j)
  (hb:k<j∨∃pl,Ac P (j:Int)=some pl∧(k:Int)∉pl.Live):Goes (P.set k (BH S b)) (⟨7,k,0,j,[]⟩::G0 k (Co j b.SE)) (P.set k (BH S' ⟨b.LA,b.SE.filter fun s=>!Bw j s⟩)):=by
 have h6:Fx ⟨P.set k (BH S b)⟩ ⟨7,k,0,j,[]⟩=(⟨P.set k (BH S' b)⟩,0):=by
  refine cJ U hp.pl rfl (.inr (.inl rfl)) (Pm Y) rfl h8 h9 ?_ rfl;unfold Gt;rw [if_neg (by simp),if_pos rfl];dsimp only;have hc:(decide ((j:Int)∈(BH S b).Live)&&(decide ((k:Int)<j)||!EF (P.set k (BH S b)) ⟨7,k,0,j,[]⟩))=true:=by
   rw [DT (show (j:Int)∈(BH S b).Live from hj),Bool.true_and];rcases hb with hb | ⟨pl,h1,h2⟩
   ·rw [DT Om];rfl
   ·unfold EF;dsimp only;rw [Uh _ Om,h1];dsimp only;rw [DN h2];simp
  rw [hc,if_pos rfl];congr 1;refine U2 ((DO _).1.filter _) (Ji J.up) fun q=>?_;rw [List.mem_filter,(DO _).2,show (BH S' b).Live=AR S' from rfl,E];simp [BH]
 have:=Zx U (S:=S') (last:=b.LA) (p:=j) (fun h=>((E j).1 h).2 rfl) b.SE.length [] b.SE rfl (by simp) J;exact .cons h6 this
def B1 (N:List NO):List Place:=N.map Bg
theorem Tm (N:List NO) (k:Nat) (m:NO):B1 (N.set k m)=(B1 N).set k (Bg m):=List.map_set ..
theorem Lm {N:List NO} {i:Nat} {a:NO} (h:N[i]?=some a):(B1 N)[i]?=some (Bg a):=by unfold B1;rw [List.getElem?_map,h];rfl
theorem IC (N:List NO):(B1 N).length=N.length:=by simp [B1]
structure HB (N:List NO) (M:List ML):Prop where
 nodes:∀(i:Nat) a,N[i]?=some a→a.DK.DI.ID=i∧OkN a
 len:N.length≤64
 pi:PI N M
 no:YR N
 got:∀a∈N,BZ a.DK
theorem HI.hb {h:HL} (hh:HI h) (hg:Eh h):HB h.NS h.ML:=⟨hh.ok.nodes,hh.ok.len,hh.pi,hh.no,hg⟩
theorem HB.set {N:List NO} {M M':List ML} (h:HB N M) {k:Nat} {n m:NO} (hn:N[k]?=some n) (hp:PI (N.set k m) M') (h6:m.DK.DI.ID=k) (hok:OkN m) (h8:∀q:Int,¬(0≤q∧q<N.length)→(Az m q).sd=none∧(Az m q).ak=none) (hg:BZ m.DK):HB (N.set k m) M':=by
 refine ⟨fun i a ha=>?_,by rw [List.length_set];exact h.len,hp,fun i a ha q hq=>?_,fun a ha=>?_⟩
 ·rw [Fw hn] at ha;split at ha
  ·rename_i e;cases ha;exact ⟨by rw [h6,e],hok⟩
  ·exact h.nodes i a ha
 ·rw [List.length_set] at hq;rw [Fw hn] at ha;split at ha
  ·cases ha;exact h8 q hq
  ·exact h.no i a ha q hq
 ·rcases List.mem_or_eq_of_mem_set ha with ha | rfl
  ·exact h.got a ha
  ·exact hg
theorem HB.self {N:List NO} {M:List ML} (h:HB N M) {k:Nat} {n:NO} (hn:N[k]?=some n):OkN n∧n.DK.DI.ID=k∧BZ n.DK:=⟨(h.nodes k n hn).2,(h.nodes k n hn).1,h.got n (List.mem_of_getElem? hn)⟩
theorem HB.pl {N:List NO} {M:List ML} (h:HB N M) {k:Nat} {n:NO} (hn:N[k]?=some n):PlOK (B1 N) k n.DK.DI.SD n.BK:=by
 obtain ⟨hok,h6,_⟩:=h.self hn;refine ⟨hok.dr.din.up,fun x hx=>?_,(CR _).1 hok.bk⟩;have h0:=hok.peer0 hx;have h1:0≤x.PE∧x.PE<N.length:=Classical.byContradiction fun hq=>by have:=(h.no k n hn x.PE hq).1;rw [show (Az n x.PE).sd=some x from Gk hok.dr.din.up hx] at this;simp at this
 rw [IC];exact ⟨h1.1,h1.2,Om⟩
theorem OkN.wtS {n:NO} (h:OkN n):Ke n.DK.DI.SD n.BK:=fun s hs h0 p hp=>E3.2 (h.wt s hs h0 p hp)
theorem HB.env {N:List NO} {M:List ML} (h:HB N M) {k:Nat} {n:NO} (hn:N[k]?=some n):Env (B1 N) k:=by have:=(List.getElem?_eq_some_iff.1 hn).1;refine ⟨by rw [IC];exact h.len,by rw [IC];exact this,fun i p _ hp=>?_⟩;unfold B1 at hp;rw [List.getElem?_map] at hp;obtain ⟨a,ha,rfl⟩:=Option.map_eq_some_iff.1 hp;exact (h.pl ha).pl
theorem JT {N:List NO} {k:Nat} {n:NO} (hn:N[k]?=some n):(B1 N).set k (Bg n)=B1 N:=by
 apply List.ext_getElem?;intro i;rw [List.getElem?_set];split
 ·rename_i e;subst e;have:=(List.getElem?_eq_some_iff.1 hn).1;rw [if_pos (by rw [IC];exact this),Lm hn]
 ·rfl
theorem HB.live {N:List NO} {M:List ML} (h:HB N M) {j:Nat} {b:NO} (hb:N[j]?=some b) (p:Int):p∈(Bg b).Live↔∃y,(Az b p).sd=some y∧y.SS=0:=by
 show p∈AR b.DK.DI.SD↔_;rw [E3];constructor
 ·rintro ⟨x,hx,h0,rfl⟩;exact ⟨x,Gk (h.self hb).1.dr.din.up hx,h0⟩
 ·rintro ⟨y,hy,h0⟩;obtain ⟨h1,h2⟩:=IK (show B7 b.DK.DI.SD p=some y from hy);exact ⟨y,h1,h0,h2⟩
theorem cW {a:NO} (h:OkN a) {N:List NO} {j:Nat} (ha:N[j]?=some a) {q:Int} (hu:Cz (B1 N) j q=true):UK a q:=by
 unfold Cz at hu;rw [Ar (Lm ha)] at hu;obtain ⟨s,hs,h1⟩:=List.any_eq_true.1 hu;rw [Bool.and_eq_true,decide_eq_true_eq,decide_eq_true_eq] at h1;obtain ⟨t,ht,rfl⟩:=List.mem_map.1 (show s∈a.BK.SE.map zS from hs);have h6:=(CR _).1 h.bk;cases hb:a.BK.SE with
 | nil=>rw [hb] at ht;simp at ht
 | cons u l=>
   rw [hb] at ht;rcases List.mem_cons.1 ht with rfl | ht
   ·exact ⟨t,l,hb,h1.1,h1.2⟩
   ·have h0:=h6.tl t (by rw [hb];exact ht);have h2:t.SS=1:=h1.1;omega
theorem ZQ {S S':List SX} (h:S'.map CN=S.map CN):AR S'=AR S:=by
 have e:∀S:List SX,AR S=((S.map CN).filter fun c=>decide (c.2.2=0)).map (·.1):=fun S=>by unfold AR;rw [List.filter_map,List.map_map];rfl
 rw [e,e,h]
theorem sW {id th:Int} {L:List Int} {S:List SX} (hu:S.Pairwise fun x y=>x.PE<y.PE) (E:(B0 id th L S).Pairwise fun x y=>x.PE<y.PE):AR (B0 id th L S)=AR S:=by
 refine U2 (Ji E) (Ji hu) fun p=>?_;rw [E3,E3];constructor
 ·rintro ⟨x,hx,h0,e⟩;obtain ⟨y,hy,hc⟩:=Tp hx;rcases hc with ⟨rfl,_⟩ | ⟨_,_,rfl⟩
  ·exact ⟨x,hy,h0,e⟩
  ·simp at h0
 ·rintro ⟨x,hx,h0,e⟩;refine ⟨x,List.mem_filterMap.2 ⟨x,hx,?_⟩,h0,e⟩;unfold DJ;cases hg:C1 th L x with
  | false=>rfl
  | true=>have:=UG hg;omega
theorem dB:∀ {A:List KE},(A.map (·.PE)).Nodup→∀ {q:KE},q∈A→DC A q.PE=some q.EP
 | [],_,_,h=>by simp at h
 | k::A,hd,q,h=>by
   rw [List.map_cons,List.nodup_cons] at hd;rw [dz];rcases List.mem_cons.1 h with rfl | h
   ·rw [if_pos rfl]
   ·rw [if_neg (fun e=>hd.1 (List.mem_map.2 ⟨q,h,e.symm⟩)),dB hd.2 h]
theorem HB.once {N:List NO} {M:List ML} (h:HB N M) {k:Nat} {n:NO} (hn:N[k]?=some n):HB (N.set k (AN n)) (M++E6 n):=by obtain ⟨hok,h8,hg⟩:=h.self hn;have h6:=fun q=>l6 hok q;rw [h8] at h6;refine h.set hn (h.pi.move hn (fun m hm=>by rw [←h8];exact (bt hok hm).1) h6) ((TB n).trans h8) hok.once (fun q hq=>?_) (fA hok hg);exact ((h6 q).still (h.no k n hn q hq)).2
theorem tG {N:List NO} {M:List ML} (h:HB N M) {k:Nat} {n:NO} (hn:N[k]?=some n):Goes (B1 N) (Ef n) (B1 (N.set k (AN n))):=by
 obtain ⟨hok,h9,hC⟩:=h.self hn;have hE:=h.env hn;have hV:=(List.getElem?_eq_some_iff.1 hn).1;have g1:Goes (B1 N) (Ha n) ((B1 N).set k (Bg (AZ n))):=by
  unfold Ha AZ;by_cases hP:n.DK.DI.PH=2
  ·rw [if_pos hP,if_pos hP,JT hn];exact .nil _
  ·rw [if_neg hP,if_neg hP,h9];have:=dF hE n.AK n.DK.DI.SD (h.pl hn) hok.wtS (fun q hq=>?_) hok.dis
   ·rw [show BH n.DK.DI.SD n.BK=Bg n from rfl,JT hn] at this;exact this
   ·obtain ⟨m1,m2,m3,_⟩:=hok.may q hq;obtain ⟨j,hj⟩:∃j:Nat,q.PE=j:=⟨q.PE.toNat,Om⟩
    obtain ⟨b,hb⟩:∃b,N[j]?=some b:=⟨_,List.getElem?_eq_getElem Om⟩
    refine ⟨m1,m2,Om,Bg b,by rw [hj];exact Ar (Lm hb),fun hl=>?_⟩;obtain ⟨y,hy,y0⟩:=(h.live hb k).1 hl;have hE:=h.pi j k b n Om hb hn;have h6:(Az n j).ak=some q.EP:=by show DC n.AK j=some q.EP;rw [←hj];exact dB hok.dis hq
    cases hE with
    | sk x ha hx hn' he ht=>rw [ha] at hy;cases hy;omega
    | no _ _ hk=>rw [hk] at h6;simp at h6
    | op _ _ _ _ _ _ _ hk=>rw [hk] at h6;simp at h6
    | nw _ _ _ _ _ _ _ _ hk=>rw [hk] at h6;simp at h6
    | kw _ _ _ _ _ _ _ _ _ _ _ _ hk=>rw [hk] at h6;simp at h6
    | lv _ _ _ _ _ _ _ _ hk=>rw [hk] at h6;simp at h6
    | cl _ _ _ _ _ _ _ _ _ _ hk=>rw [hk] at h6;simp at h6
    | lg _ _ _ _ _ _ _ _ hk=>rw [hk] at h6;simp at h6
    | cd _ _ _ _ _ _ hk=>rw [hk] at h6;simp at h6
 have h8:=hok.pre;have hR:=Km (Bj n).DK;have e1:Bg (Aw n)=Bg (AZ n):=by
  have hQ:(Bj n).DK.DI.SD=(AZ n).DK.DI.SD:=by
   have e:(BM (AZ n)).DK.DI=(AZ n).DK.DI:=by
    unfold BM CJ;dsimp only;split
    ·split<;>rfl
    ·rfl
   show (BM (AZ n)).DK.DI.SD=_;rw [e]
  unfold Bg BH;rw [show (Aw n).BK=(AZ n).BK from rfl,show AR (Aw n).DK.DI.SD=AR (AZ n).DK.DI.SD from (ZQ hR.core).trans (by rw [hQ])]
 have hO:PI (N.set k (Aw n)) (M++(Gq n++(Bv (Bj n).DK).2)):=by
  refine h.pi.move hn (fun m hm=>by rw [←h9];refine (bt hok (m:=m) ?_).1;unfold E6;rcases List.mem_append.1 hm with hm | hm;exact List.mem_append_left _ hm;exact List.mem_append_right _ (List.mem_append_left _ hm)) fun q=>?_;have h1:=cn hok q;have e2:Az (Bj n) q=Az (AZ n) q:=by
   have:(BM (AZ n)).DK.DI=(AZ n).DK.DI:=by
    unfold BM CJ;dsimp only;split
    ·split<;>rfl
    ·rfl
   unfold Bj BB Az;dsimp only;rw [this];rfl
  have h3:=co (n:=Bj n) h8.dr.din.up (decide (n.DK.DI.ID<q)) q;rw [HU];rw [←e2] at h1;have:=LsE.trans _ _ _ _ _ h1 h3;rw [h9] at this;exact this
 have hI:BZ (Aw n).DK:=by
  have h1:BZ (AZ n).DK:=by
   unfold AZ;split
   ·exact hC
   ·refine Pr hC fun x hx hn=>?_;rcases Pc.1 hx with hx | ⟨k,hk,rfl⟩
    ·exact .inr ⟨x,hx,rfl,rfl⟩
    ·obtain ⟨z,hz,e⟩:=hok.dr.has _ hn;exact absurd e ((hok.may k hk).1 z hz)
  have h2:BZ (Bj n).DK:=by
   have:BZ (BM (AZ n)).DK:=by
    unfold BM CJ;dsimp only;split
    ·split
     ·intro h2;simp at h2
     ·exact h1
    ·exact h1
   exact this
  exact fy h2
 have g2:Goes ((B1 N).set k (Bg (AZ n))) (CO (Aw n)) ((B1 N).set k (Bg (AL (Aw n)))):=by
  rw [←e1];have hS:(Aw n).BK=(Bj n).BK:=rfl;cases hw:Cf (Aw n) with
  | none=>
    have e2:CO (Aw n)=[]:=by unfold CO;rw [hw]
    have e3:E9 (Aw n)=(Aw n).BK:=by
     unfold Cf at hw;unfold E9;cases hs:(Aw n).BK.SE with
     | nil=>rfl
     | cons s l=>
       rw [hs] at hw;dsimp only at hw ⊢;split at hw
       ·simp at hw
       ·rename_i hc;rw [if_neg hc]
    rw [e2,show Bg (AL (Aw n))=Bg (Aw n) by unfold Bg AL;rw [e3]];exact .nil _
  | some s=>
    unfold Cf at hw;cases hs:(Aw n).BK.SE with
    | nil=>rw [hs] at hw;simp at hw
    | cons s' l=>
      rw [hs] at hw;dsimp only at hw;split at hw
      ·rename_i h0;cases hw;by_cases ht:(Aw n).DK.TH=2
       ·have e2:CO (Aw n)=[⟨1,k,s.ID,0,[]⟩]:=by unfold CO Cf;rw [hs];dsimp only;rw [if_pos h0];dsimp only;rw [if_pos ht,show (Aw n).DK.DI.ID=k from (b7 n).trans h9]
        have e3:E9 (Aw n)=⟨(Aw n).BK.LA,⟨s.ID,s.NE,1,s.Age⟩::l⟩:=by unfold E9;rw [hs];dsimp only;rw [if_pos h0,if_pos ht]
        have hA:OkN (AL (Aw n)):=h8.firgra;have hJ:s.NE=(Aw n).DK.NE:=by
         have h2:(Bj n).DK.TH≠0:=by
          rcases hR.th with e | ⟨e,_⟩
          ·rw [show (Bv (Bj n).DK).1=(Aw n).DK from rfl] at e;omega
          ·omega
         rcases h8.hq with e | e
         ·exact absurd e h2
         ·unfold Mf at e;rw [←hS,hs] at e;have e:=of_decide_eq_true e;rw [e,←hR.need];rfl
        have hB:∀q∈s.NE,∃x,B7 (Aw n).DK.DI.SD q=some x∧x.BO=true:=fun q hq=>by rw [hJ] at hq;obtain ⟨x,hx,e⟩:=hA.dr.has q hq;exact ⟨x,by rw [←e];exact Gk hA.dr.din.up hx,hI ht x hx (by rw [e];exact hq)⟩
        have hD:PlOK (B1 N) k (Aw n).DK.DI.SD (Aw n).BK:=by
         refine ⟨hA.dr.din.up,fun x hx=>?_,(CR _).1 h8.bk⟩;have h0:=hA.peer0 hx;have hU:(AL (Aw n)).DK.DI.ID=k:=(b7 n).trans h9;have h1:0≤x.PE∧x.PE<N.length:=Classical.byContradiction fun hq=>by
          have hK:=((LsE.trans _ _ _ _ _ (cn hok x.PE) (by
           have h3:=co (n:=Bj n) h8.dr.din.up (decide (n.DK.DI.ID<x.PE)) x.PE;have e2:Az (Bj n) x.PE=Az (AZ n) x.PE:=by
            have:(BM (AZ n)).DK.DI=(AZ n).DK.DI:=by
             unfold BM CJ;dsimp only;split
             ·split<;>rfl
             ·rfl
            unfold Bj BB Az;dsimp only;rw [this];rfl
           rw [e2] at h3;exact h3)).still (h.no k n hn x.PE hq)).2.1
          rw [show (Az (BI (Bj n)) x.PE).sd=some x from Gk hA.dr.din.up hx] at hK;simp at hK
         rw [IC];exact ⟨h1.1,h1.2,Om⟩
        have hT:Ke (Aw n).DK.DI.SD (Aw n).BK:=fun t ht' h0' p hp=>by obtain ⟨x,hx,x0,xp⟩:=h8.wt t ht' h0' p hp;have:p∈AR (Bj n).DK.DI.SD:=E3.2 ⟨x,hx,x0,xp⟩;rw [←ZQ hR.core] at this;exact this
        rw [e2,show Bg (AL (Aw n))=BH (Aw n).DK.DI.SD ⟨(Aw n).BK.LA,⟨s.ID,s.NE,1,s.Age⟩::l⟩ by unfold Bg AL;rw [e3]];refine rF hE hD hT hs h0 (fun q hq=>?_) (fun hq=>?_)
        ·cases hu:Cz (B1 N) q k with
         | false=>rfl
         | true=>
           exfalso;obtain ⟨x,hx,bx⟩:=hB q hq;obtain ⟨hG,hL⟩:=IK hx;obtain ⟨r1,r2,r3⟩:=hD.rng x hG;rw [IC] at r2;obtain ⟨j,hj⟩:∃j:Nat,q=j:=⟨q.toNat,Om⟩
           subst hj;obtain ⟨a,ha⟩:∃a,N[j]?=some a:=⟨_,List.getElem?_eq_getElem Om⟩
           obtain ⟨ao,_,ag⟩:=h.self ha;obtain ⟨y,hy,by'⟩:=UL ao ag (cW ao ha hu);have hN:j≠k:=by omega
           have hb:=hO.both (fun e=>hN e.symm) (show (N.set k (Aw n))[k]?=some (Aw n) by rw [Fw hn,if_pos rfl]) (show (N.set k (Aw n))[j]?=some a by rw [Fw hn,if_neg hN];exact ha) hx hy;have:=hb.2 3 (.inr (.inr (.inl rfl)));simp [BF,bx,by',bn] at this;omega
        ·obtain ⟨x,hx,_⟩:=hB k hq;obtain ⟨hG,hL⟩:=IK hx;exact (hD.rng x hG).2.2 hL
       ·have e2:CO (Aw n)=[]:=by unfold CO Cf;rw [hs];dsimp only;rw [if_pos h0];dsimp only;rw [if_neg ht]
        have e3:E9 (Aw n)=(Aw n).BK:=by unfold E9;rw [hs];dsimp only;rw [if_pos h0,if_neg ht]
        rw [e2,show Bg (AL (Aw n))=Bg (Aw n) by unfold Bg AL;rw [e3]];exact .nil _
      ·simp at hw
 have e4:Bg (AN n)=Bg (AL (Aw n)):=by have h1:=hok.once.dr.din.up;have h2:=h8.firgra.dr.din.up;unfold Bg BH;rw [show (AN n).BK=(AL (Aw n)).BK from rfl,show AR (AN n).DK.DI.SD=AR (AL (Aw n)).DK.DI.SD from sW h2 h1]
 unfold Ef;rw [Tm,e4];exact g1.app g2
theorem jR {N:List NO} {M:List ML} (h:HB N M) {k:Nat} {n:NO} (hn:N[k]?=some n) (J:List EV):∃V',(BE n [] J).2.2=J++V'∧Goes (B1 N) V' (B1 (N.set k (BE n [] J).1)):=by
 have kk:∀m:NO,(N.set k m)[k]?=some m:=fun m=>by rw [Fw hn,if_pos rfl]
 have h0:N.set k n=N:=by
  apply List.ext_getElem?;intro i;rw [Fw hn];split
  ·rename_i e;rw [e,hn]
  ·rfl
 exact (Lw (P:=fun m E V=>HB (N.set k m) (M++E)∧∃V',V=J++V'∧Goes (B1 N) V' (B1 (N.set k m))) (fun m E V hm hP=>by obtain ⟨p1,V',rfl,p2⟩:=hP;have q1:=p1.once (kk m);have q2:=tG p1 (kk m);rw [List.set_set,List.append_assoc] at q1;rw [List.set_set] at q2;exact ⟨q1,V'++Ef m,by rw [List.append_assoc],p2.app q2⟩) (h.self hn).1 ⟨by rw [h0,List.append_nil];exact h,[],by simp,by rw [h0];exact .nil _⟩).2
theorem Md {N:List NO} {k:Nat} {n m:NO} (hn:N[k]?=some n) (h:Bg m=Bg n):Goes (B1 N) [] (B1 (N.set k m)):=by rw [Tm,h,JT hn];exact .nil _
theorem gr {S S':List SX} (hu:S.Pairwise fun x y=>x.PE<y.PE) (E:S'.Pairwise fun x y=>x.PE<y.PE) (h:∀x:SX,x.SS=0→(x∈S'↔x∈S)):AR S'=AR S:=by refine U2 (Ji E) (Ji hu) fun p=>?_;rw [E3,E3];exact ⟨fun ⟨x,h1,h2,h3⟩=>⟨x,(h x h2).1 h1,h2,h3⟩,fun ⟨x,h1,h2,h3⟩=>⟨x,(h x h2).2 h1,h2,h3⟩⟩
theorem HB.sess {N:List NO} {M:List ML} (h:HB N M) {k:Nat} {n m:NO} (hn:N[k]?=some n) {e:EV} (J:AR m.DK.DI.SD=AR n.DK.DI.SD) (he:e.NO=k) (E:0≤e.KI∧e.KI≤5) (hs:Fv (B1 N) (Bg n) e=(zB m.BK,0)):Goes (B1 N) [e] (B1 (N.set k m)):=by have:=cK (h.env hn) (p:=Bg n) (p':=Bg m) (h.pl hn).pl he E (.inr (Pm (h.self hn).1.wtS)) (by rw [JT hn];exact hs) J;rw [JT hn] at this;rw [Tm];exact .one this
theorem xk {b:BK} {hold:Int} (h:BkOK b) (h0:(Dk b hold).2=0):zB (Dk b hold).1=zB b:=by
 unfold Dk at h0 ⊢;cases hs:b.SE with
 | nil=>rfl
 | cons s l=>
   rw [hs] at h0;dsimp only at h0 ⊢;have h6:=(h.ok s (by rw [hs];simp)).lo;split
   ·rename_i h1;rw [if_pos h1] at h0;split
    ·unfold zB;rw [hs];rfl
    ·rename_i h2;rw [if_neg h2] at h0;dsimp only at h0;omega
   ·rfl
theorem xj {b:BK} {hold:Int} (h:BkOK b) (h0:(Dk b hold).2≠0):C6 b (Dk b hold).2 1=((Dk b hold).1,0):=by
 unfold Dk at h0 ⊢;cases hs:b.SE with
 | nil=>rw [hs] at h0;exact absurd rfl h0
 | cons s l=>
   rw [hs] at h0;dsimp only at h0 ⊢;split
   ·rename_i h1;rw [if_pos h1] at h0;split
    ·rename_i h2;rw [if_pos h2] at h0;exact absurd rfl h0
    ·have:=eO h (pre:=[]) (post:=l) (s:=s) hs;rw [h1] at this;exact this
   ·rename_i h1;rw [if_neg h1] at h0;exact absurd rfl h0
theorem HB.shut {N:List NO} {M:List ML} (h:HB N M) {k:Nat} {n:NO} (hn:N[k]?=some n) {j:Nat} {x:SX} (hj:n.DK.DI.SD[j]?=some x) (h0:x.SS=0) (hok:OkN (Bp n j x))
  (hb:(k:Int)<x.PE∨∃b,Ac (B1 N) x.PE=some b∧(k:Int)∉b.Live):Goes (B1 N) (Ez n x.PE) (B1 (N.set k (Bp n j x))):=by
 obtain ⟨ho,h8,_⟩:=h.self hn;have hp:=h.pl hn;have h6:=List.mem_of_getElem? hj;obtain ⟨r1,r2,r3⟩:=hp.rng x h6;obtain ⟨q,hq⟩:∃q:Nat,x.PE=q:=⟨x.PE.toNat,Om⟩
 have esd:(Bp n j x).DK.DI.SD=n.DK.DI.SD.set j {x with SS:=2}:=by unfold Bp;split<;>rfl
 have hm:=fun {z:SX}=>K5 (z:=z) hp.up hj {x with SS:=2};have hu':=hok.dr.din.up;rw [esd] at hu';have hp':PlOK (B1 N) k (n.DK.DI.SD.set j {x with SS:=2}) n.BK:=⟨hu',fun z hz=>by
  rcases hm.1 hz with rfl | ⟨hz,_⟩
  ·exact ⟨r1,r2,r3⟩
  ·exact hp.rng z hz,hp.bk⟩
 have hS:∀p,p∈AR (n.DK.DI.SD.set j {x with SS:=2})↔p∈AR n.DK.DI.SD∧p≠q:=fun p=>by
  rw [E3,E3];constructor
  ·rintro ⟨z,hz,z0,rfl⟩;rcases hm.1 hz with rfl | ⟨hz,hne⟩
   ·simp at z0
   ·exact ⟨⟨z,hz,z0,rfl⟩,Om⟩
  ·rintro ⟨⟨z,hz,z0,rfl⟩,hne⟩;exact ⟨z,hm.2 (.inr ⟨hz,Om⟩),z0,rfl⟩
 have:=wR (h.env hn) hp ho.wtS hp' (j:=q) (by rw [←hq];exact E3.2 ⟨x,h6,h0,rfl⟩) Om Om hS (by
  rw [←hq];rcases hb with hb | hb
  ·exact .inl Om
  ·exact .inr hb)
 rw [show BH n.DK.DI.SD n.BK=Bg n from rfl,JT hn,←hq] at this;unfold Ez;rw [h8,Tm,show Bg (Bp n j x)=BH (n.DK.DI.SD.set j {x with SS:=2}) ⟨n.BK.LA,n.BK.SE.filter fun s=>!Bw x.PE s⟩ by unfold Bg;rw [esd];rfl];exact this
theorem nJ {N:List NO} {M:List ML} (h:HB N M) {k:Nat} {n:NO} {a:Do} (hn:N[k]?=some n) (h0:(B9 n a).1=0):Goes (B1 N) (B9 n a).2.2 (B1 (N.set k (B9 n a).2.1)):=by
 obtain ⟨ho,h8,_⟩:=h.self hn;have h6:=(CR _).1 ho.bk;have hok:=(Pa ho h0).1;revert h0 hok;unfold B9;split
 ·unfold CF;split
  ·split
   ·rename_i k0 e0;split
    ·rename_i h9;intro _ _;refine h.sess hn (m:=LV n (DA n.BK a.ID a.NE).1) rfl h8 ⟨by simp,by simp⟩ ?_;unfold Fv;rw [if_pos rfl];dsimp only;rw [show (Bg n).BK=zB n.BK from rfl,xy h6 e0,if_pos rfl,if_pos]
     ·rfl
     ·rw [List.all_eq_true] at h9 ⊢;intro p hp;have:=of_decide_eq_true (h9 p (((DO a.NE).2 p).1 hp));exact DT this
    ·intro h0;simp at h0
   ·rename_i hc;intro h0;exact absurd h0 hc
  ·split
   ·split
    ·rename_i e0;intro _ _;refine h.sess hn (m:=IW n (C6 n.BK a.ID 1).1) rfl h8 ⟨by simp,by simp⟩ ?_;unfold Fv;rw [if_neg (by simp),if_neg (by simp),if_pos rfl];dsimp only;rw [show (Bg n).BK=zB n.BK from rfl,YH h6 e0];rfl
    ·rename_i hc;intro h0;exact absurd h0 hc
   ·split
    ·split
     ·rename_i e0;intro _ _;have hs:Fv (B1 N) (Bg n) ⟨3,n.DK.DI.ID,a.ID,0,[]⟩=(zB (C6 n.BK a.ID 0).1,0):=by unfold Fv;rw [if_neg (by simp),if_neg (by simp),if_neg (by simp),if_neg (by simp),if_neg (by simp),if_pos rfl];dsimp only;rw [show (Bg n).BK=zB n.BK from rfl,YH h6 e0];rfl
      dsimp only;split
      ·exact h.sess hn rfl h8 ⟨by simp,by simp⟩ hs
      ·exact h.sess hn rfl h8 ⟨by simp,by simp⟩ hs
     ·rename_i hc;intro h0;exact absurd h0 hc
    ·split
     ·split
      ·rename_i e0;intro _ _;refine Md hn ?_;unfold Bg BH;rw [show (LV n (Dk n.BK a.Hold).1).BK=(Dk n.BK a.Hold).1 from rfl,xk h6 e0];rfl
      ·rename_i e0;intro _ _;have e1:=xj h6 e0;refine h.sess hn (m:=IW n (Dk n.BK a.Hold).1) rfl h8 ⟨by simp,by simp⟩ ?_;unfold Fv;rw [if_neg (by simp),if_neg (by simp),if_neg (by simp),if_pos rfl];dsimp only;rw [show (Bg n).BK=zB n.BK from rfl,YH h6 (by rw [e1]),e1];rfl
     ·intro _ _;exact Md hn rfl
 ·split
  ·split
   ·cases hp:C7 n.DK.DI.SD a.PE with
    | some j=>intro h0;simp at h0
    | none=>
      dsimp only;split
      ·intro _ hok;refine Md hn ?_;unfold Bg BH;rw [show (HM n (addS n a.PE) n.AK).BK=n.BK from rfl,show AR (HM n (addS n a.PE) n.AK).DK.DI.SD=AR n.DK.DI.SD from gr ho.dr.din.up hok.dr.din.up fun x hx=>?_];refine (Fk (S:=n.DK.DI.SD) (x:=addS n a.PE)).trans ⟨fun e=>?_,.inr⟩;rcases e with rfl | e
       ·simp [addS] at hx
       ·exact e
      ·intro h0;simp at h0
   ·intro h0;simp at h0
  ·split
   ·split
    ·rename_i hlt;cases hp:C7 n.DK.DI.SD a.PE with
     | none=>intro h0;simp at h0
     | some j=>
       obtain ⟨x,hx,e⟩:=Lu hp;dsimp only;rw [hx];dsimp only;split
       ·rename_i x0;intro _ hok;rw [←e];exact h.shut hn hx x0 hok (.inl Om)
       ·intro h0;simp at h0
    ·intro h0;simp at h0
   ·intro h0;simp at h0
theorem HB.edge {N:List NO} {M:List ML} (h:HB N M) {k:Nat} {n m:NO} (hn:N[k]?=some n) {e:EV} (he:e.NO=k) (E:e.KI=6∨e.KI=7∨e.KI=8) {q:Nat} (hq:e.PE=q) (h6:q≠k) (h8:q<N.length)
  (hs:Gt (B1 N) (Bg n) e=((Bg m).Live,0)) (hl:m.BK=n.BK):Goes (B1 N) [e] (B1 (N.set k m)):=by
 have:=cJ (h.env hn) (p:=Bg n) (p':=Bg m) (h.pl hn).pl he E (Pm (h.self hn).1.wtS) hq h6 (by rw [IC];exact h8) (by rw [JT hn];exact hs) (by show zB m.BK=zB n.BK;rw [hl]);rw [JT hn] at this;rw [Tm];exact .one this
theorem HI.head {h:HL} (hh:HI h) {a:Int} {k i:Nat} {n:NO} {m:ML} (hn:h.NS[k]?=some n) (hi:(h.ML.findIdx? fun m=>decide (m.From=a)&&decide (m.To=(k:Int)))=some i) (hm:h.ML[i]?=some m):
  ∃(s:Nat) (b:NO),a=s∧s≠k∧h.NS[s]?=some b∧(s<k→∃l w,EI (Az b k) (Az n s) (m.Msg::l) w)∧(k<s→∃l w,EI (Az n s) (Az b k) w (m.Msg::l)):=by
 obtain ⟨_,_,e1,_⟩:=gQ hi hm;obtain ⟨s,hs,h6,h8,_⟩:=hh.get1 hn hi hm;subst hs;obtain ⟨b,hb⟩:∃b,h.NS[s]?=some b:=⟨_,List.getElem?_eq_getElem h6⟩
 refine ⟨s,b,rfl,h8,hb,fun hlt=>?_,fun hlt=>?_⟩
 ·have hE:=hh.pi s k b n hlt hb hn;rw [e1] at hE;exact ⟨_,_,hE⟩
 ·have hE:=hh.pi k s n b hlt hn hb;rw [e1] at hE;exact ⟨_,_,hE⟩
theorem FQ {e:Int} {m:Msg} {l:List Msg} (h:Bq e (m::l)) (hk:5≤m.KI):False:=by have:=(h m (by simp)).1.1;unfold Hk at this;omega
theorem Zk {α:Type} {m x:α} {l u w:List α} (h:m::l=u++x::w):m=x∨m∈u:=by
 cases u with
 | nil=>exact .inl (List.cons.inj h).1
 | cons y u=>exact .inr (by rw [(List.cons.inj h).1];simp)
theorem cS {e:Int} {m:Msg} {u:List Msg} (h:Bq e u) (hm:m∈u) (hk:5≤m.KI):False:=by have:=(h m hm).1.1;unfold Hk at this;omega
theorem EI.came6 {a b:Vw} {ab l:List Msg} {m:Msg} (h:EI a b ab (m::l)) (hk:m.KI=6):∃y,b.sd=some y∧y.SS=0:=by
 have h5:5≤m.KI:=by omega
 cases h with
 | no _ _ _ _ _ h2=>exact absurd (FQ h2 h5) id
 | op _ _ _ _ _ _ _ _ _ _ h2=>exact absurd (FQ h2 h5) id
 | nw _ _ _ _ _ _ _ _ _ _ _ _ h2=>exact absurd (FQ h2 h5) id
 | sk _ _ _ _ _ _ _ _ _ _ h2=>exact absurd (FQ h2 h5) id
 | kw _ y _ _ _ _ _ _ _ hb hy=>exact ⟨y,hb,hy⟩
 | lv _ y _ _ _ hb hy=>exact ⟨y,hb,hy⟩
 | cl _ y _ _ _ _ _ hb hy=>exact ⟨y,hb,hy⟩
 | lg _ _ _ _ _ _ _ _ _ _ _ h2=>exact absurd (FQ h2 h5) id
 | cd _ u _ _ _ _ _ _ hba _ h2=>
   rcases Zk hba with e | e
   ·rw [e] at hk;simp at hk
   ·exact absurd (cS h2 e h5) id
theorem EI.came8 {a b:Vw} {ab l:List Msg} {m:Msg} (h:EI a b ab (m::l)) (hk:m.KI=8):b.sd=none:=by
 have h5:5≤m.KI:=by omega
 cases h with
 | no _ hb=>exact hb
 | op _ _ _ _ _ _ hb=>exact hb
 | nw _ _ _ _ _ _ _ hb=>exact hb
 | sk _ _ _ _ _ _ hb=>exact hb
 | kw _ _ u _ _ _ _ _ _ _ _ _ _ _ hba h1=>
   rcases Zk hba with e | e
   ·rw [e] at hk;simp at hk
   ·exact absurd (cS h1 e h5) id
 | lv _ _ _ _ _ _ _ _ _ _ _ h2=>exact absurd (FQ h2 h5) id
 | cl _ _ _ _ _ _ _ _ _ _ _ _ _ _ _ h2=>exact absurd (FQ h2 h5) id
 | lg _ _ _ _ _ _ _ _ _ _ _ h2=>exact absurd (FQ h2 h5) id
 | cd _ _ _ _ _ hb=>exact hb
theorem EI.came7 {a b:Vw} {ba l:List Msg} {m:Msg} (h:EI a b (m::l) ba) (hk:m.KI=7):∃x,a.sd=some x∧x.SS=3:=by
 have h5:5≤m.KI:=by omega
 cases h with
 | no _ _ _ _ h1=>exact absurd (FQ h1 h5) id
 | op _ _ _ _ _ _ _ _ _ h1=>exact absurd (FQ h1 h5) id
 | nw _ u _ _ _ _ _ _ _ _ hab h1=>
   rcases Zk hab with e | e
   ·rw [e] at hk;simp at hk
   ·exact absurd (cS h1 e h5) id
 | sk _ _ _ _ _ _ _ _ _ h1=>exact absurd (FQ h1 h5) id
 | kw _ _ _ _ _ _ _ _ _ _ _ _ _ _ _ _ _ h3=>exact absurd (FQ h3 h5) id
 | lv _ _ _ _ _ _ _ _ _ _ h1=>exact absurd (FQ h1 h5) id
 | cl x _ _ _ ha hx=>exact ⟨x,ha,hx⟩
 | lg x _ ha hx=>exact ⟨x,ha,hx⟩
 | cd x _ ha hx=>exact ⟨x,ha,hx⟩
theorem qV {h:HL} (hh:HI h) (hg:Eh h) {a:Int} {k i:Nat} {n:NO} {m:ML} (hn:h.NS[k]?=some n) (hi:(h.ML.findIdx? fun m=>decide (m.From=a)&&decide (m.To=(k:Int)))=some i) (hm:h.ML[i]?=some m):
  Goes (B1 h.NS) (Bc n a m.Msg).2.2 (B1 (h.NS.set k (Bc n a m.Msg).2.1)):=by
 have hB:=hh.hb hg;obtain ⟨ho,h8,_⟩:=hB.self hn;obtain ⟨_,_,_,_,_,_,g0,_⟩:=hh.get1 hn hi hm;obtain ⟨s,b,rfl,hw,hb,hI,hA⟩:=hh.head hn hi hm;have hok:=(Pq ho g0).1;have hC:=(List.getElem?_eq_some_iff.1 hb).1;have h6:=ho.dr.din.up;have hD:∀e:EV,e.NO=k→e.PE=s→(EF (B1 h.NS) e=true↔∃y,(Az b k).sd=some y∧y.SS=0):=fun e e1 e2=>by unfold EF;rw [e1,e2,Ar (Lm hb)];dsimp only;rw [decide_eq_true_eq];exact hB.live hb k
 revert g0 hok;unfold Bc;split
 ·intro g0;simp at g0
 ·split
  ·split
   ·rename_i hf;split
    ·intro g0;simp at g0
    ·intro _ hok;refine Md hn ?_;cases hs:BQ n s with
     | none=>rw [hs] at hf;simp [Hg] at hf
     | some q=>obtain ⟨j,x⟩:=q;have hx:=(K6 hs).2.1;unfold Bg BH;rw [show (Jh n (jO (some (j,x))) (xO (some (j,x))) m.Msg.KI).BK=n.BK from rfl,show AR (Jh n (jO (some (j,x))) (xO (some (j,x))) m.Msg.KI).DK.DI.SD=AR n.DK.DI.SD from ZQ (lq hx (g8 _ _))]
   ·intro _ _;exact Md hn rfl
  ·split
   ·split
    ·intro _ _;exact Md hn rfl
    ·intro g0;simp at g0
   ·split
    ·rename_i hJ;split
     ·rename_i hc;intro _ hok;obtain ⟨j,x,h1,_,x1,hx,hp,_⟩:=Gx hc.1;have h9:=List.mem_of_getElem? hx;have hlt:k<s:=by have:=(ho.sd x h9).2.2.2 (.inl x1);omega
      obtain ⟨l,w,hE⟩:=hA hlt;have hy:=hE.came6 hJ;rw [h1];have hm':=fun {z:SX}=>K5 (z:=z) h6 hx {x with SS:=0};have hu':(n.DK.DI.SD.set j {x with SS:=0}).Pairwise fun x y=>x.PE<y.PE:=OQ (lr hx rfl) h6;have hG:(s:Int)∉AR n.DK.DI.SD:=fun hl=>by obtain ⟨z,hz,z0,zp⟩:=E3.1 hl;have e1:=Gk h6 hz;have e2:=Gk h6 h9;rw [zp,←hp,e2] at e1;cases e1;omega
      refine hB.edge hn (m:=Ig n j x) h8 (.inl rfl) (q:=s) rfl hw hC ?_ rfl;unfold Gt;rw [if_pos rfl,(hD _ h8 rfl).2 hy];dsimp only;rw [h8,DN (show ¬(s:Int)∈(Bg n).Live from hG),DT (show (k:Int)<s by omega),if_pos (by rfl)];congr 1;refine U2 (DO _).1 (Ji hu') fun p=>?_;rw [(DO _).2,List.mem_append,List.mem_singleton,show (Bg n).Live=AR n.DK.DI.SD from rfl,show (Bg (Ig n j x)).Live=AR (n.DK.DI.SD.set j {x with SS:=0}) from rfl,E3,E3];constructor
      ·rintro (⟨z,hz,z0,zp⟩ | rfl)
       ·refine ⟨z,hm'.2 (.inr ⟨hz,fun e=>hG (E3.2 ⟨z,hz,z0,by rw [e,hp]⟩)⟩),z0,zp⟩
       ·exact ⟨_,hm'.2 (.inl rfl),rfl,hp⟩
      ·rintro ⟨z,hz,z0,zp⟩;rcases hm'.1 hz with rfl | ⟨hz,_⟩
       ·exact .inr (by rw [←zp];exact hp)
       ·exact .inl ⟨z,hz,z0,zp⟩
     ·intro g0;simp at g0
    ·split
     ·rename_i hK;split
      ·rename_i hc;intro _ hok;obtain ⟨j,x,h1,_,x0,hx,hp,_⟩:=Gx hc.1;obtain ⟨l,w,hE⟩:=hI Om;obtain ⟨y,hy,y3⟩:=hE.came7 hK;rw [h1] at hok ⊢;have:=hB.shut hn (j:=j) (x:=x) hx x0 hok (.inr ⟨Bg b,by rw [hp];exact Ar (Lm hb),fun hl=>by obtain ⟨z,hz,z0⟩:=(hB.live hb k).1 hl;rw [hy] at hz;cases hz;omega⟩);rw [hp] at this;exact this
      ·intro g0;simp at g0
     ·split
      ·rename_i hL;split
       ·rename_i hc;intro _ hok;obtain ⟨j,x,h1,_,x3,hx,hp,_⟩:=Gx hc;have h9:=List.mem_of_getElem? hx;have hlt:k<s:=by have:=(ho.sd x h9).2.2.2 (.inr x3);omega
        obtain ⟨l,w,hE⟩:=hA hlt;have hy:=hE.came8 hL;have hun:∀z∈n.DK.DI.SD,z.PE=s→z=x:=fun z hz zp=>by have e1:=Gk h6 hz;have e2:=Gk h6 h9;rw [zp,←hp,e2] at e1;exact (Option.some.inj e1).symm
        refine hB.edge hn (m:=I3 n s) h8 (.inr (.inr rfl)) (q:=s) rfl hw hC ?_ rfl;unfold Gt;have c1:EF (B1 h.NS) ⟨8,n.DK.DI.ID,0,s,[]⟩=false:=by rw [←Bool.not_eq_true,hD _ h8 rfl,hy];simp
        have c2:(s:Int)∉(Bg n).Live:=fun hl=>by obtain ⟨z,hz,z0,zp⟩:=E3.1 (show (s:Int)∈AR n.DK.DI.SD from hl);rw [hun z hz zp] at z0;omega
        have c3:Cz (B1 h.NS) k s=false:=by rw [←Bool.not_eq_true];intro hu;obtain ⟨t,l',hs,t1,tn⟩:=cW ho hn hu;have h2:n.DK.TH=2:=ho.th.2 ((F8 n).2 ⟨t,l',hs,t1⟩);obtain ⟨t',l2,hs',_,he⟩:=ho.drinks h2;rw [hs] at hs';obtain ⟨rfl,rfl⟩:=List.cons.inj hs';rw [he] at tn;exact ho.nl x h9 (by rw [hp];exact tn) x3
        have c4:Cz (B1 h.NS) s k=false:=by rw [←Bool.not_eq_true];intro hu;obtain ⟨bo,_,bg⟩:=hB.self hb;obtain ⟨z,hz,_⟩:=UL bo bg (cW bo hb hu);rw [show B7 b.DK.DI.SD k=none from hy] at hz;simp at hz
        rw [if_neg (by simp),if_neg (by simp),if_pos rfl,c1];dsimp only;rw [h8,c3,c4,DN c2,DT (show (k:Int)<s by omega),if_pos (by rfl)];congr 1;show AR n.DK.DI.SD=AR (I3 n s).DK.DI.SD;refine (gr h6 (h6.filter _) fun z z0=>?_).symm;rw [List.mem_filter];refine ⟨fun e=>e.1,fun e=>⟨e,?_⟩⟩;simp only [Bool.not_eq_true',decide_eq_false_iff_not];intro zp;rw [hun z e zp] at z0;omega
       ·intro g0;simp at g0
      ·intro g0;simp at g0
theorem vi (b:BK) (hb:DF b):Jw b=some b:=by
 have h1:=hb.1;simp only [Jw];refine D0 b.SE _ (fun pre=>((pre.length:Int),pre)) b (fun pre x post h=>?_) ?_
 ·have hx:=BL h;have hl:=BG h;have hn:=hb.2 x (Di h);dsimp only [Ng];rw [AQ hx,Ag,Ar hx,OB,B5 _ _ Om (by simp;omega),OB,List.nil_append,B5 _ _ Om (by simp only [List.length_singleton];omega),OB,AC Om,AW]
 ·dsimp only [Ng];rw [AT,Aa];rfl
theorem vk (m:Model) (hm:F7 m):Rl m=some m:=by
 have h1:=hm.1;simp only [Rl];refine D0 m.Places _ (fun pre=>((pre.length:Int),pre)) m (fun pre x post h=>?_) ?_
 ·have hx:=BL h;have hl:=BG h;have hp:=hm.2 x (Di h);dsimp only [W8];rw [AQ hx,Ag,Ar hx,OB,OB,vi x.BK hp.2,OB,B5 _ _ Om (by simp;omega),OB,List.nil_append,B5 _ _ Om (by simp only [List.length_singleton];omega),OB];dsimp only [W7];rw [AC Om,AW]
 ·dsimp only [W8];rw [AT,Aa];rfl
theorem vQ (m n:Model) (hm:F7 m):N6 m n=some (decide (m=n)):=by
 obtain ⟨l⟩:=m;obtain ⟨l'⟩:=n;have h1:l.length≤1000000:=hm.1;have h2:∀p∈l,p.Live.length≤800000∧DF p.BK:=hm.2;have e:T8 l l' (fun z=>KF z.1 z.2)=some (decide (l=l')):=by
  simp only [T8,Mp];by_cases h:l.length=l'.length
  ·simp only [h,decide_true,Bool.not_true,Aa];rw [Mq l l' _ (fun x y=>decide (x=y)) h Om (fun k x y hx hy=>by
    have hp:=h2 x (List.mem_of_getElem? hx);have e2:KF x y=some (decide (x=y)):=by obtain ⟨b,v⟩:=x;obtain ⟨b',v'⟩:=y;simp only [KF,QL,kR b b' hp.2,TJ v v' (by have:=hp.1;dsimp only at this;omega),OB,Place.mk.injEq];by_cases h1:b=b'<;>by_cases h2:v=v'<;>simp [h1,h2]
    simp only [X6,AQ hx,Ag,Ar hx,Ar hy,OB,e2,EA hx (show l.length≤4000000000000000000 by omega),Je];cases decide (x=y)<;>rfl) (by simp only [X6,AT,Aa,X5,Option.map_some]),LK l l' h]
  ·simp [h,Mo h]
 simp only [N6,e,OB,Model.mk.injEq]
def q0:List Place:=[⟨⟨0,[]⟩,[1]⟩,⟨⟨0,[]⟩,[0]⟩]
def q1:List Place:=[⟨⟨1,[⟨1,[1],0,0⟩]⟩,[1]⟩,⟨⟨0,[]⟩,[0]⟩]
def q2:List Place:=[⟨⟨1,[⟨1,[1],0,0⟩]⟩,[1]⟩,⟨⟨1,[⟨1,[0],0,0⟩]⟩,[0]⟩]
def q3:List Place:=[⟨⟨1,[⟨1,[1],0,0⟩]⟩,[1]⟩,⟨⟨1,[⟨1,[0],1,0⟩]⟩,[0]⟩]
def q4:List Place:=[⟨⟨1,[⟨1,[1],0,0⟩]⟩,[]⟩,⟨⟨0,[]⟩,[0]⟩]
def g2:Graph:=⟨2,[⟨0,1⟩]⟩
theorem TN {P:List Place} {e:EV} {r:Model×Int} (E:okM ⟨P⟩=true) (hn:e.NE.length≤1000000) (h:Fx ⟨P⟩ e=r):Eu ⟨P⟩ e=some r:=by rw [kx _ (JY E) e hn,h]
theorem kA:Nq=some true:=by
 have hN:Jt g2=some (⟨q0⟩,0):=by rw [kK,if_pos (by decide),show IG g2=⟨q0⟩ by decide]
 have k1:okM ⟨q1⟩=true:=by decide
 have k4:okM ⟨q4⟩=true:=by decide
 have s0:Eu ⟨q0⟩ ⟨0,0,1,0,[1]⟩=some (⟨q1⟩,0):=TN (by decide) (by decide) (by kernel_rfl);have s1:Eu ⟨q1⟩ ⟨0,1,1,0,[0]⟩=some (⟨q2⟩,0):=TN k1 (by decide) (by kernel_rfl);have s2:Eu ⟨q2⟩ ⟨1,1,1,0,[]⟩=some (⟨q3⟩,0):=TN (by decide) (by decide) (by kernel_rfl);have s3:Eu ⟨q3⟩ ⟨1,0,1,0,[]⟩=some (⟨[]⟩,203):=TN (by decide) (by decide) (by kernel_rfl);have s4:Eu ⟨q1⟩ ⟨7,0,0,1,[]⟩=some (⟨q4⟩,0):=TN k1 (by decide) (by kernel_rfl);have hA:Qz g2 [⟨0,0,1,0,[1]⟩,⟨0,1,1,0,[0]⟩,⟨1,1,1,0,[]⟩,⟨1,0,1,0,[]⟩]=some (3,203):=by
  unfold Qz;rw [hN,OB];dsimp only;rw [show (!decide ((0:Int)=0))=false from rfl,Aa];refine Hl.2 ⟨4,?_⟩;have b0:∀(P Q:List Place) (x:Int) (e:EV),Eu ⟨P⟩ e=some (⟨Q⟩,0)→Ac [(⟨0,0,1,0,[1]⟩:EV),⟨0,1,1,0,[0]⟩,⟨1,1,1,0,[]⟩,⟨1,0,1,0,[]⟩] x=some e→x<4→N3 [⟨0,0,1,0,[1]⟩,⟨0,1,1,0,[0]⟩,⟨1,1,1,0,[]⟩,⟨1,0,1,0,[]⟩] (x,P)=some (.inl (wr (x+1),Q)):=by intro P Q x e h1 h2 h3;dsimp only [N3];rw [AX,DT (by simpa using h3),Ag,h2,OB,h1];rfl
  have b3:N3 [⟨0,0,1,0,[1]⟩,⟨0,1,1,0,[0]⟩,⟨1,1,1,0,[]⟩,⟨1,0,1,0,[]⟩] (3,q3)=some (.inr (3,203)):=by dsimp only [N3];rw [AX,DT (by decide),Ag,show Ac [(⟨0,0,1,0,[1]⟩:EV),⟨0,1,1,0,[0]⟩,⟨1,1,1,0,[]⟩,⟨1,0,1,0,[]⟩] 3=some ⟨1,0,1,0,[]⟩ from rfl,OB,s3];rfl
  unfold CC;rw [b0 q0 q1 0 _ s0 rfl (by decide)];dsimp only;unfold CC;rw [show wr (0+1)=1 by decide,b0 q1 q2 1 _ s1 rfl (by decide)];dsimp only;unfold CC;rw [show wr (1+1)=2 by decide,b0 q2 q3 2 _ s2 rfl (by decide)];dsimp only;unfold CC;rw [show wr (2+1)=3 by decide,b3]
 have hs:=fun n=>vQ ⟨q1⟩ n (JY k1);unfold Nq;rw [show (Graph.mk 2 [Edge.mk 0 1])=g2 from rfl,hA,OB,hN,OB,show Ac [(⟨0,0,1,0,[1]⟩:EV),⟨0,1,1,0,[0]⟩,⟨1,1,1,0,[]⟩,⟨1,0,1,0,[]⟩] 0=some ⟨0,0,1,0,[1]⟩ from rfl,OB,s0,OB];dsimp only [W9,Ff];have d4:GJ ⟨q4⟩ 0=some [1]:=by rw [bX _ (JY k4)];rfl
 have d1:GJ ⟨q1⟩ 0=some []:=by rw [bX _ (JY k1)];rfl
 rw [s4,OB];dsimp only;rw [d4,d1,uM _ (JY k1),kJ _ (JY k1),hs,hs,if_pos k1,show Z4 (⟨q1⟩:Model).Places=true by decide,show decide ((⟨q1⟩:Model)=⟨q1⟩)=true by simp,show decide ((⟨q1⟩:Model)=⟨q4⟩)=false by decide];simp only [OB,Yn [1] [1] (by decide),AX,decide_true,Ag,List.length_nil,Int.natCast_zero,Bool.not_false]
theorem kI (n:NO) (h:n.DK.DI.SD.length≤100000):Jz n=some (AR n.DK.DI.SD):=by
 have hl:∀l:List SX,(AR l).length≤l.length:=fun l=>by unfold AR;rw [List.length_map];exact List.length_filter_le _ _
 unfold Jz;refine D0 n.DK.DI.SD _ (fun pre=>((pre.length:Int),AR pre)) (AR n.DK.DI.SD) (fun pre x post e=>?_) ?_
 ·have hx:=BL e;have hm:=BG e;have:=hl pre;have e2:AR (pre++[x])=if x.SS=0 then AR pre++[x.PE] else AR pre:=by unfold AR Dy;rw [List.filter_append,List.map_append];by_cases h0:x.SS=0<;>simp [h0]
  dsimp only [Wg];rw [AQ hx,Ag,Ar hx,OB,OB,e2];by_cases h0:x.SS=0
  ·rw [if_pos h0,DT h0,Ag,B5 _ _ Om (by simp only [List.length_singleton];omega),OB];dsimp only [Nt];rw [AC Om,AW]
  ·rw [if_neg h0,DN h0,Aa];dsimp only [Nt];rw [AC Om,AW]
 ·dsimp only [Wg];rw [AT,Aa];rfl
theorem kP (P:List Place) (k:Nat) (b:BK) (hb:DF b):loop (Rk P (k:Int) b (zB b)) 0=Ri (k:Int) ()∧loop (Rf (k:Int) b (zB b)) 0=Rc (k:Int) ():=by
 have hz:∀ {i:Nat} {s:SE},b.SE[i]?=some s→(zB b).SE[i]?=some (zS s):=fun {i s} h=>by show (b.SE.map zS)[i]?=_;rw [List.getElem?_map,h];rfl
 constructor
 ·refine Kq b.SE.length _ (fun i=>(i:Int)) _ (fun i hi=>?_) ?_
  ·obtain ⟨s,hs⟩:∃s,b.SE[i]?=some s:=⟨_,List.getElem?_eq_getElem hi⟩
   have hn:=hb.2 s (List.mem_of_getElem? hs);have:=hb.1;dsimp only [Rk];rw [AQ hs,Ag,Ar hs,Ar (hz hs)];simp only [OB,zS,decide_true,Bool.not_true,Aa,Yn s.NE s.NE hn,Np];rw [AC Om]
  ·dsimp only [Rk];rw [AT,Aa];rfl
 ·refine Kq b.SE.length _ (fun i=>(i:Int)) _ (fun i hi=>?_) ?_
  ·obtain ⟨s,hs⟩:∃s,b.SE[i]?=some s:=⟨_,List.getElem?_eq_getElem hi⟩
   have hn:=hb.2 s (List.mem_of_getElem? hs);have:=hb.1;dsimp only [Rf];rw [AQ hs,Ag,Ar hs,Ar (hz hs)];simp only [OB,zS,decide_true,Bool.not_true,Aa,Yn s.NE s.NE hn,Nl];rw [AC Om]
  ·dsimp only [Rf];rw [AT,Aa];rfl
theorem kO {h:HL} (hk:HallOK h) (P:List Place) (E:P=B1 h.NS):loop (Rj h P) 0=some (true,P)∧loop (Re h P) 0=some true:=by
 have hl:P.length=h.NS.length:=by rw [E,IC]
 have h6:=hk.len;have at_ok:∀ {k:Nat} {n:NO},h.NS[k]?=some n→P[k]?=some (Bg n)∧n.DK.DI.SD.length≤100000∧DF n.BK∧Hv (AR n.DK.DI.SD) (AR n.DK.DI.SD)=some true:=fun {k n} hn=>by
  have ho:=(hk.nodes k n hn).2;have h1:=ho.dr.din.len;have h2:(AR n.DK.DI.SD).length≤n.DK.DI.SD.length:=by unfold AR;rw [List.length_map];exact List.length_filter_le _ _
  refine ⟨by rw [E];exact Lm hn,Om,jc ho.bk,?_⟩;rw [Yn _ _ Om];simp
 constructor
 ·refine Kq h.NS.length _ (fun i=>(i:Int)) _ (fun k hi=>?_) ?_
  ·obtain ⟨n,hn⟩:∃n,h.NS[k]?=some n:=⟨_,List.getElem?_eq_getElem hi⟩
   obtain ⟨p1,p2,p3,p4⟩:=at_ok hn;have h3:=(kP P k n.BK p3).1;have hz:(zB n.BK).SE.length=n.BK.SE.length:=by simp [zB]
   dsimp only [Rj];rw [AQ hn,Ag,AX,DT (show (k:Int)<P.length by omega)];dsimp only [Nm];rw [Ag,Ar hn,Ar p1,OB,OB];dsimp only [W5];rw [show (Bg n).BK=zB n.BK from rfl,show (zB n.BK).LA=n.BK.LA from rfl,AX,AX,hz,DT rfl,DT rfl,Bool.not_true,Aa,Aa,Ar hn,Ar p1,OB,OB,kI n p2,OB,show (Bg n).Live=AR n.DK.DI.SD from rfl,p4,OB,Bool.not_true];dsimp only [Nn];rw [Aa,h3];dsimp only [Ri];rw [AC Om]
  ·dsimp only [Rj];rw [AT,Aa];dsimp only [Nm];rw [Aa];dsimp only [W4];rw [AX,AX,hl,DT rfl];rfl
 ·refine Kq h.NS.length _ (fun i=>(i:Int)) _ (fun k hi=>?_) ?_
  ·obtain ⟨n,hn⟩:∃n,h.NS[k]?=some n:=⟨_,List.getElem?_eq_getElem hi⟩
   obtain ⟨p1,p2,p3,p4⟩:=at_ok hn;have h3:=(kP P k n.BK p3).2;have hz:(zB n.BK).SE.length=n.BK.SE.length:=by simp [zB]
   dsimp only [Re];rw [AQ hn,Ag,AX,DT (show (k:Int)<P.length by omega)];dsimp only [Nj];rw [Ag,Ar hn,Ar p1,OB,OB];dsimp only [W0];rw [show (Bg n).BK=zB n.BK from rfl,show (zB n.BK).LA=n.BK.LA from rfl,AX,AX,hz,DT rfl,DT rfl,Bool.not_true,Aa,Aa,Ar hn,Ar p1,OB,OB,kI n p2,OB,show (Bg n).Live=AR n.DK.DI.SD from rfl,p4,OB,Bool.not_true];dsimp only [Nk];rw [Aa,h3];dsimp only [Rc];rw [AC Om]
  ·dsimp only [Re];rw [AT,Aa];dsimp only [Nj];rw [Aa];dsimp only [VZ];rw [AX,AX,hl,DT rfl];rfl
theorem kz {h:HL} (hk:HallOK h):∀ {V:List EV} {P:List Place} {W:List EV} (k:Nat),Goes P V (B1 h.NS)→(∀e∈V,e.NE.length≤1000000)→(∀i e,V[i]?=some e→W[k+i]?=some e)→W.length=k+V.length→W.length≤1000000→(V=[]→P=B1 h.NS)→
  loop (KH h W) ((k:Int),P)=some (true,B1 h.NS)
 | [],P,W,k,hG,_,_,hl,_,_=>by
   have e:P=B1 h.NS:=by cases hG;rfl
   have h2:=(kO hk P e).1;subst e;refine Hl.2 ?_;obtain ⟨n,hn⟩:=Hl.1 h2;refine ⟨1,?_⟩;unfold CC;have:KH h W ((k:Int),B1 h.NS)=some (.inr (true,B1 h.NS)):=by dsimp only [KH];rw [AX,DN (by simp at hl;omega),Aa];dsimp only [W2];rw [h2];rfl
   rw [this]
 | e::V,P,W,k,hG,hn,hW,hl,hm,_=>by
   cases hG with
   | cons h1 h2=>
     rename_i Q;have hP:okM ⟨P⟩=true:=by
      have:=(show (Fx ⟨P⟩ e).2=0 by rw [h1])
      unfold Fx at this;by_cases c:okM ⟨P⟩=true
      ·exact c
      ·rw [if_neg c] at this;simp at this
     have ih:=kz hk (k+1) h2 (fun x hx=>hn x (List.mem_cons_of_mem _ hx)) (fun i x hx=>by have:=hW (i+1) x hx;rw [show k+(i+1)=k+1+i by omega] at this;exact this) (by simp at hl;omega) hm (fun e=>by subst e;cases h2;rfl);have hx:=hW 0 e rfl;rw [Nat.add_zero] at hx;have hb:KH h W ((k:Int),P)=some (.inl (((k+1:Nat):Int),Q)):=by dsimp only [KH];rw [AQ hx,Ag,Ar hx,OB,vk _ (JY hP),OB,kx _ (JY hP) e (hn e (by simp)),h1,OB];dsimp only [W3];have:=(List.getElem?_eq_some_iff.1 hx).1;rw [AC Om];rfl
     obtain ⟨n,hn'⟩:=Hl.1 ih;refine Hl.2 ⟨n+1,?_⟩;rw [CC,hb];exact hn'
theorem vR {h:HL} (hk:HallOK h) {P:List Place} {V:List EV} (E:Goes P V (B1 h.NS)) (hn:∀e∈V,e.NE.length≤1000000) (hl:V.length≤1000000):Rh h V P=some (true,B1 h.NS):=by unfold Rh;exact kz hk 0 E hn (fun i e he=>by rw [Nat.zero_add];exact he) Om hl (fun e=>by subst e;cases E;rfl)
theorem vS {h:HL} (hk:HallOK h):Rb h (B1 h.NS)=some true:=by
 unfold Rb;refine Hl.2 ⟨1,?_⟩;unfold CC;have:W1 h (B1 h.NS) ()=some (.inr true):=by dsimp only [W1];rw [DN Om,Aa];dsimp only [VY];rw [(kO hk _ rfl).2];rfl
 rw [this]
theorem tK (n:NO):∀v∈Ef n,v.NE=[]:=fun v hv=>by
 unfold Ef at hv;rcases List.mem_append.1 hv with hv | hv
 ·unfold Ha at hv;split at hv
  ·simp at hv
  ·unfold FX at hv;obtain ⟨k,_,rfl⟩:=List.mem_map.1 hv;rfl
 ·unfold CO at hv;split at hv
  ·split at hv
   ·simp at hv;rw [hv]
   ·simp at hv
  ·simp at hv
theorem jT {n:NO} (h:OkN n) {V:List EV} (E:∀v∈V,v.NE.length≤1000):∀v∈(BE n [] V).2.2,v.NE.length≤1000:=
 Lw (P:=fun _ _ V=>∀v∈V,v.NE.length≤1000) (fun m _ V _ hP v hv=>by
  rcases List.mem_append.1 hv with hv | hv
  ·exact hP v hv
  ·rw [tK m v hv];simp) h E
theorem ly (n:NO) (p:Int):∀v∈Ez n p,v.NE.length≤1000:=fun v hv=>by
 unfold Ez G0 at hv;rcases List.mem_cons.1 hv with rfl | hv
 ·simp
 ·obtain ⟨i,_,rfl⟩:=List.mem_map.1 hv;simp
theorem nK (n:NO) (a:Do) (ha:a.NE.length≤1000):∀v∈(B9 n a).2.2,v.NE.length≤1000:=by
 have h0:=TT a.NE;unfold B9;split
 ·unfold CF
  (repeat' split)<;>intro v hv<;>simp at hv<;>(try subst hv)<;>simp<;>omega
 ·split
  ·split
   ·cases C7 n.DK.DI.SD a.PE with
    | some j=>intro v hv;simp at hv
    | none=>dsimp only;split<;>intro v hv<;>simp at hv
   ·intro v hv;simp at hv
  ·split
   ·split
    ·cases C7 n.DK.DI.SD a.PE with
     | none=>intro v hv;simp at hv
     | some j=>
       dsimp only;split
       ·intro v hv;simp at hv
       ·split
        ·exact ly n _
        ·intro v hv;simp at hv
    ·intro v hv;simp at hv
   ·intro v hv;simp at hv
theorem qW (n:NO) (p:Int) (m:Msg):∀v∈(Bc n p m).2.2,v.NE.length≤1000:=by
 unfold Bc
 (repeat' split)<;>first | exact ly n _ | (intro v hv;simp at hv;(try subst hv);try simp)
def YJ (h x:HL) (V:List EV):Prop:=Eh x∧Goes (B1 h.NS) V (B1 x.NS)∧(∀v∈V,v.NE.length≤1000)∧V.length≤100000
theorem nH {h:HL} (hh:HI h) (hg:Eh h) {k:Nat} {n:NO} {a:Do} (hn:h.NS[k]?=some n) (E:a.KI=4→0≤a.PE∧a.PE<h.NS.length) (ha:a.NE.length≤1000) (h0:(B9 n a).1=0):YJ h (Ue h k n a) (BE (B9 n a).2.1 [] (B9 n a).2.2).2.2:=by
 have hB:=hh.hb hg;obtain ⟨hok,h8,hw⟩:=hB.self hn;obtain ⟨h1,h2,_,_,_,h6⟩:=Pa hok h0;have h9:=fun q=>cm hok h0 q;rw [h8] at h9;have hB':=hB.set hn (hh.pi.act hn hok h8 h0) (h2.trans h8) h1 (fun q hq=>by
  have h0':=hh.no k n hn q hq;rcases h9 q with e | ⟨_,⟨h4,hp⟩,_⟩ | ⟨_,z,hs,_⟩
  ·rw [e];exact h0'
  ·exact absurd (hp ▸ E h4) hq
  ·rw [h0'.1] at hs;simp at hs) (fx hok hw a)
 have hk:(h.NS.set k (B9 n a).2.1)[k]?=some (B9 n a).2.1:=by rw [Fw hn,if_pos rfl]
 obtain ⟨V',e,hG⟩:=jR hB' hk (B9 n a).2.2;rw [List.set_set] at hG;refine ⟨hg.acts hh hn h0,?_,jT h1 (nK n a ha),?_⟩
 ·rw [e];exact (nJ hB hn h0).app hG
 ·have:=(bS h1 [] (B9 n a).2.2).2;have:=h6;omega
theorem qS {h:HL} (hh:HI h) (hg:Eh h) {a:Int} {k i:Nat} {n:NO} {m:ML} (hn:h.NS[k]?=some n) (hi:(h.ML.findIdx? fun m=>decide (m.From=a)&&decide (m.To=(k:Int)))=some i) (hm:h.ML[i]?=some m):YJ h (UF h k i n a m.Msg) (BE (Bc n a m.Msg).2.1 [] (Bc n a m.Msg).2.2).2.2:=by
 have hB:=hh.hb hg;obtain ⟨hok,h9,h8⟩:=hB.self hn;obtain ⟨s,hs,hA,_,v',_,g0,_,g2,hw⟩:=hh.get1 hn hi hm;obtain ⟨h1,h2,_,h6⟩:=Pq hok g0;have hB':=hB.set hn hw (h2.trans h9) h1 (fun q hq=>by rw [g2 q Om];exact hh.no k n hn q hq) (fz hok h8 a m.Msg);have hk:(h.NS.set k (Bc n a m.Msg).2.1)[k]?=some (Bc n a m.Msg).2.1:=by rw [Fw hn,if_pos rfl]
 obtain ⟨V',e,hG⟩:=jR hB' hk (Bc n a m.Msg).2.2;rw [List.set_set] at hG;refine ⟨hg.gets hh hn hi hm,?_,jT h1 (qW n a m.Msg),?_⟩
 ·rw [e];exact (qV hh hg hn hi hm).app hG
 ·have:=(bS h1 [] (Bc n a m.Msg).2.2).2;omega
theorem tb {g:Graph} (hg:Bd g=true):(IG g).Places=B1 (DH g).NS:=by
 have h6:((DH g).NS.length:Int)=g.N:=by have:=Ui hg;simp only [DH,List.length_map];exact this
 apply List.ext_getElem?;intro i;cases hn:(DH g).NS[i]? with
 | none=>
   have h1:=List.getElem?_eq_none_iff.1 hn;have h2:(IG g).Places.length=g.N.toNat:=by simp only [IG,List.length_map,List.length_range]
   rw [List.getElem?_eq_none (show (IG g).Places.length≤i by omega),List.getElem?_eq_none (show (B1 (DH g).NS).length≤i by rw [IC];exact h1)]
 | some n=>
   obtain ⟨h1,rfl⟩:=ZB hn;have hl:∀(c:List Int) (k:Int) (l:List Int),AR (l.map (Dq c k))=l:=fun c k l=>by unfold AR;rw [List.filter_eq_self.2 (fun x hx=>by obtain ⟨b,_,rfl⟩:=List.mem_map.1 hx;rfl),List.map_map];exact List.map_id' l
   rw [Lm hn];simp only [IG,List.getElem?_map];rw [List.getElem?_range Om];simp only [Option.map_some,Option.some.injEq];show _=Place.mk ⟨0,[]⟩ (AR ((Be g i).map (Dq (DX g) i)));rw [hl];rfl
theorem w9 {g:Graph} (hg:Bd g=true) (E:g.N≤6) {l:List narthexlaw19_Step} (hl:l.length≤80) (hn:∀s∈l,s.Do.NE.length≤20):
  ∃r,QZ g l (IG g).Places=some r∧r.2.1=true:=by
 obtain ⟨h6,h8⟩:=rJ hg Om;have ho:Jv g=some g:=by have:=(Dc hg).2.2.1;unfold Jv;rw [B5 _ _ Om (by simp;omega),OB,List.nil_append]
 have hA:(DH g).ML.length=0:=rfl;unfold QZ;rw [ho,OB,vN g Om,OB,if_pos hg,DT rfl,Bool.not_true,Aa,tb hg,vS h6.ok,OB,Bool.not_true];dsimp only [R0];rw [Aa];refine gu l.length (R4 l) (fun k h=>((k:Int),B1 h.NS,h)) (fun k h=>HI h∧Eh h∧h.ML.length≤6000*k) (fun r=>r.2.1=true) (fun k h hk hI=>?_) (fun h hI=>?_) (DH g) ⟨h6,h8,Om⟩
 ·left;obtain ⟨i1,i2,i3⟩:=hI;obtain ⟨s,hx⟩:∃s,l[k]?=some s:=⟨_,List.getElem?_eq_getElem hk⟩
  have hsm:=hn s (List.mem_of_getElem? hx);have hB:=i1.ok.len;obtain ⟨x,V,e,hr,h9⟩:=wi (s:=s) i1 (fun x V=>YJ h x V) Om Om (fun k n h1 hP h2=>nH i1 i2 h1 hP Om h2) (fun k i n m h1 h2 h3=>qS i1 i2 h1 h2 h3);dsimp only [R4];rw [AQ hx,Ag,Ar hx,OB,vO h i1.ok.few Om Om,OB,hr,OB];dsimp only [VX];rcases h9 with ⟨rfl,x1,⟨t1,t2,t3,t4⟩,x3,_⟩ | ⟨he,hw⟩
  ·refine ⟨x,?_,x1,t1,Om⟩;rw [DT rfl,Bool.not_true,Aa];dsimp only [Nh];rw [Aa,DT rfl,Ag,vR x1.ok t2 (fun v hv=>Nat.le_trans (t3 v hv) (by decide)) Om,OB,Bool.not_true,Aa];dsimp only [Ni];rw [AC Om]
  ·refine ⟨h,?_,i1,i2,Om⟩;rw [DN he,Bool.not_false,Ag,vW hw,OB,Bool.not_true];dsimp only [Nh];rw [Aa,DN he,Aa];dsimp only [Ni];rw [AC Om]
 ·dsimp only [R4];rw [AT,Aa];exact ⟨(h,true,B1 h.NS),rfl,rfl⟩
theorem ue (g:Graph) (l:List narthexlaw19_Step):Ra g l=some true:=by
 have yes:KJ g l true=some true:=by dsimp only [KJ];rw [Ag,kA];rfl
 obtain ⟨z,hz,hq⟩:=wh g l;unfold Ra;rw [kA,OB,Bool.not_true,Aa,hz,OB];cases z with
 | false=>exact yes
 | true=>
   obtain ⟨hg,hN,hl,hn⟩:=hq rfl;have ho:Jv g=some g:=by have:=(Dc hg).2.2.1;unfold Jv;rw [B5 _ _ Om (by simp;omega),OB,List.nil_append]
   dsimp only [KJ];obtain ⟨r,h1,h2⟩:=w9 hg hN hl hn;rw [Bool.not_true,Aa,ho,OB,kK,if_pos hg,OB,h1,OB,h2,Ag];rfl
end NX
end Go.Proofs.YtgnjledocpbchaaGreat
namespace Go.Proofs.YtgnjledocpbchaaGreat
namespace NX
open Go Go.ChangeShapes Go.WideShapes Go.ChangeAt Go.RowKit
theorem tX:Fz Tryz.prog 70 Edge.row:=by
 intro H enc w base sp h6 fuel cs x h;obtain ⟨xs,n,_,_,hl,h8,hf⟩:=DataW.trod_struct Tryz.underlying70 h;rw [show Tryz.prog.cellsOf 70=2 from by kernel_rfl] at hl;have c0:DataW.trod enc Tryz.prog w base sp h6 n 3 ((cs.drop 0).take (Tryz.prog.cellsOf 3))=xs[0]?:=hf 0 _ rfl;rw [show Tryz.prog.cellsOf 3=1 from by kernel_rfl] at c0;have h9:0<xs.length:=by rw [h8];decide
 obtain ⟨y0,hA⟩:∃y,xs[0]?=some y:=⟨_,List.getElem?_eq_getElem h9⟩
 obtain ⟨v0,k0⟩:=(HK Tryz.underlying3) enc w _ _ _ _ _ _ (c0.trans hA);have c1:DataW.trod enc Tryz.prog w base sp h6 n 3 ((cs.drop 1).take (Tryz.prog.cellsOf 3))=xs[1]?:=hf 1 _ rfl;rw [show Tryz.prog.cellsOf 3=1 from by kernel_rfl] at c1;have hw:1<xs.length:=by rw [h8];decide
 obtain ⟨y1,hy1⟩:∃y,xs[1]?=some y:=⟨_,List.getElem?_eq_getElem hw⟩
 obtain ⟨v1,k1⟩:=(HK Tryz.underlying3) enc w _ _ _ _ _ _ (c1.trans hy1);have e:cs=(cs.drop 0).take 1++(cs.drop 1).take 1:=by
  match cs,hl with
  | [a0,a1],_=>rfl
 rw [e];exact ⟨⟨v0,v1⟩,(Dw k0 k1)⟩
theorem tT:Fz Tryz.prog 22 (Ci 2 Edge.row):=bB (n:=2) (row:=Edge.row) Tryz.underlying22 (by kernel_rfl) (by decide) (fun _=>⟨rfl,rfl,rfl⟩) tX
theorem tW:Fz Tryz.prog 24 Graph.row:=by
 intro H enc w base sp h6 fuel cs x h;obtain ⟨xs,n,_,_,hl,h8,hf⟩:=DataW.trod_struct Tryz.underlying24 h;rw [show Tryz.prog.cellsOf 24=2 from by kernel_rfl] at hl;have c0:DataW.trod enc Tryz.prog w base sp h6 n 3 ((cs.drop 0).take (Tryz.prog.cellsOf 3))=xs[0]?:=hf 0 _ rfl;rw [show Tryz.prog.cellsOf 3=1 from by kernel_rfl] at c0;have h9:0<xs.length:=by rw [h8];decide
 obtain ⟨y0,hA⟩:∃y,xs[0]?=some y:=⟨_,List.getElem?_eq_getElem h9⟩
 obtain ⟨v0,k0⟩:=(HK Tryz.underlying3) enc w _ _ _ _ _ _ (c0.trans hA);have c1:DataW.trod enc Tryz.prog w base sp h6 n 22 ((cs.drop 1).take (Tryz.prog.cellsOf 22))=xs[1]?:=hf 1 _ rfl;rw [show Tryz.prog.cellsOf 22=1 from by kernel_rfl] at c1;have hw:1<xs.length:=by rw [h8];decide
 obtain ⟨y1,hy1⟩:∃y,xs[1]?=some y:=⟨_,List.getElem?_eq_getElem hw⟩
 obtain ⟨v1,k1⟩:=tT enc w _ _ _ _ _ _ (c1.trans hy1);have e:cs=(cs.drop 0).take 1++(cs.drop 1).take 1:=by
  match cs,hl with
  | [a0,a1],_=>rfl
 rw [e];exact ⟨⟨v0,v1⟩,(Dw k0 k1)⟩
theorem tV:Fz Tryz.prog 45 (Ci 1 Am):=bB (n:=1) (row:=Am) Tryz.underlying45 (by kernel_rfl) (by decide) (fun _=>⟨rfl,rfl,rfl⟩) (HK Tryz.underlying3)
theorem tY:Fz Tryz.prog 79 Do.row:=by
 intro H enc w base sp h6 fuel cs x h;obtain ⟨xs,n,_,_,hl,h8,hf⟩:=DataW.trod_struct Tryz.underlying79 h;rw [show Tryz.prog.cellsOf 79=5 from by kernel_rfl] at hl;have c0:DataW.trod enc Tryz.prog w base sp h6 n 77 ((cs.drop 0).take (Tryz.prog.cellsOf 77))=xs[0]?:=hf 0 _ rfl;rw [show Tryz.prog.cellsOf 77=1 from by kernel_rfl] at c0;have h9:0<xs.length:=by rw [h8];decide
 obtain ⟨y0,hD⟩:∃y,xs[0]?=some y:=⟨_,List.getElem?_eq_getElem h9⟩
 obtain ⟨v0,k0⟩:=(HK Tryz.underlying77) enc w _ _ _ _ _ _ (c0.trans hD);have c1:DataW.trod enc Tryz.prog w base sp h6 n 3 ((cs.drop 1).take (Tryz.prog.cellsOf 3))=xs[1]?:=hf 1 _ rfl;rw [show Tryz.prog.cellsOf 3=1 from by kernel_rfl] at c1;have hw:1<xs.length:=by rw [h8];decide
 obtain ⟨y1,hy1⟩:∃y,xs[1]?=some y:=⟨_,List.getElem?_eq_getElem hw⟩
 obtain ⟨v1,k1⟩:=(HK Tryz.underlying3) enc w _ _ _ _ _ _ (c1.trans hy1);have c2:DataW.trod enc Tryz.prog w base sp h6 n 3 ((cs.drop 2).take (Tryz.prog.cellsOf 3))=xs[2]?:=hf 2 _ rfl;rw [show Tryz.prog.cellsOf 3=1 from by kernel_rfl] at c2;have hA:2<xs.length:=by rw [h8];decide
 obtain ⟨y2,hE⟩:∃y,xs[2]?=some y:=⟨_,List.getElem?_eq_getElem hA⟩
 obtain ⟨v2,k2⟩:=(HK Tryz.underlying3) enc w _ _ _ _ _ _ (c2.trans hE);have c3:DataW.trod enc Tryz.prog w base sp h6 n 3 ((cs.drop 3).take (Tryz.prog.cellsOf 3))=xs[3]?:=hf 3 _ rfl;rw [show Tryz.prog.cellsOf 3=1 from by kernel_rfl] at c3;have hB:3<xs.length:=by rw [h8];decide
 obtain ⟨y3,hG⟩:∃y,xs[3]?=some y:=⟨_,List.getElem?_eq_getElem hB⟩
 obtain ⟨v3,k3⟩:=(HK Tryz.underlying3) enc w _ _ _ _ _ _ (c3.trans hG);have c4:DataW.trod enc Tryz.prog w base sp h6 n 45 ((cs.drop 4).take (Tryz.prog.cellsOf 45))=xs[4]?:=hf 4 _ rfl;rw [show Tryz.prog.cellsOf 45=1 from by kernel_rfl] at c4;have hC:4<xs.length:=by rw [h8];decide
 obtain ⟨y4,hI⟩:∃y,xs[4]?=some y:=⟨_,List.getElem?_eq_getElem hC⟩
 obtain ⟨v4,k4⟩:=tV enc w _ _ _ _ _ _ (c4.trans hI);have e:cs=(cs.drop 0).take 1++(cs.drop 1).take 1++(cs.drop 2).take 1++(cs.drop 3).take 1++(cs.drop 4).take 1:=by
  match cs,hl with
  | [a0,a1,a2,a3,a4],_=>rfl
 rw [e];exact ⟨⟨v0,v1,v2,v3,v4⟩,(Dw (Dw (Dw (Dw k0 k1) k2) k3) k4)⟩
theorem tZ:Fz Tryz.prog 81 narthexlaw19_Step.row:=by
 intro H enc w base sp h6 fuel cs x h;obtain ⟨xs,n,_,_,hl,h8,hf⟩:=DataW.trod_struct Tryz.underlying81 h;rw [show Tryz.prog.cellsOf 81=8 from by kernel_rfl] at hl;have c0:DataW.trod enc Tryz.prog w base sp h6 n 4 ((cs.drop 0).take (Tryz.prog.cellsOf 4))=xs[0]?:=hf 0 _ rfl;rw [show Tryz.prog.cellsOf 4=1 from by kernel_rfl] at c0;have h9:0<xs.length:=by rw [h8];decide
 obtain ⟨y0,hC⟩:∃y,xs[0]?=some y:=⟨_,List.getElem?_eq_getElem h9⟩
 obtain ⟨v0,k0⟩:=(tQ Tryz.underlying4) enc w _ _ _ _ _ _ (c0.trans hC);have c1:DataW.trod enc Tryz.prog w base sp h6 n 3 ((cs.drop 1).take (Tryz.prog.cellsOf 3))=xs[1]?:=hf 1 _ rfl;rw [show Tryz.prog.cellsOf 3=1 from by kernel_rfl] at c1;have hw:1<xs.length:=by rw [h8];decide
 obtain ⟨y1,hy1⟩:∃y,xs[1]?=some y:=⟨_,List.getElem?_eq_getElem hw⟩
 obtain ⟨v1,k1⟩:=(HK Tryz.underlying3) enc w _ _ _ _ _ _ (c1.trans hy1);have c2:DataW.trod enc Tryz.prog w base sp h6 n 3 ((cs.drop 2).take (Tryz.prog.cellsOf 3))=xs[2]?:=hf 2 _ rfl;rw [show Tryz.prog.cellsOf 3=1 from by kernel_rfl] at c2;have hA:2<xs.length:=by rw [h8];decide
 obtain ⟨y2,hD⟩:∃y,xs[2]?=some y:=⟨_,List.getElem?_eq_getElem hA⟩
 obtain ⟨v2,k2⟩:=(HK Tryz.underlying3) enc w _ _ _ _ _ _ (c2.trans hD);have c3:DataW.trod enc Tryz.prog w base sp h6 n 79 ((cs.drop 3).take (Tryz.prog.cellsOf 79))=xs[3]?:=hf 3 _ rfl;rw [show Tryz.prog.cellsOf 79=5 from by kernel_rfl] at c3;have hB:3<xs.length:=by rw [h8];decide
 obtain ⟨y3,hE⟩:∃y,xs[3]?=some y:=⟨_,List.getElem?_eq_getElem hB⟩
 obtain ⟨v3,k3⟩:=tY enc w _ _ _ _ _ _ (c3.trans hE);have e:cs=(cs.drop 0).take 1++(cs.drop 1).take 1++(cs.drop 2).take 1++(cs.drop 3).take 5:=by
  match cs,hl with
  | [a0,a1,a2,a3,a4,a5,a6,a7],_=>rfl
 rw [e];exact ⟨⟨v0,v1,v2,v3⟩,(Dw (Dw (Dw k0 k1) k2) k3)⟩
theorem tU:Fz Tryz.prog 25 (Ci 8 narthexlaw19_Step.row):=bB (n:=8) (row:=narthexlaw19_Step.row) Tryz.underlying25 (by kernel_rfl) (by decide) (fun _=>⟨rfl,rfl,rfl⟩) tZ
theorem rZ:laidOutB Tryz.prog=true:=by kernel_rfl
theorem u9:ownKnob Tryz.prog.godebug=none:=by kernel_rfl
theorem oI (H:Type) (enc:TypeId×Value→H) (W:World) (J:Nat) (args:Array Value) (U Z:List (DataW H)) (E:List MemPlace)
  (h6:∀(j:Nat) t v,Tryz.f3.params[j]?=some t→args[j]?=some v→Value.okWide Tryz.prog W .any J t v)
  (Y:DataW.Whole enc Tryz.prog Tryz.f3.params.toList Rows.modelHallSpec.vars false W args.toList U Z E):
  Calls Tryz.prog 3 args W fun e W'=>∃v,e = .returned v∧Rows.modelHallSpec.post enc Tryz.prog Tryz.f3 false true false false W args v W':=by
 have h8:=Y;obtain ⟨p,q,h9,hV,rfl,hD,hE⟩:=Y;have hA:DataW.TrodAll enc Tryz.prog W 0 (fun _=>true) true Tryz.f3.params.toList args.toList U p:=h9;rw [Tryz.params3] at hA h6;obtain ⟨v0,vs0,d0,ds0,p0,q0,hw,rfl,rfl,h0,r0⟩:=trodAll_cons hA;obtain ⟨v1,vs1,d1,ds1,p1,q1,hC,rfl,rfl,h1,r1⟩:=trodAll_cons r0;obtain ⟨hz,rfl,rfl⟩:=trodAll_nil r1;obtain rfl:args = #[v0,v1]:=by cases args;simp_all
 obtain ⟨x1,k0⟩:=nS tW Tryz.underlying24 (h6 0 24 v0 rfl rfl) h0;obtain ⟨x2,k1⟩:=nT tU Tryz.underlying25 (h6 1 25 v1 rfl rfl) h1;refine (fU (ue x1 x2) (fun k=>W.heap[k]?) W [v0,v1] (fun _ _ h=>h) (fun _ hs=>absurd hs List.not_mem_nil) ⟨v0,_,rfl,k0,⟨v1,_,rfl,k1,rfl⟩⟩).mono ?_;rintro e W' ⟨v,H',rfl,hB,_,_,hv⟩;have hv:v = .bool true:=hv;subst hv;exact ⟨_,rfl,s6 rZ (by kernel_rfl) rfl (rfl:Tryz.f3.resultTypes = #[4]) Tryz.underlying4 (fun _=>rfl) h8 hB⟩
theorem sV (os:Os) (E:os.Started) (H:Type) (enc:TypeId×Value→H):
  ReturnsInHanded {} Tryz.checked os 3 .any (Rows.modelHallSpec.pre6 enc Tryz.prog Tryz.f3 Rows.modelHallRow.domain false) (Rows.modelHallSpec.post enc Tryz.prog Tryz.f3 false true false false):=by
 refine returnsInHanded_of_change (C:=Tryz.checked) u9 E (by kernel_rfl) Tryz.func3
  (ChangeSpec.witness6 (enc:=enc) (C:=Tryz.checked) false ⟨#[], #[.agg #[.int .i64 0,.slice none 0 0],.slice none 0 0],[]⟩ 8 (by kernel_rfl) (by kernel_rfl) (by kernel_rfl) (by kernel_rfl)) ?_
 intro W base args ds gs before h6 hW _ _;exact oI H enc W base args ds gs before h6 hW
theorem modelHall_holds:Rows.ModelHallSaid:=
 OpenClaim.holds_of_wide 3 Tryz.f3 rfl rfl rfl rfl rfl rfl rfl ⟨rfl,rfl,rfl,rfl,rfl⟩ rfl rfl rfl rfl rfl (by kernel_rfl) Tryz.func3 (by kernel_rfl)
  (of_decide_eq_true (by kernel_rfl)) (by unfold Func.isWrapper;first | (rw [if_pos (by decide +kernel)];kernel_rfl) | (rw [if_neg (by decide +kernel)];exact ⟨rfl,rfl⟩))
  (fun os started H enc _=>sV os started H enc)
#print axioms modelHall_holds
end NX
end Go.Proofs.YtgnjledocpbchaaGreat
