/-
  Plain laws: what a node does once. No statement of the seat is proved here.
-/
import Derived.Test.YtgamgemlekpepaaGreatKHallOthers47
namespace Go.Proofs.YtgamgemlekpepaaGreat
namespace NX
open Go
def ansN (n:NO):NO:=if n.DK.DI.PH=2 then n else ⟨⟨⟨n.DK.DI.ID,n.DK.DI.PH,ansS n.DK.DI.SD n.AK⟩,n.DK.TH,n.DK.NE⟩,n.BK,ansK n.KN n.AK,n.TL,[]⟩
def Zrh1 (n:NO):List ML:=if n.DK.DI.PH=2 then [] else ansM n.DK.DI.ID n.AK
def Zsh1 (n:NO):List EV:=if n.DK.DI.PH=2 then [] else ansV n.DK.DI.ID n.AK
def Zth1 (n:NO):Option SE:=match n.BK.SE with | []=>none | s::_=>if s.SS=0 then some s else none
def thiD (n:NO):DK:=match Zth1 n with | some s=>if n.DK.TH=0 then ⟨n.DK.DI,1,s.NE⟩ else n.DK | none=>n.DK
def thiN (n:NO):NO:=⟨thiD n,n.BK,n.KN,n.TL,n.AK⟩
def hunP (n:NO):Int:=if decide (n.DK.DI.PH=0)&&n.DK.DI.SD.any (untB n.TL) then 1 else n.DK.DI.PH
def hunN (n:NO):NO:=⟨⟨⟨n.DK.DI.ID,hunP n,n.DK.DI.SD⟩,n.DK.TH,n.DK.NE⟩,n.BK,n.KN,n.TL,n.AK⟩
def firN (n:NO):NO:=⟨(Zze1 n.DK).1,n.BK,n.KN,n.TL,n.AK⟩
def graB (n:NO):BK:=match n.BK.SE with | []=>n.BK | s::l=>if s.SS=0 then (if n.DK.TH=2 then ⟨n.BK.LA,⟨s.ID,s.NE,1,s.Age⟩::l⟩ else n.BK) else n.BK
def graN (n:NO):NO:=⟨n.DK,graB n,n.KN,n.TL,n.AK⟩
def graV (n:NO):List EV:=match Zth1 n with | some s=>if n.DK.TH=2 then [⟨1,n.DK.DI.ID,s.ID,0,[]⟩] else [] | none=>[]
def telT (n:NO):List Int×List ML:=if n.DK.DI.PH=2 then Zah1 n.DK.DI.ID n.DK.DI.SD n.TL [] else (n.TL,[])
def telN (n:NO):NO:=⟨n.DK,n.BK,n.KN,(telT n).1,n.AK⟩
def leaN (n:NO):NO:=⟨⟨⟨n.DK.DI.ID,n.DK.DI.PH,Zhh1 n.DK.DI.ID n.DK.TH n.DK.NE n.DK.DI.SD⟩,n.DK.TH,n.DK.NE⟩,n.BK,n.KN,n.TL,n.AK⟩
def Zuh1 (n:NO):List ML:=Zih1 n.DK.DI.ID n.DK.TH n.DK.NE n.DK.DI.SD
def preN (n:NO):NO:=hunN (thiN (ansN n))
def midN (n:NO):NO:=firN (preN n)
def Zvh1 (n:NO):NO:=leaN (telN (graN (midN n)))
def Zwh1 (n:NO):List ML:=Zrh1 n++((Zze1 (preN n).DK).2++((telT (graN (midN n))).2++Zuh1 (telN (graN (midN n)))))
def Zxh1 (n:NO):List EV:=Zsh1 n++graV (midN n)
def tupN (n:NO) (E:List ML) (V:List EV):Int×Int×Int×Int×List SE×List Int×List KE×List EV×List KE×List Int×List ML×List SX:=(n.DK.DI.ID,n.DK.DI.PH,n.DK.TH,n.BK.LA,n.BK.SE,n.TL,n.KN,V,n.AK,n.DK.NE,E,n.DK.DI.SD)
def tupF (d:DK) (N:List Int) (M:List ML):Int×Int×Int×Int×List SX×List Int×List ML:=(d.DI.ID,d.DI.PH,d.TH,0,d.DI.SD,N,M)
theorem Zyh1 (id:Int):∀(l:List SX) (T:List Int) (E:List ML),Zah1 id l T E=((Zah1 id l T []).1,E++(Zah1 id l T []).2)
 | [],T,E=>by simp [Zah1]
 | x::l,T,E=>by
   unfold Zah1;split
   ·rw [Zyh1 id l _ (E++_),Zyh1 id l _ ([]++_)];simp
   ·exact Zyh1 id l T E
theorem Zzh1 (id:Int):∀(l:List SX) (T:List Int) (E:List ML),(Zah1 id l T E).1.length≤T.length+l.length∧(Zah1 id l T E).2.length≤E.length+l.length
 | [],T,E=>by simp [Zah1]
 | x::l,T,E=>by
   unfold Zah1;split
   ·have:=Zzh1 id l (setL (T++[x.PE])) (E++[⟨id,x.PE,⟨5,x.EP,0⟩⟩]);have h2:=Zac1 (T++[x.PE]);simp only [List.length_append,List.length_cons,List.length_nil] at this h2 ⊢;omega
   ·have:=Zzh1 id l T E;simp only [List.length_cons];omega
section
variable (f:Int)
theorem Z0i1 (m:NO) (J E:List ML) (V:List EV) (U:m.DK.DI.SD.length≤1000) (hs:m.DK.DI.SD.Pairwise fun x y=>x.PE<y.PE) (hO:m.TL.length≤1000) (Z:m.DK.NE.length≤100000) (Y:E.length≤800000):
  Zi81 m.TL f m.KN m.AK (tupF m.DK m.DK.NE J) E (m.BK.LA,m.BK.SE,V)=some (tupN (leaN (telN m)) (E++((telT m).2++Zuh1 (telN m))) V):=by
 have h1:=Zzh1 m.DK.DI.ID m.DK.DI.SD m.TL [];have h2:=Znh1 m.DK.DI.ID m.DK.TH m.DK.NE m.DK.DI.SD;have j10:∀(T:List Int) (E:List ML),E.length≤890000→Zh81 f m.KN m.AK (tupF m.DK m.DK.NE J) m.BK.LA m.BK.SE V (T,E)=some (tupN (leaN ⟨m.DK,m.BK,m.KN,T,m.AK⟩) (E++Zuh1 m) V):=fun T E Y=>by dsimp only [Zh81,tupF,Z731];rw [Zqh1 m.DK.DI.ID m.DK.DI.PH m.DK.TH m.BK.LA m.BK.SE T f m.DK.NE m.KN m.AK V Z _ m.DK.DI.SD E (Nat.le_refl _) U hs (by omega),OB];rfl
 dsimp only [Zi81];unfold telN telT;by_cases hp:m.DK.DI.PH=2
 ·rw [show decide ((tupF m.DK m.DK.NE J).2.1=2)=true from DT hp,Zha1,if_pos hp];dsimp only [tupF];rw [Zbh1 _ _ _ _ _ _ _ _ _ _ _ _ _ U hO (by omega),OB];have:=j10 (Zah1 m.DK.DI.ID m.DK.DI.SD m.TL []).1 (E++(Zah1 m.DK.DI.ID m.DK.DI.SD m.TL []).2) (by rw [List.length_append];simp only [List.length_nil] at h1;omega);rw [Zyh1];dsimp only;refine Eq.trans this ?_;rw [List.append_assoc];rfl
 ·rw [show decide ((tupF m.DK m.DK.NE J).2.1=2)=false from DN hp,Zia1,if_neg hp];rw [j10 m.TL E (by omega)];rfl
def Z1i1 (n:NO):SE×Bool:=match n.BK.SE with | []=>(Z2g1,false) | s::_=>(s,true)
theorem Z2i1 (m:NO) (J E:List ML) (V:List EV) (hB:Zjc1 m.BK) (hk:okBk m.BK=true) (hS:m.DK.DI.SD.length≤1000) (hs:m.DK.DI.SD.Pairwise fun x y=>x.PE<y.PE) (Z:m.TL.length≤1000) (Y:m.DK.NE.length≤100000) (U:E.length≤800000) (hV:V.length≤800000):
  Zl81 m.BK.LA m.BK.SE m.TL f m.KN V m.AK (Z1i1 m) (tupF m.DK m.DK.NE J) E=some (tupN (leaN (telN (graN m))) (E++((telT (graN m)).2++Zuh1 (telN (graN m)))) (V++graV m)):=by
 have no:graB m=m.BK→graV m=[]→Zi81 m.TL f m.KN m.AK (tupF m.DK m.DK.NE J) E (m.BK.LA,m.BK.SE,V)=some (tupN (leaN (telN (graN m))) (E++((telT (graN m)).2++Zuh1 (telN (graN m)))) (V++graV m)):=fun e1 e2=>by
  have e:graN m=m:=by unfold graN;rw [e1]
  rw [e,e2,List.append_nil];exact Z0i1 f m J E V hS hs Z Y U
 dsimp only [Zl81,Zk81];simp only [Zia1];unfold Z1i1;cases hb:m.BK.SE with
 | nil=>rw [Zia1,←hb];exact no (by unfold graB;rw [hb]) (by unfold graV Zth1;rw [hb])
 | cons s l=>
   rw [Zha1];by_cases h0:s.SS=0
   ·rw [DT h0,Zha1];by_cases h2:m.DK.TH=2
    ·rw [show decide ((tupF m.DK m.DK.NE J).2.2.1=2)=true from DT h2,Zha1,←hb,Zzc1 m.BK hB,OB];have eg:Zyc1 m.BK=(⟨m.BK.LA,⟨s.ID,s.NE,1,s.Age⟩::l⟩,s.ID,0):=by unfold Zyc1;rw [hk,if_pos rfl,hb];dsimp only;rw [if_neg (by omega)]
     have e1:graN m=⟨m.DK,⟨m.BK.LA,⟨s.ID,s.NE,1,s.Age⟩::l⟩,m.KN,m.TL,m.AK⟩:=by unfold graN graB;rw [hb];dsimp only;rw [if_pos h0,if_pos h2]
     have e2:graV m=[⟨1,m.DK.DI.ID,s.ID,0,[]⟩]:=by unfold graV Zth1;rw [hb];dsimp only;rw [if_pos h0];dsimp only;rw [if_pos h2]
     rw [eg];dsimp only [Zj81,tupF];rw [Z4h1 _ _ _ _ _ _ _ _ _ _ _ _ _ _ _ (by omega),OB,e1,e2];have:=Z0i1 f ⟨m.DK,⟨m.BK.LA,⟨s.ID,s.NE,1,s.Age⟩::l⟩,m.KN,m.TL,m.AK⟩ J E (V++[⟨1,m.DK.DI.ID,s.ID,0,[]⟩]) hS hs Z Y U;rw [hb];exact this
    ·rw [show decide ((tupF m.DK m.DK.NE J).2.2.1=2)=false from DN h2,Zia1,←hb];exact no (by unfold graB;rw [hb];dsimp only;rw [if_pos h0,if_neg h2]) (by unfold graV Zth1;rw [hb];dsimp only;rw [if_pos h0];dsimp only;rw [if_neg h2])
   ·rw [DN h0,Zia1,←hb];exact no (by unfold graB;rw [hb];dsimp only;rw [if_neg h0]) (by unfold graV Zth1;rw [hb];dsimp only;rw [if_neg h0])
theorem Z3i1 (x:SX) (n:node_node) (h:n.NO.TL.length≤1000):Zn01 x n=some (untB n.NO.TL x):=by simp only [Zn01,Zwn,OB,Z3c1 n.NO.TL x.PE (by omega),Zm01];unfold untB Zkf1;cases decide (x.SS=1)<;>rfl
theorem Z4i1 (n:Nat):∀(d:DK) (out:List ML),((Zye1 n d out).1.DI.SD.map (·.PE))=d.DI.SD.map (·.PE)∧(Zye1 n d out).1.DI.ID=d.DI.ID:=by
 induction n with
 | zero=>intro d out;exact ⟨rfl,rfl⟩
 | succ n ih=>
   intro d out;unfold Zye1;split
   ·exact ⟨rfl,rfl⟩
   ·obtain ⟨i1,i2⟩:=ih (Zde1 d) (out++Zee1 d);refine ⟨i1.trans ?_,i2⟩;show (Zbe1 d).map _=_;unfold Zbe1;rw [List.map_map];have e:((fun x:SX=>x.PE)∘fun x=>bot2 (Z1e1 d x) d.TH x)=fun x:SX=>x.PE:=by funext x;exact (Z3e1 _ _ _).1
    rw [e,Zvd1,List.map_map];show d.DI.SD.map _=_;congr 1;funext x;exact (Zxd1 _ x).1
theorem Z5i1 (d:DK):(Zze1 d).1.DI.SD.map (·.PE)=d.DI.SD.map (·.PE)∧(Zze1 d).1.DI.ID=d.DI.ID∧(Zze1 d).1.NE=d.NE:=⟨(Z4i1 300 d []).1,(Z4i1 300 d []).2,Zbf1 300 d []⟩
theorem Z6i1 {S S':List SX} (h:S'.map (·.PE)=S.map (·.PE)) (hs:S.Pairwise fun x y=>x.PE<y.PE):S'.Pairwise fun x y=>x.PE<y.PE:=by have h1:(S.map (·.PE)).Pairwise (· < ·):=List.pairwise_map.2 hs;rw [←h] at h1;exact List.pairwise_map.1 h1
theorem Z7i1:∀(n:Nat) (d:DK) (out:List ML),(Zye1 n d out).2.length+bits (Zye1 n d out).1.DI.SD=out.length+bits d.DI.SD
 | 0,_,_=>rfl
 | n+1,d,out=>by
   unfold Zye1;split
   ·rfl
   ·have h1:=Z7i1 n (Zde1 d) (out++Zee1 d);have h2:=Zme1 d;rw [List.length_append] at h1;omega
theorem Z8i1 {d:DK} (h:okDr d=true):(Zze1 d).2.length≤256:=by have h1:=Z7i1 300 d [];have h2:=Z3f1 d.DI.SD;have h3:=Zid1 (Zaf1 h);simp only [List.length_nil] at h1;unfold Zze1;omega
theorem Z9i1 (m:NO) (x20:SE×Bool) (h6:x20=Z1i1 m) (E:List ML) (V:List EV) (J:okDr (hunN m).DK=true) (Y:Zjc1 m.BK) (hk:okBk m.BK=true) (hs:m.DK.DI.SD.Pairwise fun x y=>x.PE<y.PE) (U:m.TL.length≤1000) (Z:m.DK.NE.length≤100000) (hE:E.length≤700000) (hV:V.length≤800000):
  Zo81 m.DK.DI.ID m.DK.DI.PH m.BK.LA m.BK.SE m.TL f m.DK.DI.SD m.KN E V m.AK x20 (m.DK.TH,m.DK.NE) =
   some (tupN (leaN (telN (graN (firN (hunN m))))) (E++((Zze1 (hunN m).DK).2++((telT (graN (firN (hunN m)))).2++Zuh1 (telN (graN (firN (hunN m))))))) (V++graV (firN (hunN m)))):=by
 subst h6;have hl:=Zid1 (Zaf1 J);have hl:m.DK.DI.SD.length<64:=hl;have hq:=Z5i1 (hunN m).DK;have h8:(Zze1 (hunN m).DK).1.DI.SD.length=m.DK.DI.SD.length:=by have:=congrArg List.length hq.1;rw [List.length_map,List.length_map] at this;exact this
 have ho:=Z8i1 J;have h9:Zze1 (hunN m).DK=Zze1 ⟨⟨m.DK.DI.ID,hunP m,m.DK.DI.SD⟩,m.DK.TH,m.DK.NE⟩:=rfl;have j5:∀z,z=hunP m→Zm81 m.DK.DI.ID m.BK.LA m.BK.SE m.TL f m.DK.DI.SD m.KN E V m.AK (Z1i1 m) m.DK.TH m.DK.NE z=some (tupN (leaN (telN (graN (firN (hunN m))))) (E++((Zze1 (hunN m).DK).2++((telT (graN (firN (hunN m)))).2++Zuh1 (telN (graN (firN (hunN m))))))) (V++graV (firN (hunN m)))):=fun z hz=>by subst hz;dsimp only [Zm81];have hf:=Zcf1 (hunN m).DK J (by show m.DK.NE.length≤1000000;omega);have hf':Z881 m.DK.DI.ID (hunP m) m.DK.TH m.DK.DI.SD m.DK.NE=some (tupF (Zze1 (hunN m).DK).1 m.DK.NE (Zze1 (hunN m).DK).2):=hf;rw [hf',OB];rw [show (tupF (Zze1 (hunN m).DK).1 m.DK.NE (Zze1 (hunN m).DK).2).2.2.2.2.2.2=(Zze1 (hunN m).DK).2 from rfl,Zna1 _ _ (by omega) (by omega),OB];have hn:(firN (hunN m)).DK.NE=m.DK.NE:=hq.2.2;have:=Z2i1 f (firN (hunN m)) (Zze1 (hunN m).DK).2 (E++(Zze1 (hunN m).DK).2) V Y hk (by show (Zze1 (hunN m).DK).1.DI.SD.length≤1000;omega) (Z6i1 hq.1 hs) U (by rw [hn];exact Z) (by rw [List.length_append];omega) hV;rw [hn,List.append_assoc] at this;exact this
 dsimp only [Zo81,Zn81];rw [Zia1,Zmb1 m.DK.DI.SD _ (untB m.TL) (by omega) (fun x _=>Z3i1 x _ U),OB];unfold hunP at j5;by_cases h0:m.DK.DI.PH=0
 ·rw [DT h0] at j5 ⊢;rw [Zha1];cases hu:m.DK.DI.SD.any (untB m.TL) with
  | true=>rw [hu] at j5;exact j5 1 rfl
  | false=>rw [hu] at j5;exact j5 _ rfl
 ·rw [DN h0] at j5 ⊢;exact j5 _ rfl
theorem Zai1 (a b c d:Int) (B:BK) (O:List Int) (S:List SX) (N:List Int) (K A:List KE) (n:NO) (h:n.BK=B):Z4u a b c d B.SE O S N K A=some (Z1i1 n):=by
 subst h;simp only [Z4u,ln_eq];unfold Z1i1;cases h:n.BK.SE with
 | nil=>rfl
 | cons s l=>rw [DN (by simp;omega),Zia1];rfl
theorem Zbi1 (m:NO) (E:List ML) (V:List EV) (hd:okDr (hunN (thiN m)).DK=true) (U:Zjc1 m.BK) (hk:okBk m.BK=true) (hs:m.DK.DI.SD.Pairwise fun x y=>x.PE<y.PE) (Z:m.TL.length≤1000) (J:m.DK.NE.length≤100000) (h9:∀s∈m.BK.SE,s.NE.length≤100000) (Y:E.length≤700000) (hV:V.length≤800000):
  Zq81 m.DK.DI.ID m.DK.DI.PH m.DK.TH m.BK.LA m.BK.SE m.TL f m.DK.NE (m.DK.DI.SD,m.KN,E,V,m.AK) =
   some (tupN (leaN (telN (graN (firN (hunN (thiN m)))))) (E++((Zze1 (hunN (thiN m)).DK).2++((telT (graN (firN (hunN (thiN m))))).2++Zuh1 (telN (graN (firN (hunN (thiN m)))))))) (V++graV (firN (hunN (thiN m))))):=by
 have h6:(thiN m).DK.DI=m.DK.DI:=by
  show (thiD m).DI=_;unfold thiD;split
  ·split<;>rfl
  ·rfl
 have h8:(thiN m).DK.NE.length≤100000:=by
  show (thiD m).NE.length≤_;unfold thiD;split
  ·rename_i s hw;split
   ·unfold Zth1 at hw;split at hw
    ·simp at hw
    ·rename_i s' l hb;split at hw
     ·simp at hw;subst hw;exact h9 _ (by rw [hb];simp)
     ·simp at hw
   ·exact J
  ·exact J
 have key:=Z9i1 f (thiN m) (Z1i1 m) rfl E V hd U hk (by rw [h6];exact hs) Z h8 Y hV;rw [h6] at key;have fin:∀(p:Int×List Int),p=((thiN m).DK.TH,(thiN m).DK.NE)→Zo81 m.DK.DI.ID m.DK.DI.PH m.BK.LA m.BK.SE m.TL f m.DK.DI.SD m.KN E V m.AK (Z1i1 m) p=some (tupN (leaN (telN (graN (firN (hunN (thiN m)))))) (E++((Zze1 (hunN (thiN m)).DK).2++((telT (graN (firN (hunN (thiN m))))).2++Zuh1 (telN (graN (firN (hunN (thiN m)))))))) (V++graV (firN (hunN (thiN m))))):=fun p hp=>by rw [hp];exact key
 dsimp only [Zq81,Zp81];rw [Zai1 _ _ _ _ m.BK _ _ _ _ _ m rfl,OB];simp only [Zia1];have noT:Zth1 m=none→(m.DK.TH,m.DK.NE)=((thiN m).DK.TH,(thiN m).DK.NE):=fun h=>by
  show _=((thiD m).TH,(thiD m).NE)
  unfold thiD;rw [h]
 cases hb:m.BK.SE with
 | nil=>
   have e:(Z1i1 m).2=false:=by unfold Z1i1;rw [hb]
   rw [e,Zia1,←hb];exact fin _ (noT (by unfold Zth1;rw [hb]))
 | cons s l=>
   have e:Z1i1 m=(s,true):=by unfold Z1i1;rw [hb]
   rw [←hb];rw [show (Z1i1 m).2=true by rw [e],Zha1,show (Z1i1 m).1=s by rw [e]];by_cases h0:s.SS=0
   ·have hw:Zth1 m=some s:=by unfold Zth1;rw [hb];dsimp only;rw [if_pos h0]
    rw [DT h0,Zha1];by_cases h1:m.DK.TH=0
    ·rw [DT h1,Zha1,Zqc1 s.NE (by have:=h9 s (by rw [hb];simp);omega),OB];refine fin _ ?_;show _=((thiD m).TH,(thiD m).NE)
     unfold thiD;rw [hw];dsimp only;rw [if_pos h1]
    ·rw [DN h1,Zia1];refine fin _ ?_;show _=((thiD m).TH,(thiD m).NE)
     unfold thiD;rw [hw];dsimp only;rw [if_neg h1]
   ·rw [DN h0,Zia1];exact fin _ (noT (by unfold Zth1;rw [hb];dsimp only;rw [if_neg h0]))
structure GoN (n:NO):Prop where
 rowS:RowS n.DK.DI.SD
 rowK:RowK n.KN
 ask:AskOK n.DK.DI.SD n.AK
 lenS:n.DK.DI.SD.length+n.AK.length≤1000
 lenK:n.KN.length+n.AK.length≤1000
 dr:okDr (preN n).DK=true
 bk:Zjc1 n.BK
 ok:okBk n.BK=true
 told:n.TL.length≤1000
 need:n.DK.NE.length≤100000
 needs:∀s∈n.BK.SE,s.NE.length≤100000
theorem Zci1 (n:NO) (h:GoN n) (E:List ML) (V:List EV) (J:E.length≤600000) (U:V.length≤600000):
  Zr81 n.DK.DI.ID n.DK.DI.PH n.DK.TH n.BK.LA n.BK.SE n.TL f n.DK.DI.SD n.DK.NE n.KN n.AK E V=some (tupN (Zvh1 n) (E++Zwh1 n) (V++Zxh1 n)):=by
 have hd:=h.dr;have hr:=(Z8h1 h.rowS h.rowK h.ask h.lenS h.lenK [] n.AK (by simp)).1;have hA:=h.lenS;dsimp only [Zr81];unfold Zvh1 Zwh1 Zxh1 midN preN Zrh1 Zsh1;unfold preN at hd;by_cases hp:n.DK.DI.PH=2
 ·have e:ansN n=n:=by unfold ansN;rw [if_pos hp]
  rw [e] at hd ⊢;rw [DT hp,Bool.not_true,Zia1,if_pos hp,if_pos hp];have:=Zbi1 f n E V hd h.bk h.ok h.rowS.up h.told h.need h.needs (by omega) (by omega);simpa using this
 ·have e:ansN n=⟨⟨⟨n.DK.DI.ID,n.DK.DI.PH,ansS n.DK.DI.SD n.AK⟩,n.DK.TH,n.DK.NE⟩,n.BK,ansK n.KN n.AK,n.TL,[]⟩:=by unfold ansN;rw [if_neg hp]
  rw [DN hp,Bool.not_false,Zha1,if_neg hp,if_neg hp];rw [Z9h1 _ _ _ _ _ _ _ _ _ _ _ _ _ h.rowS h.rowK h.ask h.lenS h.lenK (by omega) (by omega),OB];rw [e] at hd ⊢;have:=Zbi1 f ⟨⟨⟨n.DK.DI.ID,n.DK.DI.PH,ansS n.DK.DI.SD n.AK⟩,n.DK.TH,n.DK.NE⟩,n.BK,ansK n.KN n.AK,n.TL,[]⟩ (E++ansM n.DK.DI.ID n.AK) (V++ansV n.DK.DI.ID n.AK) hd h.bk h.ok hr.up h.told h.need h.needs (by rw [List.length_append,ansM,List.length_map];omega) (by rw [List.length_append,ansV,List.length_map];omega);dsimp only at this ⊢;rw [List.append_assoc,List.append_assoc] at this;exact this
end
end NX
end Go.Proofs.YtgamgemlekpepaaGreat
/-
  Plain laws: what always holds of a node. No statement of the seat is proved here.
-/
namespace Go.Proofs.YtgamgemlekpepaaGreat
namespace NX
open Go
structure SideOK (id:Int) (x:SX):Prop where
 lo:0≤x.PE
 ne:x.PE≠id
 e0:0≤x.EP
 e1:x.EP≤65535
 s0:0≤x.SS
 s3:x.SS≤3
 df:x.DY=true→x.FK=true
theorem Zdi1 (id:Int):∀(S:List SX) (q:Int),Zad1 id q S=true↔(S.Pairwise fun x y=>x.PE<y.PE)∧∀x∈S,Z9d1 id q x=true
 | [],q=>by simp [Zad1]
 | x::S,q=>by
   have hx:∀ {y:SX},Z9d1 id q x=true→Z9d1 id x.PE y=true→Z9d1 id q y=true:=by intro y h1 h2;simp only [Z9d1,Bool.and_eq_true,decide_eq_true_eq] at h1 h2 ⊢;exact ⟨by omega,h2.2⟩
   have hy:∀ {y:SX},x.PE<y.PE→Z9d1 id q y=true→Z9d1 id x.PE y=true:=by intro y h1 h2;simp only [Z9d1,Bool.and_eq_true,decide_eq_true_eq] at h2 ⊢;exact ⟨h1,h2.2⟩
   simp only [Zad1,Bool.and_eq_true,Zdi1 id S x.PE,List.pairwise_cons,List.mem_cons,forall_eq_or_imp];constructor
   ·rintro ⟨h1,h2,h3⟩;refine ⟨⟨fun y hy=>?_,h2⟩,h1,fun y hy=>hx h1 (h3 y hy)⟩;have:=h3 y hy;simp only [Z9d1,Bool.and_eq_true,decide_eq_true_eq] at this;exact this.1
   ·rintro ⟨⟨h1,h2⟩,h3,h4⟩;exact ⟨h3,h2,fun y hy'=>hy (h1 y hy') (h4 y hy')⟩
theorem Zei1 (id:Int) (x:SX):Z9d1 id (-1) x=true↔SideOK id x:=by
 simp only [Z9d1,Bool.and_eq_true,decide_eq_true_eq,Bool.not_eq_true',decide_eq_false_iff_not,Bool.and_eq_false_iff,Bool.not_eq_false'];constructor
 ·rintro ⟨h1,h2,h3,h4,h5,h6,h7⟩;refine ⟨by omega,h2,h3,h4,h5,h6,fun h=>?_⟩;rcases h7 with h7 | h7
  ·rw [h] at h7;simp at h7
  ·exact h7
 ·rintro ⟨h1,h2,h3,h4,h5,h6,h7⟩;refine ⟨by omega,h2,h3,h4,h5,h6,?_⟩;cases hd:x.DY with
  | false=>exact .inl rfl
  | true=>exact .inr (h7 hd)
structure DinOK (d:DI):Prop where
 id0:0≤d.ID
 p0:0≤d.PH
 p2:d.PH≤2
 len:d.SD.length<64
 up:d.SD.Pairwise fun x y=>x.PE<y.PE
 side:∀x∈d.SD,SideOK d.ID x
theorem Zfi1 (d:DI):okD d=true↔DinOK d:=by
 simp only [okD,Bool.and_eq_true,decide_eq_true_eq,Zdi1,Zei1];constructor
 ·rintro ⟨h1,h2,h3,h4,h5,h6⟩;exact ⟨h1,h2,h3,h4,h5,h6⟩
 ·rintro ⟨h1,h2,h3,h4,h5,h6⟩;exact ⟨h1,h2,h3,h4,h5,h6⟩
theorem Zgi1:∀(l:List Int) (q:Option Int),okI q l=true↔l.Pairwise (· < ·)∧∀y,q=some y→∀x∈l,y<x
 | [],q=>by simp [okI]
 | x::l,q=>by
   simp only [okI,Bool.and_eq_true,Zgi1 l (some x),List.pairwise_cons,List.mem_cons,forall_eq_or_imp,Option.some.injEq];cases q with
   | none=>
     constructor
     ·rintro ⟨_,h1,h2⟩;exact ⟨⟨h2 x rfl,h1⟩,by simp⟩
     ·rintro ⟨⟨h2,h1⟩,_⟩;exact ⟨rfl,h1,fun y e=>by subst e;exact h2⟩
   | some y=>
     simp only [decide_eq_true_eq];constructor
     ·rintro ⟨h0,h1,h2⟩;exact ⟨⟨h2 x rfl,h1⟩,fun z e=>by simp only [Option.some.injEq] at e;subst e;exact ⟨h0,fun w hw=>Int.lt_trans h0 (h2 x rfl w hw)⟩⟩
     ·rintro ⟨⟨h2,h1⟩,h3⟩;exact ⟨(h3 y rfl).1,h1,fun z e=>by subst e;exact h2⟩
theorem Zhi1:∀(l:List KE) (q:Int),Zsf1 q l=true↔(l.Pairwise fun x y=>x.PE<y.PE)∧∀k∈l,q<k.PE∧k.PE<64∧1≤k.EP∧k.EP≤65535
 | [],q=>by simp [Zsf1]
 | x::l,q=>by
   simp only [Zsf1,Bool.and_eq_true,decide_eq_true_eq,Zhi1 l x.PE,List.pairwise_cons,List.mem_cons,forall_eq_or_imp];constructor
   ·rintro ⟨⟨h1,h2,h3,h4⟩,h5,h6⟩;exact ⟨⟨fun y hy=>(h6 y hy).1,h5⟩,⟨h1,h2,h3,h4⟩,fun y hy=>⟨Int.lt_trans h1 (h6 y hy).1,(h6 y hy).2⟩⟩
   ·rintro ⟨⟨h1,h2⟩,⟨h3,h4,h5,h6⟩,h7⟩;exact ⟨⟨h3,h4,h5,h6⟩,h2,fun y hy=>⟨h1 y hy,(h7 y hy).2⟩⟩
structure DrOK (d:DK):Prop where
 din:DinOK d.DI
 t0:0≤d.TH
 t2:d.TH≤2
 up:d.NE.Pairwise (· < ·)
 nz:d.TH=0→d.NE=[]
 has:∀p∈d.NE,∃x∈d.DI.SD,x.PE=p
theorem Zii1 (d:DI) (p:Int):Z7f1 d p=true↔∃x∈d.SD,x.PE=p:=by unfold Z7f1;rw [List.any_eq_true];simp
theorem Zji1 (d:DK):okDr d=true↔DrOK d:=by
 unfold okDr;simp only [Bool.and_eq_true,decide_eq_true_eq,Zfi1,Zgi1,List.all_eq_true,Zii1,Bool.not_eq_true',Bool.and_eq_false_iff,decide_eq_false_iff_not];constructor
 ·rintro ⟨h1,h2,h3,h4,h5,h6⟩;refine ⟨h1,h2,h3,h4.1,fun h=>?_,h6⟩;rcases h5 with h5 | h5
  ·exact absurd h h5
  ·exact List.eq_nil_of_length_eq_zero (by omega)
 ·rintro ⟨h1,h2,h3,h4,h5,h6⟩;refine ⟨h1,h2,h3,⟨h4,by simp⟩,?_,h6⟩;by_cases h:d.TH=0
  ·right;rw [h5 h];simp
  ·left;exact h
structure OkN (n:NO):Prop where
 dr:DrOK n.DK
 bk:okBk n.BK=true
 may:∀k∈n.AK,(∀x∈n.DK.DI.SD,x.PE≠k.PE)∧0≤k.PE∧k.PE<n.DK.DI.ID∧Znf1 n.KN k.PE<k.EP∧k.EP≤65535
 dis:(n.AK.map (·.PE)).Nodup
 id:n.DK.DI.ID<64
 kup:n.KN.Pairwise fun x y=>x.PE<y.PE
 kr:∀k∈n.KN,0≤k.PE∧k.PE<64∧1≤k.EP∧k.EP≤65535
 sd:∀x∈n.DK.DI.SD,x.PE<64∧1≤x.EP∧Znf1 n.KN x.PE=x.EP∧(x.SS=1∨x.SS=3→n.DK.DI.ID≤x.PE)
 told:n.TL.Pairwise (· < ·)
 tin:∀p∈n.TL,∃x∈n.DK.DI.SD,x.SS=1∧x.PE=p
 th:n.DK.TH=2↔Z4g1 n=true
 hq:n.DK.TH=0∨Z5g1 n=true
 nl:∀x∈n.DK.DI.SD,x.PE∈n.DK.NE→x.SS≠3
 wt:∀s∈n.BK.SE,s.SS=0→∀p∈s.NE,∃x∈n.DK.DI.SD,x.SS=0∧x.PE=p
theorem Zki1 (n:NO) (k:KE):mayB n k=true↔(∀x∈n.DK.DI.SD,x.PE≠k.PE)∧0≤k.PE∧k.PE<n.DK.DI.ID∧Znf1 n.KN k.PE<k.EP∧k.EP≤65535:=by unfold mayB;simp only [Bool.and_eq_true,decide_eq_true_eq,Bool.not_eq_true',List.any_eq_false]
theorem Zli1 (n:NO) (x:SX):Zwf1 n x=true↔x.PE<64∧1≤x.EP∧Znf1 n.KN x.PE=x.EP∧(x.SS=1∨x.SS=3→n.DK.DI.ID≤x.PE):=by
 unfold Zwf1;simp only [Bool.and_eq_true,decide_eq_true_eq,Bool.not_eq_true',Bool.and_eq_false_iff,Bool.or_eq_false_iff,decide_eq_false_iff_not];constructor
 ·rintro ⟨h1,h2,h3,h4⟩;exact ⟨h1,h2,h3,fun h=>by omega⟩
 ·rintro ⟨h1,h2,h3,h4⟩;exact ⟨h1,h2,h3,by omega⟩
theorem Zmi1 (n:NO) (q:SX→Bool) (p:Int):p∈Zhf1 n q↔∃x∈n.DK.DI.SD,q x=true∧x.PE=p:=by
 unfold Zhf1;simp only [List.mem_map,List.mem_filter];constructor
 ·rintro ⟨x,⟨h1,h2⟩,h3⟩;exact ⟨x,h1,h2,h3⟩
 ·rintro ⟨x,h1,h2,h3⟩;exact ⟨x,⟨h1,h2⟩,h3⟩
theorem Zni1 (n:NO) (s:SE):Z6g1 n s=true↔(s.SS=0→∀p∈s.NE,∃x∈n.DK.DI.SD,x.SS=0∧x.PE=p):=by
 unfold Z6g1;simp only [Bool.not_eq_true',Bool.and_eq_false_iff,decide_eq_false_iff_not,Bool.not_eq_false',List.all_eq_true,decide_eq_true_eq,Zmi1,Zjf1];constructor
 ·rintro (h | h)
  ·exact fun e=>absurd e h
  ·exact fun _=>h
 ·intro h;by_cases e:s.SS=0
  ·exact .inr (h e)
  ·exact .inl e
theorem Zoi1 (n:NO):okN n=true↔OkN n:=by
 unfold okN Zzf1 Zyf1 Z7g1 Zqf1;simp only [Bool.and_eq_true,Zji1,List.all_eq_true,Zki1,decide_eq_true_eq,Zhi1,Zli1,Zgi1,Zmi1,Zkf1,Zlf1,Bool.or_eq_true,beq_iff_eq,Bool.not_eq_true',List.any_eq_false,Zni1];constructor
 ·rintro ⟨h1,h2,⟨h3,h4,h5,h6,h7,h8,h9⟩,hc,hd,hf,ho⟩;exact ⟨h1,h2,h3,h4,h5,h6.1,fun k hk=>by have:=h6.2 k hk;omega,h7,h8.1,h9,by rw [←hc];simp,hd,fun x hx hn e=>hf x.PE hn ⟨x,hx,e,rfl⟩,ho⟩
 ·rintro ⟨h1,h2,h3,h4,h5,h6,h6',h7,h8,h9,hc,hd,hf,ho⟩;refine ⟨h1,h2,⟨h3,h4,h5,⟨h6,fun k hk=>by have:=h6' k hk;omega⟩,h7,⟨h8,by simp⟩,h9⟩,?_,hd,?_,ho⟩
  ·rw [Bool.eq_iff_iff];simpa using hc
  ·rintro p hp ⟨x,hx,e,rfl⟩;exact hf x hx hp e
structure SessOK (top last:Int) (s:SE):Prop where
 lo:last<s.ID
 hi:s.ID≤top
 nb:Zgc1 s.NE=true
 up:s.NE.Pairwise (· < ·)
 age:0≤s.Age
 st:s.SS=1∨s.SS=0∧s.Age=0
theorem Zpi1 (top:Int):∀(l:List SE) (last:Int) (first:Bool),Zic1 top last first l=true↔(l.Pairwise fun x y=>x.ID<y.ID)∧(∀s∈l,SessOK top last s)∧∀s∈(if first then l.tail else l),s.SS=0
 | [],_,_=>by simp [Zic1]
 | x::l,last,first=>by
   have e:Zhc1 last top first x=true↔SessOK top last x∧(first=false→x.SS=0):=by
    unfold Zhc1;simp only [Bool.and_eq_true,decide_eq_true_eq,Bool.or_eq_true];constructor
    ·rintro ⟨h1,h2,h3,h4,h5,h6⟩;refine ⟨⟨h1,h2,h3,h4,h5,?_⟩,fun hf=>?_⟩
     ·rcases h6 with h | h
      ·exact .inl h.1
      ·exact .inr h
     ·rcases h6 with h | h
      ·rw [hf] at h;simp at h
      ·exact h.1
    ·rintro ⟨⟨h1,h2,h3,h4,h5,h6⟩,h7⟩;refine ⟨h1,h2,h3,h4,h5,?_⟩;rcases h6 with h | h
     ·cases first with
      | true=>exact .inl ⟨h,rfl⟩
      | false=>have:=h7 rfl;omega
     ·exact .inr h
   simp only [Zic1,Bool.and_eq_true,e,Zpi1 top l x.ID false,List.pairwise_cons,List.mem_cons,forall_eq_or_imp];constructor
   ·rintro ⟨⟨h1,h2⟩,h3,h4,h5⟩;have h5:∀s∈l,s.SS=0:=h5;refine ⟨⟨fun y hy=>(h4 y hy).lo,h3⟩,⟨h1,fun y hy=>?_⟩,?_⟩
    ·have:=h4 y hy;exact {this with lo:=Int.lt_trans h1.lo this.lo}
    ·cases first with
     | true=>exact h5
     | false=>
       intro s hs;rcases List.mem_cons.1 hs with rfl | hs
       ·exact h2 rfl
       ·exact h5 s hs
   ·rintro ⟨⟨h1,h2⟩,⟨h3,h4⟩,h5⟩;refine ⟨⟨h3,fun hf=>?_⟩,h2,fun y hy=> {h4 y hy with lo:=h1 y hy},?_⟩
    ·subst hf;exact h5 x (by simp)
    ·cases first with
     | true=>exact h5
     | false=>exact fun s hs=>h5 s (List.mem_cons_of_mem _ hs)
structure BkOK (b:BK):Prop where
 last:0≤b.LA
 len:b.SE.length≤8
 up:b.SE.Pairwise fun x y=>x.ID<y.ID
 ok:∀s∈b.SE,SessOK b.LA 0 s
 tl:∀s∈b.SE.tail,s.SS=0
theorem Zqi1 (b:BK):okBk b=true↔BkOK b:=by
 unfold okBk;simp only [Bool.and_eq_true,decide_eq_true_eq,Zpi1];constructor
 ·rintro ⟨h1,h2,h3,h4,h5⟩;exact ⟨h1,h2,h3,h4,h5⟩
 ·rintro ⟨h1,h2,h3,h4,h5⟩;exact ⟨h1,h2,h3,h4,h5⟩
theorem Zri1 {l:List Int} (h:Zgc1 l=true):l.length≤64:=by unfold Zgc1 at h;rw [Bool.and_eq_true,decide_eq_true_eq] at h;exact h.1
theorem BkOK.few {b:BK} (h:BkOK b):Zjc1 b:=⟨by have:=h.len;omega,fun s hs=>by have:=Zri1 (h.ok s hs).nb;omega⟩
theorem Zsi1 {l:List Int} (h:l.Pairwise (· < ·)) {n:Int} (J:0≤n) (hr:∀x∈l,0≤x∧x<n):(l.length:Int)≤n:=by
 rcases Z6c1 l 0 n h hr with rfl | h
 ·simpa using J
 ·omega
theorem Zti1 {l:List Int} (h:l.Pairwise (· < ·)) {n id:Int} (hi:0≤id∧id<n) (hr:∀x∈l,0≤x∧x<n∧x≠id):(l.length:Int)<n:=by
 have h1:(l.take (cntB l (fun x=>x) id)++id::l.drop (cntB l (fun x=>x) id)).Pairwise fun x y=>x<y:=Zrg1 (key:=fun x:Int=>x) (p:=id) h rfl fun y hy=>(hr y hy).2.2;have h2:=Zsi1 h1 (n:=n) (by omega) fun x hx=>by
  rw [List.mem_append,List.mem_cons] at hx;rcases hx with hx | rfl | hx
  ·have:=hr x (List.mem_of_mem_take hx);omega
  ·omega
  ·have:=hr x (List.mem_of_mem_drop hx);omega
 rw [List.length_append,List.length_cons] at h2;have h3:l.length=(l.take (cntB l (fun x=>x) id)).length+(l.drop (cntB l (fun x=>x) id)).length:=by rw [←List.length_append,List.take_append_drop]
 omega
theorem OkN.peer0 {n:NO} (h:OkN n) {x:SX} (hx:x∈n.DK.DI.SD):0≤x.PE∧x.PE<64∧x.PE≠n.DK.DI.ID:=⟨(h.dr.din.side x hx).lo,(h.sd x hx).1,(h.dr.din.side x hx).ne⟩
theorem OkN.needL {n:NO} (h:OkN n):n.DK.NE.length≤64:=by
 have:=Zsi1 h.dr.up (n:=64) (by omega) fun p hp=>by obtain ⟨x,hx,rfl⟩:=h.dr.has p hp;have:=h.peer0 hx;omega
 omega
theorem OkN.toldL {n:NO} (h:OkN n):n.TL.length≤64:=by
 have:=Zsi1 h.told (n:=64) (by omega) fun p hp=>by obtain ⟨x,hx,_,rfl⟩:=h.tin p hp;have:=h.peer0 hx;omega
 omega
theorem OkN.knownL {n:NO} (h:OkN n):n.KN.length≤64:=by
 have:=Zsi1 (l:=n.KN.map (·.PE)) (List.pairwise_map.2 h.kup) (n:=64) (by omega) fun p hp=>by obtain ⟨k,hk,rfl⟩:=List.mem_map.1 hp;have:=h.kr k hk;omega
 rw [List.length_map] at this;omega
theorem Zui1 {l:List Int} (h:l.Nodup) {n:Nat} (hr:∀x∈l,0≤x∧x<(n:Int)):l.length≤n:=by
 have hs:=Z5c1 l;have h1:∀(a b:List Int),a.Nodup→(∀x∈a,x∈b)→a.length≤b.length:=by
  intro a;induction a with
  | nil=>intro b _ _;simp
  | cons x a ih=>intro b ha hb;rw [List.nodup_cons] at ha;have h6:=hb x (by simp);have:=ih (b.erase x) ha.2 fun y hy=>(List.mem_erase_of_ne (fun e=>ha.1 (by rw [←e];exact hy))).2 (hb y (List.mem_cons_of_mem _ hy));rw [List.length_erase_of_mem h6] at this;have:=List.length_pos_of_mem h6;simp only [List.length_cons];omega
 have h2:=h1 l (setL l) h fun x hx=>(hs.2 x).2 hx;have h3:=Zsi1 hs.1 (n:=n) (by omega) fun x hx=>hr x ((hs.2 x).1 hx);omega
theorem OkN.askedL {n:NO} (h:OkN n):n.AK.length≤64:=by
 have:=Zui1 h.dis (n:=64) fun p hp=>by obtain ⟨k,hk,rfl⟩:=List.mem_map.1 hp;have:=h.may k hk;have:=h.id;omega
 rw [List.length_map] at this;exact this
theorem OkN.few {n:NO} (h:OkN n):FewN n:=by have h1:=h.needL;have h2:=h.toldL;have h3:=h.knownL;have h4:=h.askedL;have h5:=h.dr.din.len;have h6:=(Zqi1 _).1 h.bk;have h7:=h6.len;exact ⟨by omega,by omega,by omega,fun s hs=>by have:=Zri1 (h6.ok s hs).nb;omega,by omega,by omega,by omega⟩
theorem OkN.rowS {n:NO} (h:OkN n):RowS n.DK.DI.SD:=⟨by have:=h.dr.din.len;omega,h.dr.din.up,fun x hx=>by have:=h.peer0 hx;omega⟩
theorem OkN.rowK {n:NO} (h:OkN n):RowK n.KN:=⟨by have:=h.knownL;omega,h.kup,fun k hk=>by have:=h.kr k hk;omega⟩
theorem Zvi1 {K:List KE} (hu:K.Pairwise fun x y=>x.PE<y.PE) (h:∀k∈K,1≤k.EP∧k.EP≤65535) (p:Int):0≤Znf1 K p∧Znf1 K p≤65535:=by
 by_cases hx:∃k∈K,k.PE=p
 ·obtain ⟨k,hk,rfl⟩:=hx;rw [Zzg1 hu hk];have:=h k hk;omega
 ·rw [Z0h1 fun k hk e=>hx ⟨k,hk,e⟩];omega
theorem Zwi1 {S:List SX} (h:S.Pairwise fun x y=>x.PE<y.PE) {x y:SX} (hx:x∈S) (hy:y∈S) (e:x.PE=y.PE):x=y:=by
 induction S with
 | nil=>simp at hx
 | cons z S ih=>
   rw [List.pairwise_cons] at h;rcases List.mem_cons.1 hx with hx1 | hx1<;>rcases List.mem_cons.1 hy with hy1 | hy1
   ·rw [hx1,hy1]
   ·have:=h.1 y hy1;rw [←hx1] at this;omega
   ·have:=h.1 x hx1;rw [←hy1] at this;omega
   ·exact ih h.2 hx1 hy1
def putN (n:NO) (x:SX) (A:List KE):NO:=⟨⟨⟨n.DK.DI.ID,n.DK.DI.PH,putS n.DK.DI.SD x⟩,n.DK.TH,n.DK.NE⟩,n.BK,Zgg1 n.KN x.PE x.EP,n.TL,A⟩
theorem OkN.put {n:NO} (h:OkN n) {x:SX} {A:List KE} (hp:0≤x.PE∧x.PE<64∧x.PE≠n.DK.DI.ID) (J:∀y∈n.DK.DI.SD,y.PE≠x.PE) (he:1≤x.EP∧x.EP≤65535)
  (hs:x.SS=0∨x.SS=1∧n.DK.DI.ID≤x.PE) (Y:x.DY=true→x.FK=true) (U:∀k∈A,k∈n.AK∧k.PE≠x.PE) (hc:(A.map (·.PE)).Nodup):OkN (putN n x A):=by
 have h8:=h.id;have h6:=h.dr.din;have h9:(putS n.DK.DI.SD x).Pairwise fun x y=>x.PE<y.PE:=Zrg1 h.rowS.up rfl J;refine ⟨⟨⟨h6.id0,h6.p0,h6.p2,?_,h9,fun y hy=>?_⟩,h.dr.t0,h.dr.t2,h.dr.up,h.dr.nz,fun p hp=>?_⟩,h.bk,fun k hk=>?_,hc,h8,Zxg1 h.kup _ _,fun k hk=>?_,fun y hy=>?_,h.told,fun p hp=>?_,h.th,h.hq,fun y hy hf=>?_,fun s hs' h0 p hp=>?_⟩
 ·have:=Zti1 (l:=(putS n.DK.DI.SD x).map (·.PE)) (List.pairwise_map.2 h9) (n:=64) (id:=n.DK.DI.ID) ⟨h6.id0,h8⟩ fun p hp'=>by
   obtain ⟨y,hy,rfl⟩:=List.mem_map.1 hp';rcases Zsg1.1 hy with rfl | hy
   ·exact hp
   ·exact h.peer0 hy
  rw [List.length_map] at this;show (putS n.DK.DI.SD x).length<64;omega
 ·rcases Zsg1.1 hy with rfl | hy
  ·exact ⟨hp.1,hp.2.2,by omega,he.2,by omega,by omega,Y⟩
  ·exact h6.side y hy
 ·obtain ⟨y,hy,e⟩:=h.dr.has p hp;exact ⟨y,Zsg1.2 (.inr hy),e⟩
 ·obtain ⟨hk,hne⟩:=U k hk;have hm:=h.may k hk;refine ⟨fun y hy=>?_,hm.2.1,hm.2.2.1,?_,hm.2.2.2.2⟩
  ·rcases Zsg1.1 hy with rfl | hy
   ·exact fun e=>hne e.symm
   ·exact hm.1 y hy
  ·show Znf1 (Zgg1 n.KN x.PE x.EP) k.PE<k.EP;rw [Z1h1 h.kup,if_neg hne];exact hm.2.2.2.1
 ·rcases Zvg1 h.kup hk with rfl | ⟨hk,_⟩
  ·exact ⟨hp.1,hp.2.1,he⟩
  ·exact h.kr k hk
 ·show y.PE<64∧1≤y.EP∧Znf1 (Zgg1 n.KN x.PE x.EP) y.PE=y.EP∧(y.SS=1∨y.SS=3→n.DK.DI.ID≤y.PE)
  rw [Z1h1 h.kup];rcases Zsg1.1 hy with rfl | hy
  ·exact ⟨hp.2.1,he.1,if_pos rfl,fun _=>by omega⟩
  ·rw [if_neg (J y hy)];exact h.sd y hy
 ·obtain ⟨y,hy,e⟩:=h.tin p hp;exact ⟨y,Zsg1.2 (.inr hy),e⟩
 ·rcases Zsg1.1 hy with rfl | hy
  ·omega
  ·exact h.nl y hy hf
 ·obtain ⟨y,hy,e⟩:=h.wt s hs' h0 p hp;exact ⟨y,Zsg1.2 (.inr hy),e⟩
theorem OkN.ans1:∀(A:List KE) (n:NO),OkN n→n.AK=A→OkN ⟨⟨⟨n.DK.DI.ID,n.DK.DI.PH,ansS n.DK.DI.SD A⟩,n.DK.TH,n.DK.NE⟩,n.BK,ansK n.KN A,n.TL,[]⟩
 | [],n,h,e=>by obtain ⟨d,b,k,t,a⟩:=n;dsimp only at e;subst e;exact h
 | k::A,n,h,e=>by have hm:=h.may k (by rw [e];simp);have hd:=h.dis;rw [e,List.map_cons,List.nodup_cons] at hd;have h6:=h.id;have h0:=Zvi1 h.kup (fun k hk=>(h.kr k hk).2.2) k.PE;have h1:OkN (putN n (newS k) A):=h.put (x:=newS k) ⟨hm.2.1,by show k.PE<64;omega,by show k.PE≠_;omega⟩ hm.1 ⟨by show 1≤k.EP;omega,hm.2.2.2.2⟩ (.inl rfl) (by simp [newS]) (fun q hq=>⟨by rw [e];simp [hq],fun eq=>hd.1 (List.mem_map.2 ⟨q,hq,eq⟩)⟩) hd.2;exact OkN.ans1 A (putN n (newS k) A) h1 rfl
theorem OkN.ans {n:NO} (h:OkN n):OkN (ansN n):=by
 unfold ansN;split
 ·exact h
 ·exact OkN.ans1 n.AK n h rfl
theorem Zxi1 {n:NO} (h:BkOK n.BK) {s:SE} {l:List SE} (hb:n.BK.SE=s::l):s.SS=1∨s.SS=0:=by have:=(h.ok s (by rw [hb];simp)).st;omega
theorem Zyi1 {n:NO} {s:SE} (h:Zth1 n=some s):∃l,n.BK.SE=s::l∧s.SS=0:=by
 unfold Zth1 at h;split at h
 ·simp at h
 ·rename_i s' l hb;split at h
  ·simp at h;subst h;exact ⟨l,hb,by assumption⟩
  ·simp at h
theorem OkN.thi {n:NO} (h:OkN n):OkN (thiN n):=by
 unfold thiN thiD;cases hw:Zth1 n with
 | none=>exact h
 | some s=>
   dsimp only;split
   ·rename_i h0;obtain ⟨l,hb,hs⟩:=Zyi1 hw;have h6:=(Zqi1 _).1 h.bk;have hm:s∈n.BK.SE:=by rw [hb];simp
    have hok:=h6.ok s hm;have hl:=h.wt s hm hs;refine {h with dr:=⟨h.dr.din,by show (0:Int)≤1;omega,by show (1:Int)≤2;omega,hok.up,fun e=>by simp at e,fun p hp=>?_⟩,th:=?_,hq:=.inr ?_,nl:=fun x hx hn e3=>?_}
    ·obtain ⟨x,hx,_,e⟩:=hl p hp;exact ⟨x,hx,e⟩
    ·have:Z4g1 n=false:=by unfold Z4g1;rw [hb];simp [hs]
     show (1:Int)=2↔Z4g1 n=true;rw [this];simp
    ·show (match n.BK.SE with | []=>false | s'::_=>decide (s'.NE=s.NE))=true;rw [hb];simp
    ·obtain ⟨y,hy,h8,e⟩:=hl x.PE hn;have:=Zwi1 h.rowS.up hx hy e.symm;subst this;omega
   ·exact h
theorem Zzi1 {n:NO} (h:OkN n):0≤hunP n∧hunP n≤2:=by have h0:=h.dr.din.p0;have h2:=h.dr.din.p2;unfold hunP;split<;>omega
theorem OkN.hun {n:NO} (h:OkN n):OkN (hunN n):=by have hp:=Zzi1 h;exact {h with dr:= {h.dr with din:= {h.dr.din with p0:=hp.1,p2:=hp.2}}}
theorem OkN.pre {n:NO} (h:OkN n):OkN (preN n):=h.ans.thi.hun
theorem OkN.go {n:NO} (h:OkN n):GoN n:=by have h1:=h.dr.din.len;have h2:=h.askedL;have h3:=h.knownL;have h4:=(Zqi1 _).1 h.bk;have h5:=h.toldL;have h6:=h.needL;have h8:=h.id;exact ⟨h.rowS,h.rowK,⟨fun k hk=>by have:=h.may k hk;omega,fun k hk=>(h.may k hk).1,h.dis⟩,by omega,by omega,(Zji1 _).2 h.pre.dr,h4.few,h.bk,by omega,by omega,fun s hs=>by have:=Zri1 (h4.ok s hs).nb;omega⟩
def Z0j1 (x:SX):Int×Int×Int:=(x.PE,x.EP,x.SS)
def Z1j1 (d:DK) (x:SX):SX:=bot2 (Z1e1 d x) d.TH (Zud1 (Zae1 d) x)
theorem Z2j1 (d:DK):(Zde1 d).DI.SD=d.DI.SD.map (Z1j1 d):=by show Zbe1 d=_;unfold Zbe1;rw [Zvd1,List.map_map];refine List.map_congr_left fun x _=>?_;show bot2 (Z1e1 d (Zud1 (Zae1 d) x)) d.TH _=bot2 (Z1e1 d x) d.TH _;rw [show Z1e1 d (Zud1 (Zae1 d) x)=Z1e1 d x by unfold Z1e1;rw [(Zxd1 (Zae1 d) x).1]]
theorem Z3j1 (d:DK) (x:SX):Z0j1 (Z1j1 d x)=Z0j1 x:=by obtain ⟨p1,p2,p3,_⟩:=Z3e1 (Z1e1 d x) d.TH (Zud1 (Zae1 d) x);obtain ⟨q1,q2,q3,_⟩:=Zxd1 (Zae1 d) x;unfold Z0j1 Z1j1;rw [p1,p2,p3,q1,q2,q3]
theorem Z4j1 (d:DK):Zce1 d=d.TH∨d.TH=1∧Zce1 d=2∧∀x∈(Zde1 d).DI.SD,x.PE∈d.NE→x.BO=true:=by
 unfold Zce1;cases hh:decide (d.TH=1)&&(Zbe1 d).all (fun x=>!Z1e1 d x||x.BO) with
 | false=>left;rfl
 | true=>right;rw [Bool.and_eq_true,decide_eq_true_eq,List.all_eq_true] at hh;refine ⟨hh.1,rfl,fun x hx hn=>?_⟩;have:=hh.2 x hx;unfold Z1e1 at this;simpa [hn] using this
structure FireR (a b:DK):Prop where
 id:b.DI.ID=a.DI.ID
 need:b.NE=a.NE
 core:b.DI.SD.map Z0j1=a.DI.SD.map Z0j1
 th:b.TH=a.TH∨a.TH=1∧b.TH=2
theorem FireR.refl (a:DK):FireR a a:=⟨rfl,rfl,rfl,.inl rfl⟩
theorem FireR.once {a b:DK} (h:FireR a b):FireR a (Zde1 b):=by
 refine ⟨h.id,h.need,?_,?_⟩
 ·rw [Z2j1,List.map_map,←h.core];exact List.map_congr_left fun x _=>Z3j1 b x
 ·show Zce1 b=a.TH∨a.TH=1∧Zce1 b=2;have:=h.th;rcases Z4j1 b with e | ⟨e1,e2,_⟩
  ·rw [e];exact this
  ·omega
theorem Z5j1 {P:DK→Prop} (hs:∀d,P d→P (Zde1 d)):∀(n:Nat) (d:DK) (out:List ML),P d→P (Zye1 n d out).1
 | 0,_,_,h=>h
 | n+1,d,out,h=>by
   unfold Zye1;split
   ·exact h
   ·exact Z5j1 hs n _ _ (hs d h)
theorem Z6j1 (d:DK):FireR d (Zze1 d).1:=Z5j1 (P:=FireR d) (fun _ h=>h.once) 300 d [] (FireR.refl d)
theorem Z7j1 {S S':List SX} (h:S'.map Z0j1=S.map Z0j1) {x:SX} (hx:x∈S'):∃y∈S,y.PE=x.PE∧y.EP=x.EP∧y.SS=x.SS:=by
 have:Z0j1 x∈S.map Z0j1:=by rw [←h];exact List.mem_map_of_mem hx
 obtain ⟨y,hy,e⟩:=List.mem_map.1 this;unfold Z0j1 at e;simp only [Prod.mk.injEq] at e;exact ⟨y,hy,e⟩
theorem Z8j1 {S S':List SX} (h:S'.map Z0j1=S.map Z0j1):S'.map (·.PE)=S.map (·.PE):=by have:=congrArg (List.map fun c:Int×Int×Int=>c.1) h;rw [List.map_map,List.map_map] at this;exact this
theorem Z9j1:∀(n:Nat) (d:DK) (out:List ML),okD d.DI=true→mu d<n→Zde1 (Zye1 n d out).1=(Zye1 n d out).1
 | 0,_,_,_,h=>by omega
 | n+1,d,out,hk,h=>by
   have hp:=Z5f1 hk;unfold Zye1;by_cases hq:Zde1 d=d
   ·rw [if_pos hq];exact hq
   ·rw [if_neg hq];rcases Zse1 hp.1 hp.2 with h1 | h1
    ·exact absurd h1.1 hq
    ·exact Z9j1 n (Zde1 d) _ (Zxe1 hk) (by omega)
theorem Zaj1 {d:DK} (h:okD d.DI=true):Zde1 (Zze1 d).1=(Zze1 d).1:=Z9j1 300 d [] h (by have:=Z4f1 h;omega)
theorem Zbj1 {d:DK} (h:Zde1 d=d):Zze1 d=(d,[]):=by unfold Zze1 Zye1;rw [if_pos h]
theorem DrOK.once {d:DK} (h:DrOK d):DrOK (Zde1 d):=by have hk:=(Zfi1 _).1 (Zxe1 ((Zfi1 _).2 h.din));have hr:=(FireR.refl d).once;have ht:=hr.th;have h0:=h.t0;have h2:=h.t2;refine ⟨hk,by omega,by omega,h.up,fun e=>h.nz (by omega),fun p hp=>?_⟩;obtain ⟨x,hx,e⟩:=h.has p hp;obtain ⟨y,hy,e1,_⟩:=Z7j1 hr.core.symm hx;exact ⟨y,hy,by omega⟩
theorem DrOK.fire {d:DK} (h:DrOK d):DrOK (Zze1 d).1:=Z5j1 (P:=DrOK) (fun _ h=>h.once) 300 d [] h
def busy (d:DK):Prop:=d.DI.PH≠0∧∃x∈d.DI.SD,x.SS=1
theorem Zcj1 {d:DK} (h:busy d):busy (Zde1 d):=by
 obtain ⟨h0,x,hx,h1⟩:=h;refine ⟨?_,?_⟩
 ·show (Znd1 (Zae1 d)).PH≠0;have hp:Z9e1 d≠0:=by unfold Z9e1;have:d.DI.SD.any (fun x=>decide (x.SS=1))=true:=List.any_eq_true.2 ⟨x,hx,by simpa using h1⟩;rw [this,DN h0];simp [h0]
  rcases Zne1 (Zae1 d) with ⟨e,_⟩ | ⟨_,e⟩
  ·rw [e];exact hp
  ·rw [e];omega
 ·obtain ⟨y,hy,_,_,e⟩:=Z7j1 ((FireR.refl d).once).core.symm hx;exact ⟨y,hy,by omega⟩
theorem Zdj1 {d:DK} (h:busy d):busy (Zze1 d).1:=Z5j1 (P:=busy) (fun _ h=>Zcj1 h) 300 d [] h
def eats (d:DK):Prop:=d.DI.PH=2∧∃x∈d.DI.SD,x.SS=1
theorem Zej1 {d:DK} (h:eats d):eats (Zde1 d):=by
 obtain ⟨h0,x,hx,h1⟩:=h;refine ⟨?_,?_⟩
 ·show (Znd1 (Zae1 d)).PH=2;have hp:Z9e1 d=2:=by unfold Z9e1;have:d.DI.SD.any (fun x=>decide (x.SS=1))=true:=List.any_eq_true.2 ⟨x,hx,by simpa using h1⟩;rw [this,h0];simp
  rcases Zne1 (Zae1 d) with ⟨e,_⟩ | ⟨_,e⟩
  ·rw [e];exact hp
  ·exact e
 ·obtain ⟨y,hy,_,_,e⟩:=Z7j1 ((FireR.refl d).once).core.symm hx;exact ⟨y,hy,by omega⟩
theorem Zfj1 {d:DK} (h:eats d):eats (Zze1 d).1:=Z5j1 (P:=eats) (fun _ h=>Zej1 h) 300 d [] h
def Zgj1 (id:Int) (S:List SX) (m:ML):Prop:=m.From=id∧(∃x∈S,x.PE=m.To)∧m.Msg.Num=0
theorem Zhj1 {id:Int} {nd:Bool} {th:Int} {x:SX} {m:ML} (h:m∈botM id nd th x):m.From=id∧m.To=x.PE∧m.Msg.Num=0:=by
 unfold botM at h;rw [List.mem_append] at h;rcases h with h | h
 ·split at h
  ·simp at h;subst h;exact ⟨rfl,rfl,rfl⟩
  ·simp at h
 ·split at h
  ·simp at h;subst h;exact ⟨rfl,rfl,rfl⟩
  ·simp at h
theorem Zij1 {d:DK} {m:ML} (h:m∈Zee1 d):Zgj1 d.DI.ID d.DI.SD m:=by
 unfold Zee1 at h;rw [List.mem_append] at h;rcases h with h | h
 ·unfold Zod1 at h;obtain ⟨x,hx,hm⟩:=List.mem_flatMap.1 h;obtain ⟨h1,h2,_,_,h3⟩:=Ztd1 hm;exact ⟨h1,⟨x,hx,h2.symm⟩,h3⟩
 ·obtain ⟨x,hx,hm⟩:=List.mem_flatMap.1 h;obtain ⟨h1,h2,h3⟩:=Zhj1 hm;rw [Zvd1] at hx;obtain ⟨y,hy,rfl⟩:=List.mem_map.1 hx;exact ⟨h1,⟨y,hy,by rw [h2,(Zxd1 (Zae1 d) y).1]⟩,h3⟩
theorem Zjj1 {id:Int} {S:List SX}:∀(n:Nat) (d:DK) (out:List ML),d.DI.ID=id→d.DI.SD.map Z0j1=S.map Z0j1→(∀m∈out,Zgj1 id S m)→∀m∈(Zye1 n d out).2,Zgj1 id S m
 | 0,_,_,_,_,h=>h
 | n+1,d,out,h1,h2,h=>by
   unfold Zye1;split
   ·exact h
   ·refine Zjj1 n (Zde1 d) _ h1 ?_ fun m hm=>?_
    ·rw [Z2j1,List.map_map,←h2];exact List.map_congr_left fun x _=>Z3j1 d x
    ·rcases List.mem_append.1 hm with hm | hm
     ·exact h m hm
     ·obtain ⟨q1,⟨x,hx,q2⟩,q3⟩:=Zij1 hm;obtain ⟨y,hy,e,_⟩:=Z7j1 h2 hx;exact ⟨by omega,⟨y,hy,by omega⟩,q3⟩
theorem Zkj1 {d:DK}:∀m∈(Zze1 d).2,Zgj1 d.DI.ID d.DI.SD m:=Zjj1 300 d [] rfl rfl (by simp)
theorem Zlj1 (n:NO):graB n=n.BK∧graV n=[]∨∃s l,n.BK.SE=s::l∧s.SS=0∧n.DK.TH=2∧graB n=⟨n.BK.LA,⟨s.ID,s.NE,1,s.Age⟩::l⟩∧graV n=[⟨1,n.DK.DI.ID,s.ID,0,[]⟩]:=by
 unfold graB graV Zth1;cases hb:n.BK.SE with
 | nil=>left;exact ⟨rfl,rfl⟩
 | cons s l=>
   dsimp only;by_cases h0:s.SS=0
   ·rw [if_pos h0,if_pos h0];by_cases h2:n.DK.TH=2
    ·right;rw [if_pos h2];dsimp only;rw [if_pos h2];exact ⟨s,l,rfl,h0,h2,rfl,rfl⟩
    ·left;rw [if_neg h2];dsimp only;rw [if_neg h2];exact ⟨rfl,rfl⟩
   ·left;rw [if_neg h0,if_neg h0];exact ⟨rfl,rfl⟩
theorem BkOK.grant {b:BK} (h:BkOK b) {s:SE} {l:List SE} (e:b.SE=s::l):BkOK ⟨b.LA,⟨s.ID,s.NE,1,s.Age⟩::l⟩:=by
 have h1:=h.up;have h2:=h.len;have h3:=h.tl;rw [e] at h1 h2 h3;have hs:=h.ok s (by rw [e];simp);refine ⟨h.last,h2,?_,fun t ht=>?_,h3⟩
 ·rw [List.pairwise_cons] at h1 ⊢;exact h1
 ·rcases List.mem_cons.1 ht with rfl | ht
  ·exact {hs with st:=.inl rfl}
  ·exact h.ok t (by rw [e];exact List.mem_cons_of_mem _ ht)
theorem Zmj1 (n:NO):Z5g1 n=true↔∃s l,n.BK.SE=s::l∧s.NE=n.DK.NE:=by
 unfold Z5g1;split
 ·rename_i h;simp [h]
 ·rename_i s l h;rw [decide_eq_true_eq];constructor
  ·exact fun e=>⟨s,l,h,e⟩
  ·rintro ⟨s',l',h',e⟩;rw [h] at h';simp only [List.cons.injEq] at h';rw [h'.1];exact e
theorem Znj1 (n:NO):Z4g1 n=true↔∃s l,n.BK.SE=s::l∧s.SS=1:=by
 unfold Z4g1;split
 ·rename_i h;simp [h]
 ·rename_i s l h;rw [decide_eq_true_eq];constructor
  ·exact fun e=>⟨s,l,h,e⟩
  ·rintro ⟨s',l',h',e⟩;rw [h] at h';simp only [List.cons.injEq] at h';rw [h'.1];exact e
theorem OkN.thirsty {n:NO} (h:OkN n) (h1:n.DK.TH=1):∃s l,n.BK.SE=s::l∧s.SS=0∧s.NE=n.DK.NE:=by
 have hq:=h.hq;have h6:=(Zqi1 _).1 h.bk;obtain ⟨s,l,hb,hn⟩:=(Zmj1 n).1 (by rcases hq with hq | hq;omega;exact hq);refine ⟨s,l,hb,?_,hn⟩;rcases Zxi1 h6 hb with e | e
 ·have:=h.th.2 ((Znj1 n).2 ⟨s,l,hb,e⟩);omega
 ·exact e
theorem OkN.drinks {n:NO} (h:OkN n) (h1:n.DK.TH=2):∃s l,n.BK.SE=s::l∧s.SS=1∧s.NE=n.DK.NE:=by have hq:=h.hq;obtain ⟨s,l,hb,hn⟩:=(Zmj1 n).1 (by rcases hq with hq | hq;omega;exact hq);obtain ⟨s',l',hb',hs⟩:=(Znj1 n).1 (h.th.1 h1);rw [hb] at hb';simp only [List.cons.injEq] at hb';exact ⟨s,l,hb,by rw [hb'.1];exact hs,hn⟩
theorem OkN.nowait {n:NO} (h:OkN n) (h1:n.DK.TH=2):Zth1 n=none:=by obtain ⟨s,l,hb,hs,_⟩:=h.drinks h1;unfold Zth1;rw [hb];dsimp only;rw [if_neg (by omega)]
theorem OkN.firgra {m:NO} (h:OkN m):OkN (graN (firN m)):=by
 have hR:=Z6j1 m.DK;have h9:=(Zqi1 _).1 h.bk;have hc:=h.dr.fire;have h8:(graN (firN m)).DK.DI.ID=m.DK.DI.ID:=hR.id;have side:∀ {x:SX},x∈(graN (firN m)).DK.DI.SD→∃y∈m.DK.DI.SD,y.PE=x.PE∧y.EP=x.EP∧y.SS=x.SS:=fun hx=>Z7j1 hR.core hx;have edis:∀ {x:SX},x∈m.DK.DI.SD→∃y∈(graN (firN m)).DK.DI.SD,y.PE=x.PE∧y.EP=x.EP∧y.SS=x.SS:=fun hx=>Z7j1 hR.core.symm hx;have hg:=Zlj1 (firN m);have hb':(graN (firN m)).BK=graB (firN m):=rfl;have ht':(graN (firN m)).DK.TH=(Zze1 m.DK).1.TH:=rfl;have hd:=hR.th;refine ⟨hc,?_,fun k hk=>?_,h.dis,by rw [h8];exact h.id,h.kup,h.kr,fun x hx=>?_,h.told,fun p hp=>?_,?_,?_,fun x hx hn=>?_,fun s hs h0 p hp=>?_⟩
 ·rw [hb',Zqi1];rcases hg with ⟨e,_⟩ | ⟨s,l,e1,_,_,e2,_⟩
  ·rw [e];exact h9
  ·rw [e2];exact h9.grant e1
 ·have hm:=h.may k hk;rw [h8];exact ⟨fun x hx=>by obtain ⟨y,hy,e,_⟩:=side hx;rw [←e];exact hm.1 y hy,hm.2⟩
 ·obtain ⟨y,hy,e1,e2,e3⟩:=side hx;have:=h.sd y hy;rw [h8,←e1,←e2,←e3];exact this
 ·obtain ⟨x,hx,h1,e⟩:=h.tin p hp;obtain ⟨y,hy,e1,_,e3⟩:=edis hx;exact ⟨y,hy,by omega,by omega⟩
 ·rw [Znj1,hb',ht'];constructor
  ·intro h2;rcases hg with ⟨e,_⟩ | ⟨s,l,e1,_,_,e2,_⟩
   ·rw [e];rcases hd with q | ⟨q1,_⟩
    ·exact (Znj1 m).1 (h.th.1 (by omega))
    ·exfalso;obtain ⟨s,l,hb,hs,_⟩:=h.thirsty q1;have:graB (firN m)=⟨m.BK.LA,⟨s.ID,s.NE,1,s.Age⟩::l⟩:=by unfold graB;rw [show (firN m).BK.SE=s::l from hb];dsimp only;rw [if_pos hs,if_pos (show (firN m).DK.TH=2 from h2)];rfl
     rw [this] at e;have e:=congrArg BK.SE e;rw [show (firN m).BK.SE=s::l from hb] at e;simp only [List.cons.injEq] at e;have:=congrArg SE.SS e.1;simp only at this;omega
   ·rw [e2];exact ⟨_,l,rfl,rfl⟩
  ·rintro ⟨s',l',e',hs'⟩;rcases hg with ⟨e,_⟩ | ⟨s,l,e1,_,e3,_,_⟩
   ·rw [e] at e';have:=h.th.2 ((Znj1 m).2 ⟨s',l',e',hs'⟩);omega
   ·exact e3
 ·rw [ht'];rcases h.hq with q | q
  ·left;omega
  ·right;obtain ⟨s,l,hb,hn⟩:=(Zmj1 m).1 q;rw [Zmj1,hb'];have h6:(graN (firN m)).DK.NE=m.DK.NE:=hR.need;rw [h6];rcases hg with ⟨e,_⟩ | ⟨s',l',e1,_,_,e2,_⟩
   ·rw [e];exact ⟨s,l,hb,hn⟩
   ·rw [e2];have e1:m.BK.SE=s'::l':=e1;rw [hb] at e1;simp only [List.cons.injEq] at e1;exact ⟨_,l',rfl,by rw [←hn,e1.1]⟩
 ·have h6:(graN (firN m)).DK.NE=m.DK.NE:=hR.need;rw [h6] at hn;obtain ⟨y,hy,e1,_,e3⟩:=side hx;rw [←e3];rw [←e1] at hn;exact h.nl y hy hn
 ·rw [hb'] at hs;have hs':s∈m.BK.SE:=by
   rcases hg with ⟨e,_⟩ | ⟨s',l',e1,_,_,e2,_⟩
   ·rw [e] at hs;exact hs
   ·rw [e2] at hs;rcases List.mem_cons.1 hs with rfl | hs
    ·exact absurd h0 (by show ¬(1:Int)=0;omega)
    ·have e1:m.BK.SE=s'::l':=e1;rw [e1];exact List.mem_cons_of_mem _ hs
  obtain ⟨x,hx,e0,e⟩:=h.wt s hs' h0 p hp;obtain ⟨y,hy,e1,_,e3⟩:=edis hx;exact ⟨y,hy,by omega,by omega⟩
theorem Zoj1 (id:Int):∀(S:List SX) (T:List Int) (E:List ML) (p:Int),p∈(Zah1 id S T E).1↔p∈T∨∃x∈S,x.SS=1∧x.PE=p
 | [],T,E,p=>by simp [Zah1]
 | x::S,T,E,p=>by
   have hs:=(Z5c1 (T++[x.PE])).2;unfold Zah1;cases hu:untB T x with
   | true=>
     rw [if_pos rfl,Zoj1 id S];unfold untB Zkf1 at hu;rw [Bool.and_eq_true,decide_eq_true_eq] at hu;rw [hs,List.mem_append,List.mem_singleton];constructor
     ·rintro ((h | h) | ⟨y,hy,h⟩)
      ·exact .inl h
      ·exact .inr ⟨x,by simp,hu.1,h.symm⟩
      ·exact .inr ⟨y,List.mem_cons_of_mem _ hy,h⟩
     ·rintro (h | ⟨y,hy,h⟩)
      ·exact .inl (.inl h)
      ·rcases List.mem_cons.1 hy with rfl | hy
       ·exact .inl (.inr h.2.symm)
       ·exact .inr ⟨y,hy,h⟩
   | false=>
     rw [if_neg (by simp),Zoj1 id S];unfold untB Zkf1 at hu;rw [Bool.and_eq_false_iff,decide_eq_false_iff_not,Bool.not_eq_false',decide_eq_true_eq] at hu;constructor
     ·rintro (h | ⟨y,hy,h⟩)
      ·exact .inl h
      ·exact .inr ⟨y,List.mem_cons_of_mem _ hy,h⟩
     ·rintro (h | ⟨y,hy,h⟩)
      ·exact .inl h
      ·rcases List.mem_cons.1 hy with rfl | hy
       ·rcases hu with hu | hu
        ·exact absurd h.1 hu
        ·rw [h.2] at hu;exact .inl hu
       ·exact .inr ⟨y,hy,h⟩
theorem Zpj1 (id:Int):∀(S:List SX) (T:List Int) (E:List ML),T.Pairwise (· < ·)→(Zah1 id S T E).1.Pairwise (· < ·)
 | [],T,E,h=>h
 | x::S,T,E,h=>by
   unfold Zah1;split
   ·exact Zpj1 id S _ _ (Z5c1 _).1
   ·exact Zpj1 id S _ _ h
theorem Zqj1 (id:Int) (S0:List SX):∀(S:List SX) (T:List Int) (E:List ML),(∀x∈S,x∈S0)→(∀m∈E,Zgj1 id S0 m)→∀m∈(Zah1 id S T E).2,Zgj1 id S0 m
 | [],T,E,_,h=>h
 | x::S,T,E,hS,h=>by
   unfold Zah1;split
   ·refine Zqj1 id S0 S _ _ (fun y hy=>hS y (List.mem_cons_of_mem _ hy)) fun m hm=>?_;rcases List.mem_append.1 hm with hm | hm
    ·exact h m hm
    ·simp at hm;subst hm;exact ⟨rfl,⟨x,hS x (by simp),rfl⟩,rfl⟩
   ·exact Zqj1 id S0 S _ _ (fun y hy=>hS y (List.mem_cons_of_mem _ hy)) h
theorem Zrj1 (id:Int):∀(S:List SX) (T:List Int) (E:List ML),(∀x∈S,untB T x=false)→Zah1 id S T E=(T,E)
 | [],T,E,_=>rfl
 | x::S,T,E,h=>by unfold Zah1;rw [h x (by simp),if_neg (by simp)];exact Zrj1 id S T E fun y hy=>h y (List.mem_cons_of_mem _ hy)
theorem Zsj1 (n:NO) (p:Int):p∈(telT n).1↔p∈n.TL∨n.DK.DI.PH=2∧∃x∈n.DK.DI.SD,x.SS=1∧x.PE=p:=by
 unfold telT;split
 ·rename_i h;rw [Zoj1];simp [h]
 ·rename_i h;simp [h]
theorem OkN.tel {m:NO} (h:OkN m):OkN (telN m):=by
 refine {h with told:=?_,tin:=fun p hp=>?_}
 ·show (telT m).1.Pairwise _;unfold telT;split
  ·exact Zpj1 _ _ _ _ h.told
  ·exact h.told
 ·rcases (Zsj1 m p).1 hp with hp | ⟨_,hp⟩
  ·exact h.tin p hp
  ·exact hp
theorem Ztj1 {id th:Int} {N:List Int} {S:List SX} {x:SX} (h:x∈Zhh1 id th N S):∃y∈S,(x=y∧Zeh1 th N y=false)∨(Zeh1 th N y=true∧id<y.PE∧x={y with SS:=3}):=by
 obtain ⟨y,hy,e⟩:=List.mem_filterMap.1 h;refine ⟨y,hy,?_⟩;unfold Zfh1 at e;cases hg:Zeh1 th N y with
 | false=>rw [hg,if_neg (by simp)] at e;simp at e;exact .inl ⟨e.symm,rfl⟩
 | true=>
   rw [hg,if_pos rfl] at e;split at e
   ·simp at e;exact .inr ⟨rfl,by assumption,e.symm⟩
   ·simp at e
theorem Zuj1 {id th:Int} {N:List Int} {S:List SX} {y:SX} (h:y∈S) (hg:Zeh1 th N y=false):y∈Zhh1 id th N S:=List.mem_filterMap.2 ⟨y,h,by unfold Zfh1;rw [hg,if_neg (by simp)]⟩
theorem Zvj1 {th:Int} {N:List Int} {x:SX} (h:Zeh1 th N x=true):x.SS=2:=by unfold Zeh1 at h;rw [Bool.and_eq_true,decide_eq_true_eq] at h;exact h.1
theorem Zwj1 {th:Int} {N:List Int} {x:SX} (h:x.SS≠2):Zeh1 th N x=false:=by unfold Zeh1;rw [DN h];rfl
theorem OkN.needed {m:NO} (h:OkN m) {x:SX} (hx:x∈m.DK.DI.SD) (J:x.PE∈m.DK.NE):Zeh1 m.DK.TH m.DK.NE x=false:=by
 cases hg:Zeh1 m.DK.TH m.DK.NE x with
 | false=>rfl
 | true=>
   exfalso;have h2:=Zvj1 hg;unfold Zeh1 at hg;rw [DT h2,DT J] at hg;simp at hg;have h0:=h.dr.t0;have ht:=h.dr.t2;have hz:m.DK.TH≠0:=fun e=>by rw [h.dr.nz e] at J;simp at J
   obtain ⟨s,l,hb,hs,e⟩:=h.thirsty (by omega);obtain ⟨y,hy,h6,ey⟩:=h.wt s (by rw [hb];simp) hs x.PE (by rw [e];exact J);have:=Zwi1 h.rowS.up hx hy ey.symm;subst this;omega
theorem OkN.lea {m:NO} (h:OkN m):OkN (leaN m):=by
 have h8:∀ {x:SX},x∈(leaN m).DK.DI.SD→∃y∈m.DK.DI.SD,(x=y∧Zeh1 m.DK.TH m.DK.NE y=false)∨(Zeh1 m.DK.TH m.DK.NE y=true∧m.DK.DI.ID<y.PE∧x={y with SS:=3}):=fun hx=>Ztj1 hx;have hc:∀ {x:SX},x∈(leaN m).DK.DI.SD→∃y∈m.DK.DI.SD,x.PE=y.PE:=fun hx=>by
  obtain ⟨y,hy,(⟨rfl,_⟩ | ⟨_,_,rfl⟩)⟩:=h8 hx
  ·exact ⟨_,hy,rfl⟩
  ·exact ⟨y,hy,rfl⟩
 have h9:∀ {y:SX},y∈m.DK.DI.SD→Zeh1 m.DK.TH m.DK.NE y=false→y∈(leaN m).DK.DI.SD:=fun hy hg=>Zuj1 hy hg;have h6:=h.dr.din;refine ⟨⟨⟨h6.id0,h6.p0,h6.p2,?_,?_,fun x hx=>?_⟩,h.dr.t0,h.dr.t2,h.dr.up,h.dr.nz,fun p hp=>?_⟩,h.bk,fun k hk=>⟨fun x hx=>?_,(h.may k hk).2⟩,h.dis,h.id,h.kup,h.kr,fun x hx=>?_,h.told,fun p hp=>?_,h.th,h.hq,fun x hx hn=>?_,fun s hs h0 p hp=>?_⟩
 ·have:=Zoh1 m.DK.DI.ID m.DK.TH m.DK.NE m.DK.DI.SD;have:=h6.len;show (Zhh1 _ _ _ _).length<64;omega
 ·show (Zhh1 _ _ _ _).Pairwise _;unfold Zhh1;rw [List.pairwise_filterMap];refine h6.up.imp fun {a b} hd y hy z hz=>?_;have e:∀ {a y:SX},Zfh1 m.DK.DI.ID m.DK.TH m.DK.NE a=some y→y.PE=a.PE:=by
   intro a y hy;unfold Zfh1 at hy;split at hy
   ·split at hy
    ·simp at hy;subst hy;rfl
    ·simp at hy
   ·simp at hy;subst hy;rfl
  rw [e hy,e hz];exact hd
 ·obtain ⟨y,hy,(⟨rfl,_⟩ | ⟨_,_,rfl⟩)⟩:=h8 hx
  ·exact h6.side _ hy
  ·have:=h6.side y hy;exact ⟨this.lo,this.ne,this.e0,this.e1,by show (0:Int)≤3;omega,by show (3:Int)≤3;omega,this.df⟩
 ·obtain ⟨x,hx,e⟩:=h.dr.has p hp;exact ⟨x,h9 hx (h.needed hx (by rw [e];exact hp)),e⟩
 ·obtain ⟨y,hy,e⟩:=hc hx;rw [e];exact (h.may k hk).1 y hy
 ·obtain ⟨y,hy,(⟨rfl,_⟩ | ⟨_,hi,rfl⟩)⟩:=h8 hx
  ·exact h.sd _ hy
  ·have:=h.sd y hy;exact ⟨this.1,this.2.1,this.2.2.1,fun _=>by show m.DK.DI.ID≤y.PE;omega⟩
 ·obtain ⟨x,hx,h1,e⟩:=h.tin p hp;exact ⟨x,h9 hx (Zwj1 (by omega)),h1,e⟩
 ·obtain ⟨y,hy,(⟨rfl,_⟩ | ⟨hg,_,rfl⟩)⟩:=h8 hx
  ·exact h.nl _ hy hn
  ·have:=h.needed hy hn;rw [hg] at this;simp at this
 ·obtain ⟨x,hx,e0,e⟩:=h.wt s hs h0 p hp;exact ⟨x,h9 hx (Zwj1 (by omega)),e0,e⟩
theorem OkN.once {n:NO} (h:OkN n):OkN (Zvh1 n):=h.pre.firgra.tel.lea
theorem Zxj1 (x y:KE):(decide (x.PE=y.PE)&&(decide (x.EP=y.EP)&&true))=decide (x=y):=by obtain ⟨a,b⟩:=x;obtain ⟨c,d⟩:=y;simp only [KE.mk.injEq,Bool.and_true];by_cases h1:a=c<;>by_cases h2:b=d<;>simp [h1,h2]
theorem Zyj1 (l m:List KE) (hl:l.length≤1000000):Z7o l m=some (decide (l=m)):=by
 simp only [Z7o,Zhb1];by_cases h:l.length=m.length
 ·simp only [h,decide_true,Bool.not_true,Zia1];rw [Zeb1 l m _ (fun x y=>decide (x=y)) h (by omega) (fun k x y hx hy=>by simp only [Z6o,Zoa1 hx,Zha1,Zla1 hx,Zla1 hy,OB,Zxj1,Zra1 hx (show l.length≤4000000000000000000 by omega),Zja1];cases decide (x=y)<;>rfl) (by simp only [Z6o,Zpa1,Zia1,Z5o,Option.map_some]),Zfb1 l m h]
 ·simp [h,Zgb1 h]
theorem Zzj1 (x y:SE) (hx:x.NE.length≤1000000):Z1u x y=some (decide (x=y)):=by obtain ⟨i,n,s,a⟩:=x;obtain ⟨i',n',s',a'⟩:=y;simp only at hx;simp only [Z1u,Z0u,Z0f1 n n' hx,OB,SE.mk.injEq];by_cases h1:i=i'<;>by_cases h2:s=s'<;>by_cases h3:a=a'<;>by_cases h4:n=n'<;>simp [h1,h2,h3,h4]
theorem Z0k1 (b c:BK) (hb:Zjc1 b):Z5y b c=some (decide (b=c)):=by
 obtain ⟨L,l⟩:=b;obtain ⟨L',m⟩:=c;have h1:l.length≤1000000:=hb.1;have h2:∀s∈l,s.NE.length≤1000000:=hb.2;have e:Z2o l m (fun z=>Z1u z.1 z.2)=some (decide (l=m)):=by
  simp only [Z2o,Zhb1];by_cases h:l.length=m.length
  ·simp only [h,decide_true,Bool.not_true,Zia1];rw [Zeb1 l m _ (fun x y=>decide (x=y)) h (by omega) (fun k x y hx hy=>by have hm:=h2 x (List.mem_of_getElem? hx);simp only [Z1o,Zoa1 hx,Zha1,Zla1 hx,Zla1 hy,OB,Zzj1 x y hm,Zra1 hx (show l.length≤4000000000000000000 by omega),Zja1];cases decide (x=y)<;>rfl) (by simp only [Z1o,Zpa1,Zia1,Z0o,Option.map_some]),Zfb1 l m h]
  ·simp [h,Zgb1 h]
 simp only [Z5y,Z4y,e,OB,BK.mk.injEq];by_cases q1:L=L'<;>by_cases q2:l=m<;>simp [q1,q2]
theorem Z1k1 (a b:NO) (h:FewN a):Zr01 a b=some (decide (a=b)):=by have h1:=h.sides;have h2:=h.need;have h3:=h.told;have h4:=h.known;have h5:=h.asked;obtain ⟨d,k,K,T,A⟩:=a;obtain ⟨d',k',K',T',A'⟩:=b;simp only at h1 h2 h3 h4 h5;simp only [Zr01,Zq01,Z2f1 d d' (by omega) (by omega),Z0k1 k k' h.bk,Zyj1 K K' (by omega),Zyj1 A A' (by omega),Z0f1 T T' (by omega),OB,NO.mk.injEq];by_cases q1:d=d'<;>by_cases q2:k=k'<;>by_cases q3:K=K'<;>by_cases q4:T=T'<;>by_cases q5:A=A'<;>simp [q1,q2,q3,q4,q5]
theorem Z2k1 (l:List KE) (h:l.length≤1000000):Zym l=some l:=by simp only [Zym];rw [Zna1 _ _ (by omega) (by simp;omega),List.nil_append]
theorem Z3k1 (n:NO) (a b c d:Int) (h:FewN n):Zcy a b c d n.BK.SE n.TL n.DK.DI.SD n.DK.NE n.KN n.AK=some (n.DK.DI.SD,n.DK.NE,n.KN,n.TL,n.AK,n.BK.SE):=by
 have h1:=h.sides;have h2:=h.need;have h3:=h.told;have h4:=h.known;have h5:=h.asked;have h6:=h.book;dsimp only [Zcy,Zby,Zay];rw [Zhd1 _ (by omega),OB,Zqc1 _ (by omega),OB,Z2k1 _ (by omega),OB,Zqc1 _ (by omega),OB,Z2k1 _ (by omega),OB,Zrc1 _ (by omega),OB];refine Z5b1 n.BK.SE _ (fun pre=>((pre.length:Int),n.BK.SE)) _ (fun pre x post h0=>?_) ?_
 ·have hx:=Z6b1 h0;have hm:=Z7b1 h0;have hN:=h.needs x (Z8b1 h0);dsimp only [Z9y,Z8y];rw [Zoa1 hx,Zha1,Zla1 hx,OB,Zqc1 _ (by omega),OB,Zqa1 (by omega),Int.toNat_natCast,Zpc1 hx,Zbb1]
 ·dsimp only [Z9y,Z7y];rw [Zpa1,Zia1];rfl
theorem Z4k1 (n:NO) (h:FewN n):Ztx n=some (n.DK.DI.SD,n.DK.NE,n.KN,n.TL,n.AK,n.BK.SE):=by
 have h1:=h.sides;have h2:=h.need;have h3:=h.told;have h4:=h.known;have h5:=h.asked;have h6:=h.book;dsimp only [Ztx,Zsx,Zrx];rw [Zhd1 _ (by omega),OB,Zqc1 _ (by omega),OB,Z2k1 _ (by omega),OB,Zqc1 _ (by omega),OB,Z2k1 _ (by omega),OB,Zrc1 _ (by omega),OB];refine Z5b1 n.BK.SE _ (fun pre=>((pre.length:Int),n.BK.SE)) _ (fun pre x post h0=>?_) ?_
 ·have hx:=Z6b1 h0;have hm:=Z7b1 h0;have hN:=h.needs x (Z8b1 h0);dsimp only [Zqx,Zpx];rw [Zoa1 hx,Zha1,Zla1 hx,OB,Zqc1 _ (by omega),OB,Zqa1 (by omega),Int.toNat_natCast,Zpc1 hx,Zbb1]
 ·dsimp only [Zqx,Zox];rw [Zpa1,Zia1];rfl
structure Quiet (n:NO):Prop where
 ask:n.DK.DI.PH=2∨n.AK=[]
 thi:Zth1 n=none∨n.DK.TH≠0
 hun:n.DK.DI.PH≠0∨n.DK.DI.SD.any (untB n.TL)=false
 fire:Zde1 n.DK=n.DK
 tel:n.DK.DI.PH≠2∨n.DK.DI.SD.any (untB n.TL)=false
 lea:n.DK.DI.SD.any (Zeh1 n.DK.TH n.DK.NE)=false
theorem Quiet.pre {n:NO} (h:Quiet n):preN n=n∧ansN n=n∧Zrh1 n=[]∧Zsh1 n=[]:=by
 obtain ⟨⟨⟨id,ph,S⟩,th,N⟩,B,K,T,A⟩:=n;have ha:=h.ask;have ht:=h.thi;have hh:=h.hun;simp only at ha ht hh;have e1:ansN ⟨⟨⟨id,ph,S⟩,th,N⟩,B,K,T,A⟩=⟨⟨⟨id,ph,S⟩,th,N⟩,B,K,T,A⟩∧Zrh1 ⟨⟨⟨id,ph,S⟩,th,N⟩,B,K,T,A⟩=[]∧Zsh1 ⟨⟨⟨id,ph,S⟩,th,N⟩,B,K,T,A⟩=[]:=by
  unfold ansN Zrh1 Zsh1;dsimp only;split
  ·exact ⟨rfl,rfl,rfl⟩
  ·rename_i h2;rcases ha with ha | ha
   ·exact absurd ha h2
   ·subst ha;exact ⟨rfl,rfl,rfl⟩
 have e2:thiN ⟨⟨⟨id,ph,S⟩,th,N⟩,B,K,T,A⟩=⟨⟨⟨id,ph,S⟩,th,N⟩,B,K,T,A⟩:=by
  unfold thiN thiD;split
  ·rename_i s hw;rcases ht with ht | ht
   ·rw [hw] at ht;simp at ht
   ·dsimp only;rw [if_neg ht]
  ·rfl
 have e3:hunN ⟨⟨⟨id,ph,S⟩,th,N⟩,B,K,T,A⟩=⟨⟨⟨id,ph,S⟩,th,N⟩,B,K,T,A⟩:=by
  unfold hunN hunP;dsimp only;rcases hh with hh | hh
  ·rw [DN hh];rfl
  ·rw [hh,Bool.and_false];rfl
 unfold preN;rw [e1.1,e2,e3];exact ⟨rfl,rfl,e1.2⟩
theorem Z5k1 {α:Type} {l:List α} {q:α→Bool} (h:l.any q=false):∀x∈l,q x=false:=by rw [List.any_eq_false] at h;intro x hx;simpa using h x hx
theorem Quiet.once {n:NO} (hk:OkN n) (h:Quiet n):Zvh1 n=n∧Zwh1 n=[]∧Zxh1 n=[]:=by
 obtain ⟨p1,p2,p3,p4⟩:=h.pre;have hf:=Zbj1 h.fire;have hm:midN n=n:=by unfold midN;rw [p1];unfold firN;rw [hf]
 have hg:graN n=n∧graV n=[]:=by
  rcases Zlj1 n with ⟨e1,e2⟩ | ⟨s,l,e1,e2,e3,_⟩
  ·exact ⟨by unfold graN;rw [e1],e2⟩
  ·exfalso;have:=hk.nowait e3;unfold Zth1 at this;rw [e1] at this;dsimp only at this;rw [if_pos e2] at this;simp at this
 have ht:telN n=n∧(telT n).2=[]:=by
  have:telT n=(n.TL,[]):=by
   unfold telT;split
   ·rename_i h2;rcases h.tel with q | q
    ·exact absurd h2 q
    ·exact Zrj1 _ _ _ _ (Z5k1 q)
   ·rfl
  unfold telN;rw [this];exact ⟨rfl,rfl⟩
 have hl:=Zjh1 (id:=n.DK.DI.ID) (Z5k1 h.lea);have h6:leaN n=n:=by unfold leaN;rw [hl.1]
 unfold Zvh1 Zwh1 Zxh1 Zuh1;rw [hm,hg.1,ht.1,h6,p1,p3,p4,hg.2,ht.2,hf,hl.2];exact ⟨rfl,rfl,rfl⟩
theorem Z6k1 (n:NO):(ansN n).TL=n.TL∧(ansN n).BK=n.BK∧(ansN n).DK.TH=n.DK.TH∧(ansN n).DK.NE=n.DK.NE∧(ansN n).DK.DI.ID=n.DK.DI.ID∧(ansN n).DK.DI.PH=n.DK.DI.PH:=by unfold ansN;split<;>exact ⟨rfl,rfl,rfl,rfl,rfl,rfl⟩
theorem Z7k1 {n:NO} {x:SX} (h:x∈(ansN n).DK.DI.SD):x∈n.DK.DI.SD∨∃k∈n.AK,x=newS k:=by
 unfold ansN at h;split at h
 ·exact .inl h
 ·exact Z7h1.1 h
theorem Z8k1 {n:NO} {x:SX} (h:x∈n.DK.DI.SD):x∈(ansN n).DK.DI.SD:=by
 unfold ansN;split
 ·exact h
 ·exact Z7h1.2 (.inl h)
theorem Z9k1 (n:NO):(thiN n).DK.DI=n.DK.DI:=by
 show (thiD n).DI=_;unfold thiD;split
 ·split<;>rfl
 ·rfl
theorem Zak1 (n:NO):(preN n).DK.DI.SD=(ansN n).DK.DI.SD:=by show (thiN (ansN n)).DK.DI.SD=_;rw [Z9k1]
theorem Zbk1 (n:NO):(preN n).DK.DI.ID=n.DK.DI.ID:=by show (thiN (ansN n)).DK.DI.ID=_;rw [Z9k1];exact (Z6k1 n).2.2.2.2.1
theorem Zck1 (n:NO):Zth1 (ansN n)=Zth1 n:=by unfold Zth1;rw [(Z6k1 n).2.1]
theorem Zdk1 (n:NO):(preN n).DK.DI.PH=if decide (n.DK.DI.PH=0)&&(ansN n).DK.DI.SD.any (untB n.TL) then 1 else n.DK.DI.PH:=by show hunP (thiN (ansN n))=_;unfold hunP;rw [Z9k1,(Z6k1 n).2.2.2.2.2,show (thiN (ansN n)).TL=n.TL from (Z6k1 n).1]
theorem Zek1 (n:NO):(Zth1 n=none∨n.DK.TH≠0)∧(preN n).DK.TH=n.DK.TH∧(preN n).DK.NE=n.DK.NE∨n.DK.TH=0∧∃s,Zth1 n=some s∧(preN n).DK.TH=1∧(preN n).DK.NE=s.NE:=by
 have e1:(preN n).DK.TH=(thiD (ansN n)).TH:=rfl;have e2:(preN n).DK.NE=(thiD (ansN n)).NE:=rfl;rw [e1,e2];unfold thiD;rw [Zck1,(Z6k1 n).2.2.1];cases hw:Zth1 n with
 | none=>left;exact ⟨.inl rfl,(Z6k1 n).2.2.1,(Z6k1 n).2.2.2.1⟩
 | some s=>
   by_cases h0:n.DK.TH=0
   ·right;dsimp only;rw [if_pos h0];exact ⟨h0,s,rfl,rfl,rfl⟩
   ·left;dsimp only;rw [if_neg h0];exact ⟨.inr h0,(Z6k1 n).2.2.1,(Z6k1 n).2.2.2.1⟩
theorem Zfk1 {n:NO} {x:SX} (h:x∈(midN n).DK.DI.SD):∃y∈(ansN n).DK.DI.SD,y.PE=x.PE∧y.EP=x.EP∧y.SS=x.SS:=by have:=Z7j1 (Z6j1 (preN n).DK).core h;rw [Zak1] at this;exact this
theorem Zgk1 {n:NO} {x:SX} (h:x∈(Zvh1 n).DK.DI.SD):∃y∈(ansN n).DK.DI.SD,y.PE=x.PE∧y.EP=x.EP∧(y.SS=x.SS∨y.SS=2∧x.SS=3):=by
 obtain ⟨z,hz,hq⟩:=Ztj1 h;obtain ⟨y,hy,e1,e2,e3⟩:=Zfk1 (n:=n) hz;refine ⟨y,hy,?_⟩;rcases hq with ⟨rfl,_⟩ | ⟨hg,_,rfl⟩
 ·exact ⟨e1,e2,.inl e3⟩
 ·exact ⟨e1,e2,.inr ⟨by rw [e3];exact Zvj1 hg,rfl⟩⟩
theorem Zhk1 {n:NO} {p:Int} (h:p∈n.TL):p∈(Zvh1 n).TL:=(Zsj1 (graN (midN n)) p).2 (.inl (by show p∈(ansN n).TL;rw [(Z6k1 n).1];exact h))
theorem Zik1 {n:NO} (h:(Zvh1 n).DK.DI.SD.any (untB (Zvh1 n).TL)=true):∃z∈n.DK.DI.SD,untB n.TL z=true:=by
 obtain ⟨x,hx,hu⟩:=List.any_eq_true.1 h;unfold untB Zkf1 at hu ⊢;simp only [Bool.and_eq_true,decide_eq_true_eq,Bool.not_eq_true',decide_eq_false_iff_not] at hu ⊢;obtain ⟨y,hy,e1,e2,e3⟩:=Zgk1 hx;rcases Z7k1 hy with hy | ⟨k,_,rfl⟩
 ·exact ⟨y,hy,by omega,fun hm=>hu.2 (by rw [←e1];exact Zhk1 hm)⟩
 ·exfalso;have:(newS k).SS=0:=rfl;omega
def thM (th:Int):Nat:=if th=0 then 2 else if th=1 then 1 else 0
def gosN (n:NO):Bool:=n.DK.DI.SD.any (Zeh1 n.DK.TH n.DK.NE)
def untN (n:NO):Bool:=n.DK.DI.SD.any (untB n.TL)
def meas (n:NO):Nat:=bn (!n.AK.isEmpty)+thM n.DK.TH+bn (decide (n.DK.DI.PH=0)&&untN n)+bn (!decide (Zde1 n.DK=n.DK))+bn (untN n)+2*bn (gosN n)
theorem Zjk1 (b:Bool):bn b≤1:=by cases b<;>simp [bn]
theorem Zkk1 {a b:Bool} (h:a=true→b=true):bn a≤bn b:=by
 cases a with
 | false=>simp [bn]
 | true=>rw [h rfl];exact Nat.le_refl _
theorem bn_f {a:Bool} (h:a=false):bn a=0:=by rw [h];rfl
theorem bn_t {a:Bool} (h:a=true):bn a=1:=by rw [h];rfl
theorem Zlk1 (n:NO):(Zvh1 n).AK=if n.DK.DI.PH=2 then n.AK else []:=by show (ansN n).AK=_;unfold ansN;split<;>rfl
theorem Zmk1 (n:NO):gosN (Zvh1 n)=false:=by unfold gosN;rw [List.any_eq_false];intro x hx;have:=Zmh1 _ _ _ _ x hx;rw [show (Zvh1 n).DK.TH=(telN (graN (midN n))).DK.TH from rfl,show (Zvh1 n).DK.NE=(telN (graN (midN n))).DK.NE from rfl,this];simp
theorem Znk1 (n:NO) (h:OkN n):(thM (Zvh1 n).DK.TH≤thM n.DK.TH)∧((Zth1 n=none∨n.DK.TH≠0)∨thM (Zvh1 n).DK.TH<thM n.DK.TH):=by
 have hR:=(Z6j1 (preN n).DK).th;have e:(Zvh1 n).DK.TH=(Zze1 (preN n).DK).1.TH:=rfl;have h0:=h.dr.t0;have h2:=h.dr.t2;rw [e];unfold thM;rcases Zek1 n with ⟨q1,q2,_⟩ | ⟨q1,s,_,q2,_⟩
 ·refine ⟨?_,.inl q1⟩
  (repeat' split)<;>omega
 ·refine ⟨?_,.inr ?_⟩<;>(repeat' split)<;>omega
theorem Zok1 {n:NO} (hg:gosN n=false):∀x∈(midN n).DK.DI.SD,Zeh1 (midN n).DK.TH (midN n).DK.NE x=false:=by
 intro x hx;by_cases h2:x.SS=2
 ·obtain ⟨y,hy,e1,_,e3⟩:=Zfk1 hx;rcases Z7k1 hy with hy | ⟨k,_,rfl⟩
  ·have:=Z5k1 hg y hy;unfold Zeh1 at this ⊢;rw [DT (show y.SS=2 by omega),Bool.true_and,Bool.not_eq_false',Bool.and_eq_true,decide_eq_true_eq,decide_eq_true_eq] at this;have hR:=Z6j1 (preN n).DK;have h9:=hR.th;have h6:(midN n).DK.NE=(preN n).DK.NE:=hR.need;have h8:(midN n).DK.TH=(Zze1 (preN n).DK).1.TH:=rfl;rcases Zek1 n with ⟨_,q2,q3⟩ | ⟨q1,_⟩
   ·rw [h6,q3,h8,DT (show (Zze1 (preN n).DK).1.TH=2 by omega),←e1,DT this.2];simp
   ·omega
  ·exfalso;have:(newS k).SS=0:=rfl;omega
 ·exact Zwj1 h2
theorem Zpk1 {n:NO} (h:OkN n) (hg:gosN n=false):Zde1 (Zvh1 n).DK=(Zvh1 n).DK:=by
 have hc:=Zjh1 (id:=(midN n).DK.DI.ID) (Zok1 hg);have e:(Zvh1 n).DK=(midN n).DK:=by show (⟨⟨(midN n).DK.DI.ID,(midN n).DK.DI.PH,Zhh1 (midN n).DK.DI.ID (midN n).DK.TH (midN n).DK.NE (midN n).DK.DI.SD⟩,(midN n).DK.TH,(midN n).DK.NE⟩:DK)=_;rw [hc.1]
 rw [e];exact Zaj1 ((Zfi1 _).2 h.pre.dr.din)
theorem Zqk1 {n:NO} (hu:untN (Zvh1 n)=true):(Zvh1 n).DK.DI.PH≠0:=by
 obtain ⟨z,hz,hz'⟩:=Zik1 hu;have hs:z.SS=1:=by unfold untB Zkf1 at hz';rw [Bool.and_eq_true,decide_eq_true_eq] at hz';exact hz'.1
 have hb:busy (preN n).DK:=by
  refine ⟨?_,z,by rw [Zak1];exact Z8k1 hz,hs⟩;rw [Zdk1];split
  ·omega
  ·rename_i hc;intro e;exact hc (by rw [DT e,Bool.true_and];exact List.any_eq_true.2 ⟨z,Z8k1 hz,hz'⟩)
 exact (Zdj1 hb).1
theorem Zrk1 {n:NO} (h:eats n.DK):eats (preN n).DK:=by obtain ⟨h1,x,hx,h2⟩:=h;refine ⟨?_,x,by rw [Zak1];exact Z8k1 hx,h2⟩;rw [Zdk1,DN (by omega)];exact h1
theorem Zsk1 {n:NO} (hp:n.DK.DI.PH=2):untN (Zvh1 n)=false:=by
 cases hu:untN (Zvh1 n) with
 | false=>rfl
 | true=>
   exfalso;obtain ⟨x,hx,h6⟩:=List.any_eq_true.1 hu;obtain ⟨z,hz,hz'⟩:=Zik1 hu;have hs:z.SS=1:=by unfold untB Zkf1 at hz';rw [Bool.and_eq_true,decide_eq_true_eq] at hz';exact hz'.1
   have he:=Zfj1 (Zrk1 (n:=n) ⟨hp,z,hz,hs⟩);unfold untB Zkf1 at h6;simp only [Bool.and_eq_true,decide_eq_true_eq,Bool.not_eq_true',decide_eq_false_iff_not] at h6;refine h6.2 ?_;refine (Zsj1 (graN (midN n)) x.PE).2 (.inr ⟨he.1,?_⟩);obtain ⟨y,hy,hq⟩:=Ztj1 hx;rcases hq with ⟨rfl,_⟩ | ⟨_,_,rfl⟩
   ·exact ⟨_,hy,h6.1,rfl⟩
   ·exact absurd h6.1 (by show ¬(3:Int)=1;omega)
theorem Ztk1 {n:NO} (h:OkN n):Quiet n∨meas (Zvh1 n)<meas n:=by
 have a1:bn (!(Zvh1 n).AK.isEmpty)≤bn (!n.AK.isEmpty):=by
  rw [Zlk1];split
  ·exact Nat.le_refl _
  ·simp [bn]
 have a2:=Znk1 n h;have a3:bn (decide ((Zvh1 n).DK.DI.PH=0)&&untN (Zvh1 n))=0:=bn_f (by
  cases hu:untN (Zvh1 n) with
  | false=>simp
  | true=>rw [DN (Zqk1 hu)];rfl)
 have a4:bn (untN (Zvh1 n))≤bn (untN n):=Zkk1 fun hu=>by obtain ⟨z,hz,hz'⟩:=Zik1 hu;exact List.any_eq_true.2 ⟨z,hz,hz'⟩
 have a5:bn (gosN (Zvh1 n))=0:=bn_f (Zmk1 n);have a6:=Zjk1 (!decide (Zde1 (Zvh1 n).DK=(Zvh1 n).DK));have a7:gosN n=false→bn (!decide (Zde1 (Zvh1 n).DK=(Zvh1 n).DK))=0:=fun hg=>bn_f (by rw [DT (Zpk1 h hg)];rfl);unfold meas;cases hg:gosN n with
 | true=>right;rw [show bn true=1 from rfl,a3,a5];omega
 | false=>
   rw [a7 hg,a3,a5,show bn false=0 from rfl];by_cases c1:n.DK.DI.PH=2∨n.AK=[]
   ·by_cases c2:Zth1 n=none∨n.DK.TH≠0
    ·cases c3:decide (n.DK.DI.PH=0)&&untN n with
     | true=>right;rw [show bn true=1 from rfl];omega
     | false=>
       by_cases c4:Zde1 n.DK=n.DK
       ·by_cases c5:n.DK.DI.PH=2∧untN n=true
        ·right;rw [bn_t c5.2,bn_f (Zsk1 c5.1)];omega
        ·left;refine ⟨c1,c2,?_,c4,?_,hg⟩
         ·rw [Bool.and_eq_false_iff,decide_eq_false_iff_not] at c3;exact c3
         ·by_cases hp:n.DK.DI.PH=2
          ·right;cases hu:n.DK.DI.SD.any (untB n.TL) with
           | false=>rfl
           | true=>exact absurd ⟨hp,hu⟩ c5
          ·exact .inl hp
       ·right;rw [DN c4,show bn (!false)=1 from rfl];omega
    ·right;rcases a2.2 with q | q
     ·exact absurd q c2
     ·omega
   ·right;have c1:=not_or.1 c1;rw [Zlk1,if_neg c1.1];have:bn (!n.AK.isEmpty)=1:=bn_t (by cases he:n.AK with
     | nil=>exact absurd he c1.2
     | cons a l=>rfl)
    rw [this];have:bn (!([]:List KE).isEmpty)=0:=rfl;omega
theorem Zuk1 (n:NO):meas n≤8:=by
 have b1:=Zjk1 (!n.AK.isEmpty);have b2:=Zjk1 (decide (n.DK.DI.PH=0)&&untN n);have b3:=Zjk1 (!decide (Zde1 n.DK=n.DK));have b4:=Zjk1 (untN n);have b5:=Zjk1 (gosN n);have:thM n.DK.TH≤2:=by unfold thM;(repeat' split)<;>omega
 unfold meas;omega
theorem Zvk1 {n:NO} (h:OkN n):Quiet n↔Zvh1 n=n:=by
 constructor
 ·exact fun q=>(q.once h).1
 ·intro e;rcases Ztk1 h with q | q
  ·exact q
  ·rw [e] at q;omega
def Zwk1:Nat→NO→List ML→List EV→NO×List ML×List EV
 | 0,n,E,V=>(n,E,V)
 | k+1,n,E,V=>if Zvh1 n=n then (n,E,V) else Zwk1 k (Zvh1 n) (E++Zwh1 n) (V++Zxh1 n)
def Zxk1 (n:NO) (E:List ML) (V:List EV):NO×List ML×List EV:=Zwk1 9 n E V
theorem Zyk1 {n:NO} (h:OkN n):(Zwh1 n).length≤500:=by
 have h1:=h.askedL;have h2:=Z8i1 ((Zji1 _).2 h.pre.dr);have hm:OkN (graN (midN n)):=h.pre.firgra;have h3:=hm.dr.din.len;have h4:(telT (graN (midN n))).2.length≤64:=by
  unfold telT;split
  ·have:=Zzh1 (graN (midN n)).DK.DI.ID (graN (midN n)).DK.DI.SD (graN (midN n)).TL [];simp only [List.length_nil] at this;omega
  ·simp
 have h5:(Zuh1 (telN (graN (midN n)))).length≤64:=by have:=Znh1 (graN (midN n)).DK.DI.ID (graN (midN n)).DK.TH (graN (midN n)).DK.NE (graN (midN n)).DK.DI.SD;unfold Zuh1;show (Zih1 (graN (midN n)).DK.DI.ID (graN (midN n)).DK.TH (graN (midN n)).DK.NE (graN (midN n)).DK.DI.SD).length≤64;omega
 have h6:(Zrh1 n).length≤64:=by
  unfold Zrh1;split
  ·simp
  ·unfold ansM;rw [List.length_map];omega
 unfold Zwh1;simp only [List.length_append];omega
theorem Zzk1 {n:NO} (h:OkN n):(Zxh1 n).length≤500:=by
 have h1:=h.askedL;have h6:(Zsh1 n).length≤64:=by
  unfold Zsh1;split
  ·simp
  ·unfold ansV;rw [List.length_map];omega
 have:(graV (midN n)).length≤1:=by rcases Zlj1 (midN n) with ⟨_,e⟩ | ⟨s,l,_,_,_,_,e⟩<;>rw [e]<;>simp
 unfold Zxh1;rw [List.length_append];omega
def tupS (r:NO×List ML×List EV):Int×Int×Int×Int×List SE×List Int×Int×List SX×List Int×List KE×List KE×List ML×List EV:=(r.1.DK.DI.ID,r.1.DK.DI.PH,r.1.DK.TH,r.1.BK.LA,r.1.BK.SE,r.1.TL,0,r.1.DK.DI.SD,r.1.DK.NE,r.1.KN,r.1.AK,r.2.1,r.2.2)
theorem Z0l1 (body:Int×Int×Int×Int×List SE×List Int×List ML×List KE×List EV×List KE×List Int×List SX→Option ((Int×Int×Int×Int×List SE×List Int×List ML×List KE×List EV×List KE×List Int×List SX) ⊕ (Int×Int×Int×Int×List SE×List Int×Int×List SX×List Int×List KE×List KE×List ML×List EV)))
  (hb:∀(n:NO) E V,OkN n→E.length≤600000→V.length≤600000→body (n.DK.DI.ID,n.DK.DI.PH,n.DK.TH,n.BK.LA,n.BK.SE,n.TL,E,n.KN,V,n.AK,n.DK.NE,n.DK.DI.SD) =
    if n=Zvh1 n then some (.inr (tupS (Zvh1 n,E++Zwh1 n,V++Zxh1 n))) else some (.inl ((Zvh1 n).DK.DI.ID,(Zvh1 n).DK.DI.PH,(Zvh1 n).DK.TH,(Zvh1 n).BK.LA,(Zvh1 n).BK.SE,(Zvh1 n).TL,E++Zwh1 n,(Zvh1 n).KN,V++Zxh1 n,(Zvh1 n).AK,(Zvh1 n).DK.NE,(Zvh1 n).DK.DI.SD))):
  ∀(k:Nat) (n:NO) (E:List ML) (V:List EV),OkN n→meas n<k→E.length+500*k≤500000→V.length+500*k≤500000→
   loop body (n.DK.DI.ID,n.DK.DI.PH,n.DK.TH,n.BK.LA,n.BK.SE,n.TL,E,n.KN,V,n.AK,n.DK.NE,n.DK.DI.SD)=some (tupS (Zwk1 k n E V))
 | 0,_,_,_,_,h,_,_=>by omega
 | k+1,n,E,V,hn,hm,hE,hV=>by
   have l1:=Zyk1 hn;have l2:=Zzk1 hn;rw [Zdc,hb n E V hn (by omega) (by omega)];unfold Zwk1;by_cases hq:Zvh1 n=n
   ·obtain ⟨q1,q2,q3⟩:=((Zvk1 hn).2 hq).once hn;rw [if_pos hq.symm,if_pos hq,q2,q3,List.append_nil,List.append_nil,hq]
   ·rw [if_neg fun e=>hq e.symm,if_neg hq];refine Z0l1 body hb k (Zvh1 n) _ _ hn.once ?_ (by rw [List.length_append];omega) (by rw [List.length_append];omega);rcases Ztk1 hn with q | q
    ·exact absurd (q.once hn).1 hq
    ·omega
theorem Z1l1 (f:Int) (n:NO) (E:List ML) (V:List EV) (J:OkN n) (U:E.length≤600000) (Y:V.length≤600000):
  (Zcy n.DK.DI.ID n.DK.DI.PH n.DK.TH n.BK.LA n.BK.SE n.TL n.DK.DI.SD n.DK.NE n.KN n.AK)=some (n.DK.DI.SD,n.DK.NE,n.KN,n.TL,n.AK,n.BK.SE)
  ∧Zr81 n.DK.DI.ID n.DK.DI.PH n.DK.TH n.BK.LA n.BK.SE n.TL f n.DK.DI.SD n.DK.NE n.KN n.AK E V=some (tupN (Zvh1 n) (E++Zwh1 n) (V++Zxh1 n))
  ∧Zr01 n (Zvh1 n)=some (decide (n=Zvh1 n)):=
 ⟨Z3k1 n _ _ _ _ J.few,Zci1 f n J.go E V U Y,Z1k1 n _ J.few⟩
theorem Z2l1 (n:NO) (h:OkN n) (V:List EV) (J:V.length≤100000):
  Z491 n.DK.DI.ID n.DK.DI.PH n.DK.TH n.BK.LA n.BK.SE n.TL 0 n.DK.DI.SD n.DK.NE n.KN n.AK V=some (tupS (Zxk1 n [] V)):=by
 dsimp only [Z491];rw [DT rfl,Bool.not_true,Zia1];refine Z0l1 _ (fun m E V hm hE J=>?_) 9 n [] V h (by have:=Zuk1 n;omega) (by simp) (by omega);obtain ⟨e1,e2,e3⟩:=Z1l1 0 m E V hm hE J;dsimp only [Z391];rw [e1,OB,e2,OB];have e3':Zr01 m (Zvh1 m)=some (decide (m=Zvh1 m)):=e3;dsimp only [tupN];rw [e3',OB];by_cases hq:m=Zvh1 m
 ·rw [if_pos hq,DT hq];rfl
 ·rw [if_neg hq,DN hq];rfl
theorem Z3l1 (a b c d e:Int) (B:List SE) (he:e≠0) (V:List EV) (N:List Int) (S:List SX) (T:List Int) (A K:List KE):
  Z491 a b c d B T e S N K A V=some (0,0,0,0,[],[],e,[],[],[],[],[],[]):=by
 dsimp only [Z491];rw [DN he,Bool.not_false,Zha1]
theorem Z4l1 {P:NO→List ML→List EV→Prop} (hs:∀n E V,OkN n→P n E V→P (Zvh1 n) (E++Zwh1 n) (V++Zxh1 n)):∀(k:Nat) (n:NO) (E:List ML) (V:List EV),OkN n→P n E V→P (Zwk1 k n E V).1 (Zwk1 k n E V).2.1 (Zwk1 k n E V).2.2
 | 0,_,_,_,_,h=>h
 | k+1,n,E,V,hn,h=>by
   unfold Zwk1;split
   ·exact h
   ·exact Z4l1 hs k _ _ _ hn.once (hs n E V hn h)
theorem Z5l1 {P:NO→List ML→List EV→Prop} (hs:∀n E V,OkN n→P n E V→P (Zvh1 n) (E++Zwh1 n) (V++Zxh1 n)) {n:NO} {E:List ML} {V:List EV} (J:OkN n) (h:P n E V):P (Zxk1 n E V).1 (Zxk1 n E V).2.1 (Zxk1 n E V).2.2:=Z4l1 hs 9 n E V J h
def Z6l1 (p:Int) (s:SE):Bool:=decide (s.SS=0)&&decide (p∈s.NE)
def Z7l1 (p:Int) (l:List SE):List Int:=(l.filter (Z6l1 p)).map (·.ID)
theorem Z8l1 (s:SE) (p:Int) (ids:List Int) (hs:s.NE.length≤1000000) (hi:ids.length≤1000000):Zn21 s p ids=some (Z6l1 p s,if Z6l1 p s then ids++[s.ID] else ids):=by simp only [Zn21,Zm21,Zl21,Z3c1 s.NE p hs,OB];rw [Zna1 _ _ (by omega) (by simp;omega),OB];unfold Z6l1;cases decide (s.SS=0)<;>cases decide (p∈s.NE)<;>rfl
theorem Z9l1 (p:Int) (l:List SE) (s:SE):Z7l1 p (l++[s])=if Z6l1 p s then Z7l1 p l++[s.ID] else Z7l1 p l:=by unfold Z7l1;rw [List.filter_append,List.map_append];cases h:Z6l1 p s<;>simp [h]
theorem Zal1 (p:Int) (l:List SE):(Z7l1 p l).length≤l.length:=by unfold Z7l1;rw [List.length_map];exact List.length_filter_le _ _
theorem Zbl1 (p:Int) (l:List SE) (hl:l.length≤100000) (J:∀s∈l,s.NE.length≤1000000):
  Zh41 p l=some (match l.findIdx? (Z6l1 p) with | some i=>((i:Int),Z7l1 p (l.take (i+1))) | none=>(-1,[])):=by
 unfold Zh41;have key:∀(post pre:List SE),l=pre++post→(∀s∈pre,Z6l1 p s=false)→loop (Zg41 p l) ((pre.length:Int),([]:List Int))=some (match l.findIdx? (Z6l1 p) with | some i=>((i:Int),Z7l1 p (l.take (i+1))) | none=>(-1,[])):=by
  intro post;induction post with
  | nil=>
    intro pre h hp;have h:pre=l:=by simpa using h.symm
    subst h;have:pre.findIdx? (Z6l1 p)=none:=by rw [List.findIdx?_eq_none_iff];exact hp
    rw [this,Zdc];dsimp only [Zg41];rw [Zpa1,Zia1];rfl
  | cons x post ih=>
    intro pre h hp;have hx:=Z6b1 h;have hm:=Z7b1 h;rw [Zdc];dsimp only [Zg41];rw [Zoa1 hx,Zha1,Zla1 hx,OB,Z8l1 x p [] (J x (Z8b1 h)) (by simp),OB];cases hg:Z6l1 p x with
    | true=>
      have hf:l.findIdx? (Z6l1 p)=some pre.length:=by
       rw [List.findIdx?_eq_some_iff_getElem];refine ⟨by omega,?_,fun j hj=>?_⟩
       ·have:l[pre.length]'(by omega)=x:=(List.getElem?_eq_some_iff.1 hx).2;rw [this];exact hg
       ·have h6:l[j]?=pre[j]?:=by rw [h,List.getElem?_append_left hj]
        have:l[j]'(by omega)∈pre:=by have e:l[j]?=some (l[j]'(by omega)):=List.getElem?_eq_getElem _;rw [h6] at e;exact List.mem_of_getElem? e
        simpa using hp _ this
      rw [hf];have ht:l.take (pre.length+1)=pre++[x]:=by rw [h,show pre++x::post=(pre++[x])++post by simp,List.take_left' (by simp)]
      have hz:Z7l1 p pre=[]:=by unfold Z7l1;rw [List.filter_eq_nil_iff.2 fun s hs=>by rw [hp s hs];simp];rfl
      dsimp only;rw [ht,Z9l1,hg,hz];rfl
    | false=>
      have:=ih (pre++[x]) (by simpa using h) fun s hs=>by
       rcases List.mem_append.1 hs with hs | hs
       ·exact hp s hs
       ·simp at hs;subst hs;exact hg
      rw [Zbb1] at this;rw [←this];dsimp only;rw [if_neg (by simp),Zia1,Zqa1 (by omega)]
 exact key l [] rfl (by simp)
theorem Zcl1 (p:Int) (l:List SE) (hl:l.length≤100000) (J:∀s∈l,s.NE.length≤1000000):
  Zq51 p l=some (Z7l1 p l,l.filter fun s=>!Z6l1 p s):=by
 simp only [Zq51,Zbl1 p l hl J,OB];cases hf:l.findIdx? (Z6l1 p) with
 | none=>
   rw [List.findIdx?_eq_none_iff] at hf;dsimp only;rw [DT rfl,Zha1,List.filter_eq_self.2 (fun x hx=>by rw [hf x hx];rfl)];have:Z7l1 p l=[]:=by unfold Z7l1;rw [List.filter_eq_nil_iff.2 fun s hs=>by rw [hf s hs];simp];rfl
   rw [this]
 | some i=>
   obtain ⟨hi,hq,hw⟩:=List.findIdx?_eq_some_iff_getElem.1 hf;dsimp only;rw [DN (by omega),Zia1,Zqa1 (by omega)]
   let F:List SE→List SE:=fun pre=>pre.filter fun x=>!Z6l1 p x
   have hF:∀pre post,l=pre++post→(F pre).length≤pre.length:=fun pre post _=>List.length_filter_le _ _;have key:=Z2b1 l (Zp51 p) (fun pre=>(((F pre).length:Int),(pre.length:Int),F pre++l.drop (F pre).length,Z7l1 p pre)) (fun _ _=>some (Z7l1 p l,F l)) (fun pre x post h=>?_) ?_ (l.drop (i+1)) (l.take (i+1)) (by simp)
   ·have e1:F (l.take (i+1))=l.take i:=by
     show (l.take (i+1)).filter _=_;rw [List.take_succ_eq_append_getElem hi,List.filter_append];have a1:(l.take i).filter (fun x=>!Z6l1 p x)=l.take i:=by rw [List.filter_eq_self];intro x hx;obtain ⟨j,hj,rfl⟩:=List.mem_iff_getElem.1 hx;rw [List.getElem_take];have:=hw j (by simp at hj;omega);simpa using this
     have a2: [l[i]].filter (fun x=>!Z6l1 p x)=[]:=by simp [hq]
     rw [a1,a2,List.append_nil]
    rw [e1] at key;have e2:(l.take i).length=i:=by simp;omega
    have e3:(l.take (i+1)).length=i+1:=by simp;omega
    rw [e2,e3,List.take_append_drop] at key;exact key
   ·left;refine ⟨?_,rfl⟩;have hx:=Z6b1 h;have hm:=Z7b1 h;have h8:=hF pre (x::post) h;have hC:=Zal1 p pre;have h6:(F pre++l.drop (F pre).length).length=l.length:=by simp;omega
    have h9:(F pre++l.drop (F pre).length)[pre.length]?=some x:=by rw [List.getElem?_append_right h8,List.getElem?_drop,show (F pre).length+(pre.length-(F pre).length)=pre.length by omega];exact hx
    dsimp only [Zp51];rw [Zoa1 h9,Zha1,Zla1 h9,OB,Z8l1 x p _ (J x (Z8b1 h)) (by omega),OB];have hc:F (pre++[x])=F pre++(if Z6l1 p x then [] else [x]):=by show (pre++[x]).filter _=_;rw [List.filter_append];congr 1;cases hA:Z6l1 p x<;>simp [hA]
    rw [←Z9l1];cases ho:Z6l1 p x with
    | true=>rw [Bool.not_true,Zia1];dsimp only [Zo51];rw [Zqa1 (by omega),hc,ho,if_pos rfl,List.append_nil,Zbb1]
    | false=>
      rw [Bool.not_false,Zha1];obtain ⟨d,hd⟩:=Z8c1 (fun x=>!Z6l1 p x) pre post x;rw [←h] at hd;have hd':l.drop (F pre).length=d::l.drop ((F pre).length+1):=hd;have hB:(F pre++l.drop (F pre).length)[(F pre).length]?=some d:=by rw [hd'];simp
      rw [Zla1 hB,OB];dsimp only [Zo51];rw [Zqa1 (by omega),Zqa1 (by omega),hc,ho,if_neg (by simp),Zbb1,hd',Int.toNat_natCast,Zbb1];simp
   ·dsimp only [Zp51];have h8:=hF l [] (by simp);have h6:(F l++l.drop (F l).length).length=l.length:=by simp;omega
    rw [show ((l.length:Int))=((F l++l.drop (F l).length).length:Int) by rw [h6],Zpa1,Zia1];dsimp only [Zn51];unfold vw_;rw [ln_eq,h6,if_pos ⟨by omega,by omega,by omega,by omega⟩,OB];unfold Zug;rw [h6,if_pos ⟨by omega,by simp;omega⟩,OB];unfold Z9c;rw [if_pos ⟨by omega,by omega,by simp;omega⟩,OB];simp [Int.toNat_natCast,List.append_assoc]
theorem Zdl1 (b:BK) (p:Int) (hk:okBk b=true):Zl61 b p=some (⟨b.LA,b.SE.filter fun s=>!Z6l1 p s⟩,Z7l1 p b.SE,0):=by have h:=(Zqi1 b).1 hk;have hf:=h.few;have hl:=h.len;simp only [Zl61,Zoc1 b hf,hk,if_true,OB,Zsc1 b hf,Zcl1 p b.SE (by omega) (fun s hs=>hf.2 s hs),decide_true,Bool.not_true,Zia1]
theorem BkOK.sub {b:BK} (h:BkOK b) {l:List SE} (hs:l.Sublist b.SE):BkOK ⟨b.LA,l⟩:=⟨h.last,Nat.le_trans hs.length_le h.len,h.up.sublist hs,fun s hm=>h.ok s (hs.subset hm),fun s hm=>h.tl s (hs.tail.subset hm)⟩
theorem Zel1 {α:Type} (l:List α) (i:Nat):(l.take i++l.drop (i+1)).Sublist l:=by
 conv=>rhs;rw [←List.take_append_drop i l]
 refine List.Sublist.append (List.Sublist.refl _) ?_;rw [←List.drop_drop];exact List.drop_sublist _ _
def Zfl1 (s:SE):SE:=⟨s.ID,s.NE,s.SS,max s.Age (min s.Age 4611686018427387903+1)⟩
def Zgl1 (b:BK) (hold:Int):BK×Int:=match b.SE with
 | []=>(b,0)
 | s::l=>if s.SS=1 then (if (Zfl1 s).Age<hold then (⟨b.LA,Zfl1 s::l⟩,0) else (⟨b.LA,l⟩,s.ID)) else (b,0)
theorem Zhl1 (b:BK) (hold:Int) (hk:okBk b=true):Ze21 b hold=some ((Zgl1 b hold).1,(Zgl1 b hold).2,0):=by
 have h:=(Zqi1 b).1 hk;have hf:=h.few;have hl:=h.len;simp only [Ze21,Zoc1 b hf,hk,if_true,OB,Zsc1 b hf,decide_true,Bool.not_true,Zia1,ln_eq];unfold Zgl1;cases hb:b.SE with
 | nil=>dsimp only;rw [show decide (((([]:List SE).length:Nat):Int)=0)=true from rfl,Zha1];dsimp only [Zd21];rw [Zha1,←hb]
 | cons s l=>
   have hs:=h.ok s (by rw [hb];simp);have h0:at_ (s::l) 0=some s:=rfl;dsimp only;rw [DN (by simp;omega),Zia1,h0,OB];dsimp only [Zd21];by_cases h1:s.SS=1
   ·have h8:=hs.age;have h6:wr (min s.Age 4611686018427387903+1)=min s.Age 4611686018427387903+1:=Zka1 (by omega) (by omega);rw [DT h1,Bool.not_true,Zia1,h0,OB,h6,if_pos h1];have e:(⟨s.ID,s.NE,s.SS,max s.Age (min s.Age 4611686018427387903+1)⟩:SE)=Zfl1 s:=rfl;rw [e];have es:(s::l).set (Int.toNat 0) (Zfl1 s)=Zfl1 s::l:=rfl;rw [es];by_cases hh:(Zfl1 s).Age<hold
    ·rw [if_pos hh,show decide (max s.Age (min s.Age 4611686018427387903+1)<hold)=true from DT hh,Zha1]
    ·rw [if_neg hh,show decide (max s.Age (min s.Age 4611686018427387903+1)<hold)=false from DN hh,Zia1];have hd:=Zvc1 (Zfl1 s::l) 0 (by simp) (by rw [hb] at hl;simp at hl ⊢;omega);have hd:Zks 0 1 (Zfl1 s::l)=some l:=hd;rw [hd,OB]
   ·rw [DN h1,Bool.not_false,Zha1,if_neg h1,←hb]
theorem BkOK.tick {b:BK} (h:BkOK b) (hold:Int):BkOK (Zgl1 b hold).1:=by
 unfold Zgl1;cases hb:b.SE with
 | nil=>exact h
 | cons s l=>
   dsimp only;split
   ·rename_i h1;split
    ·have hu:=h.up;have hl:=h.len;have ht:=h.tl;have hs:=h.ok s (by rw [hb];simp);rw [hb] at hu hl ht;refine ⟨h.last,hl,?_,fun t ht'=>?_,ht⟩
     ·rw [List.pairwise_cons] at hu ⊢;exact hu
     ·rcases List.mem_cons.1 ht' with rfl | ht'
      ·have:=hs.age;exact {hs with age:=by show 0≤max s.Age _;omega,st:=.inl h1}
      ·exact h.ok t (by rw [hb];exact List.mem_cons_of_mem _ ht')
    ·exact h.sub (by rw [hb];exact List.sublist_cons_self _ _)
   ·exact h
def Zil1 (is:Bool) (c e:Int):Int:=if decide (e=0)&&!is then c else e
theorem Zjl1 (is:Bool) (c a b d f:Int) (B:List SE) (e:Int) (S:List SX) (N:List Int) (K:List KE) (T:List Int) (A:List KE):Z5t is c a b d f B e S N K T A=some (decide (Zil1 is c e=0),Zil1 is c e):=by simp only [Z5t,Z4t,Z3t,Zil1];by_cases h:e=0<;>cases is<;>simp [h,ifb]
theorem Zkl1 (is:Bool) (c a b d f e:Int) (S:List SX) (N:List Int) (B:List SE) (K:List KE) (T:List Int) (A:List KE):Zkt is c a b d f e S N B K T A=some (decide (Zil1 is c e=0),Zil1 is c e):=by simp only [Zkt,Zjt,Zit,Zil1];by_cases h:e=0<;>cases is<;>simp [h,ifb]
theorem Zll1 (c a b d f e:Int) (S:List SX) (N:List Int) (B:List SE) (K:List KE) (T:List Int) (A:List KE):Zot c a b d f e S N B K T A=some (decide (Zil1 false c e=0),Zil1 false c e):=by simp only [Zot,Znt,Zmt,Zil1];by_cases h:e=0<;>simp [h,ifb]
theorem Zml1 {c e:Int} (is:Bool) (h:e≠0):Zil1 is c e=e:=by unfold Zil1;rw [DN h];rfl
theorem Znl1 (c e:Int):Zil1 true c e=e:=by unfold Zil1;simp
theorem Zol1 (c:Int):Zil1 false c 0=c:=rfl
def Zpl1 (S:List SX) (p:Int):Option Nat:=S.findIdx? fun x=>decide (x.PE=p)
theorem Zql1 (x:node_node) (p:Int) (h:x.NO.DK.DI.SD.length≤1000000):Zqt x p=some (plc (Zpl1 x.NO.DK.DI.SD p)):=by simp only [Zqt,Zib1 x.NO.DK.DI.SD (fun z=>Zsn z p) (fun x=>decide (x.PE=p)) (by omega) (fun _ _=>rfl),OB];rfl
theorem Zrl1 {S:List SX} {p:Int} {j:Nat} (h:Zpl1 S p=some j):∃x,S[j]?=some x∧x.PE=p:=by obtain ⟨hi,hq,_⟩:=List.findIdx?_eq_some_iff_getElem.1 h;exact ⟨_,List.getElem?_eq_getElem hi,by simpa using hq⟩
theorem Zsl1 {S:List SX} {p:Int} (h:Zpl1 S p=none):∀x∈S,x.PE≠p:=by unfold Zpl1 at h;rw [List.findIdx?_eq_none_iff] at h;intro x hx;simpa using h x hx
theorem Ztl1 (d:DK) (h:DrOK d) (J:d.NE.length≤1000000) (K A:List KE) (T:List Int) (V:List EV) (x:Int) (B:List SE) (e:Int):
  Zd71 d.DI.ID d.DI.PH d.TH x B e d.DI.SD d.NE K T A V=some (d.DI.ID,d.DI.PH,0,d.DI.SD,[]):=by
 simp only [Zd71,Zc71,Zdf1 d ((Zji1 d).2 h) J,OB];by_cases h0:d.TH=0
 ·rw [if_pos h0,h.nz h0,h0];rfl
 ·rw [if_neg h0];rfl
theorem Zul1 (r:BK×Int) (b c d L:Int) (l:List SE) (S:List SX) (N:List Int) (K:List KE) (T:List Int) (A:List KE):Zyx r.1 r.2 b c d L l 0 S N K T A=some (if r.2=0 then (true,r.1.LA,r.1.SE,0) else (false,L,l,r.2)):=by
 simp only [Zyx,Zxx,Zjl1,OB];by_cases h:r.2=0
 ·rw [if_pos h,h];rfl
 ·rw [if_neg h,DN h,Zol1,DN h];rfl
theorem Zvl1 (k i a b c d:Int) (B:List SE) (e:Int) (S:List SX) (N:List Int) (K:List KE) (T:List Int) (A:List KE):Zct k i a b c d B e S N K T A=some [⟨k,a,i,0,[]⟩]:=by simp only [Zct];rw [Zna1 _ _ (by omega) (by simp),OB];rfl
theorem Zwl1 (n:NO) (J:FewN n) (a b c d:Int) (N:List Int) (B:List SE) (K:List KE) (T:List Int) (A:List KE):Zvx a b c d B n.DK.DI.SD N K T A=some (Zhf1 n Zjf1):=by
 have hl:=J.sides;simp only [Zvx,Zat];have:loop (Z9t n.DK.DI.SD fun z=>Z8n z) (0,([]:List Int))=some (Zhf1 n Zjf1):=by
  refine Z5b1 n.DK.DI.SD _ (fun pre=>((pre.length:Int),(pre.filter Zjf1).map (·.PE))) _ (fun pre x post h=>?_) ?_
  ·have hx:=Z6b1 h;have hm:=Z7b1 h;have hf:=List.length_filter_le Zjf1 pre;dsimp only [Z9t];rw [Zoa1 hx,Zha1,Zla1 hx,OB,show Z8n x=some (Zjf1 x) from rfl,OB];cases hq:Zjf1 x with
   | true=>rw [Zha1,Zna1 _ _ (by omega) (by simp;omega),OB];dsimp only [Z8t];rw [Zqa1 (by omega),Zbb1];simp [hq]
   | false=>rw [Zia1];dsimp only [Z8t];rw [Zqa1 (by omega),Zbb1];simp [hq]
  ·dsimp only [Z9t];rw [Zpa1,Zia1];rfl
 rw [this];rfl
def Zxl1 (n:NO) (b:BK):NO:=⟨n.DK,b,n.KN,n.TL,n.AK⟩
def Zyl1 (n:NO) (b:BK):NO:=⟨⟨n.DK.DI,0,[]⟩,b,n.KN,n.TL,n.AK⟩
def Zzl1 (n:NO) (a:Do):Int×NO×List EV:=
 if a.KI=0 then
  (if (Zwc1 n.BK a.ID a.NE).2=0 then (if (a.NE.all fun z=>decide (z∈Zhf1 n Zjf1))=true then (0,Zxl1 n (Zwc1 n.BK a.ID a.NE).1,[⟨0,n.DK.DI.ID,a.ID,0,setL a.NE⟩]) else (181,n,[])) else ((Zwc1 n.BK a.ID a.NE).2,n,[]))
 else if a.KI=1 then
  (if (endP n.BK a.ID 1).2=0 then (0,Zyl1 n (endP n.BK a.ID 1).1,[⟨2,n.DK.DI.ID,a.ID,0,[]⟩]) else ((endP n.BK a.ID 1).2,n,[]))
 else if a.KI=2 then
  (if (endP n.BK a.ID 0).2=0 then (0,if (Z1i1 n).1.ID=a.ID∧n.DK.TH=1 then Zyl1 n (endP n.BK a.ID 0).1 else Zxl1 n (endP n.BK a.ID 0).1,[⟨3,n.DK.DI.ID,a.ID,0,[]⟩]) else ((endP n.BK a.ID 0).2,n,[]))
 else if a.KI=3 then
  (if (Zgl1 n.BK a.Hold).2=0 then (0,Zxl1 n (Zgl1 n.BK a.Hold).1,[]) else (0,Zyl1 n (Zgl1 n.BK a.Hold).1,[⟨4,n.DK.DI.ID,(Zgl1 n.BK a.Hold).2,0,[]⟩]))
 else (0,n,[])
def tupA (e:Int) (m:NO) (V:List EV):Int×Int×Int×Int×List SE×Int×List EV×List SX×List Int:=(m.DK.DI.ID,m.DK.DI.PH,m.DK.TH,m.BK.LA,m.BK.SE,e,V,m.DK.DI.SD,m.DK.NE)
theorem Z0m1 (n:NO) (a b c d:Int) (S:List SX) (N:List Int) (K:List KE) (T:List Int) (A:List KE):Zgt a b c d S N n.BK.SE K T A=some (Z1i1 n):=by
 simp only [Zgt,ln_eq];unfold Z1i1;cases h:n.BK.SE with
 | nil=>rfl
 | cons s l=>rw [DN (by simp;omega),Zia1];rfl
theorem Z1m1 (n:NO) (a b c d:Int) (S:List SX) (N:List Int) (K:List KE) (T:List Int) (A:List KE):Zvt a b c d n.BK.SE S N K T A=some (Z1i1 n):=by
 simp only [Zvt,ln_eq];unfold Z1i1;cases h:n.BK.SE with
 | nil=>rfl
 | cons s l=>rw [DN (by simp;omega),Zia1];rfl
theorem Z2m1 (n:NO) (a:Do) (h:OkN n) (ha:a.NE.length≤1000):
  Zv71 a n.DK.DI.ID n.DK.DI.PH n.DK.TH n.BK.LA 0 n.DK.DI.SD n.DK.NE n.BK.SE n.KN n.TL n.AK=some (tupA (Zzl1 n a).1 (Zzl1 n a).2.1 (Zzl1 n a).2.2):=by
 have hf:=h.few;have hb:=hf.bk;have hN:=hf.need;have hS:=hf.sides;have hp:=Z0g1 n Zjf1;have h6:∀(x:Int) (B:List SE) (e:Int) (K A:List KE) (T:List Int) (V:List EV),Zd71 n.DK.DI.ID n.DK.DI.PH n.DK.TH x B e n.DK.DI.SD n.DK.NE K T A V=some (n.DK.DI.ID,n.DK.DI.PH,0,n.DK.DI.SD,[]):=fun x B e K A T V=>Ztl1 n.DK h.dr (by omega) K A T V x B e;unfold Zv71 Zzl1;have eb:(⟨n.BK.LA,n.BK.SE⟩:BK)=n.BK:=rfl;rw [eb];by_cases k0:a.KI=0
 ·rw [DT k0,Zha1,if_pos k0,Zxc1 n.BK a.ID a.NE hb (by omega),OB];dsimp only [Zr71];rw [Zjl1,OB];by_cases e0:(Zwc1 n.BK a.ID a.NE).2=0
  ·rw [if_pos e0,e0,DT rfl,Znl1];dsimp only;rw [DT rfl,Zha1,Zwl1 n hf,OB,Zec1 a.NE (Zhf1 n Zjf1) (by omega) (by omega),OB,Zjl1,OB];dsimp only [Zq71];cases hw:(a.NE.all fun z=>decide (z∈Zhf1 n Zjf1)) with
   | true=>rw [Znl1,DT rfl,Zha1,Zxb1 a.NE (by omega),OB,Zna1 _ _ (by omega) (by simp),OB];rfl
   | false=>rfl
  ·rw [if_neg e0,DN e0,Zol1];dsimp only;rw [DN e0,Zia1];rfl
 ·rw [DN k0,Zia1,if_neg k0];by_cases k1:a.KI=1
  ·rw [DT k1,Zha1,if_pos k1,Z2d1 n.BK a.ID hb,OB,Zul1,OB];by_cases e0:(endP n.BK a.ID 1).2=0
   ·rw [if_pos e0,if_pos e0];dsimp only;rw [Zha1,Zvl1,OB,h6,OB];rfl
   ·rw [if_neg e0,if_neg e0];rfl
  ·rw [DN k1,Zia1,if_neg k1];by_cases k2:a.KI=2
   ·rw [DT k2,Zha1,if_pos k2,Z0m1 n,OB,Z3d1 n.BK a.ID hb,OB,Zul1,OB];by_cases e0:(endP n.BK a.ID 0).2=0
    ·rw [if_pos e0,if_pos e0];dsimp only;rw [Zha1,Zvl1,OB];dsimp only [Zs71];rw [h6,OB];by_cases c1:(Z1i1 n).1.ID=a.ID
     ·rw [DT c1];by_cases c2:n.DK.TH=1
      ·rw [DT c2,if_pos ⟨c1,c2⟩];rfl
      ·rw [DN c2,if_neg fun c=>c2 c.2];rfl
     ·rw [DN c1,if_neg fun c=>c1 c.1];rfl
    ·rw [if_neg e0,if_neg e0];rfl
   ·rw [DN k2,Zia1,if_neg k2];by_cases k3:a.KI=3
    ·rw [DT k3,Zha1,if_pos k3,Zhl1 n.BK a.Hold h.bk,OB];dsimp only [Zu71,Zt71];have:=Zul1 ((Zgl1 n.BK a.Hold).1,0) n.DK.DI.ID n.DK.DI.PH n.DK.TH n.BK.LA n.BK.SE n.DK.DI.SD n.DK.NE n.KN n.TL n.AK;dsimp only at this;rw [this,OB,if_pos rfl];dsimp only;rw [Zha1];by_cases e0:(Zgl1 n.BK a.Hold).2=0
     ·rw [if_pos e0,DT e0];rfl
     ·rw [if_neg e0,DN e0,Bool.not_false,Zha1,Zvl1,OB,h6,OB];rfl
    ·rw [DN k3,Zia1,if_neg k3];rfl
theorem Z3m1 {α:Type} {S:List α} {j:Nat} {x:α} (h:S[j]?=some x) (y:α):S=S.take j++x::S.drop (j+1)∧S.set j y=S.take j++y::S.drop (j+1):=by
 obtain ⟨hj,hx⟩:=List.getElem?_eq_some_iff.1 h;have e1:S=S.take j++x::S.drop (j+1):=by rw [←hx];simp
 refine ⟨e1,?_⟩;have hl:(S.take j).length=j:=by simp;omega
 conv=>lhs;rw [e1]
 rw [List.set_append_right _ _ (by omega),hl,Nat.sub_self];rfl
theorem Z4m1 {S:List SX} (hu:S.Pairwise fun x y=>x.PE<y.PE) {j:Nat} {x:SX} (h:S[j]?=some x) (y:SX) {z:SX}:z∈S.set j y↔z=y∨z∈S∧z.PE≠x.PE:=by
 obtain ⟨e1,e2⟩:=Z3m1 h y;have hu':=hu;rw [e1,List.pairwise_append,List.pairwise_cons] at hu';obtain ⟨_,⟨u2,_⟩,u3⟩:=hu';rw [e2,List.mem_append,List.mem_cons];constructor
 ·rintro (hz | hz | hz)
  ·have:=u3 z hz x (by simp);exact .inr ⟨by rw [e1];simp [hz],by omega⟩
  ·exact .inl hz
  ·have:=u2 z hz;exact .inr ⟨by rw [e1];simp [hz],by omega⟩
 ·rintro (hz | ⟨hz,hn⟩)
  ·exact .inr (.inl hz)
  ·rw [e1,List.mem_append,List.mem_cons] at hz;rcases hz with hz | hz | hz
   ·exact .inl hz
   ·rw [hz] at hn;exact absurd rfl hn
   ·exact .inr (.inr hz)
theorem Z5m1 {S:List SX} {j:Nat} {x y:SX} (h:S[j]?=some x) (hp:y.PE=x.PE):(S.set j y).map (·.PE)=S.map (·.PE):=by
 obtain ⟨e1,e2⟩:=Z3m1 h y;rw [e2]
 conv=>rhs;rw [e1]
 simp [hp]
theorem DrOK.state {d:DK} (h:DrOK d) {j:Nat} {x:SX} (hx:d.DI.SD[j]?=some x) {s:Int} (hs:0≤s∧s≤3):DrOK ⟨⟨d.DI.ID,d.DI.PH,d.DI.SD.set j {x with SS:=s}⟩,d.TH,d.NE⟩:=by
 have h6:=h.din.up;have hm:=fun {z:SX}=>Z4m1 (z:=z) h6 hx {x with SS:=s};have h8:=List.mem_of_getElem? hx;refine ⟨⟨h.din.id0,h.din.p0,h.din.p2,by rw [List.length_set];exact h.din.len,Z6i1 (Z5m1 hx rfl) h6,fun z hz=>?_⟩,h.t0,h.t2,h.up,h.nz,fun p hp=>?_⟩
 ·rcases hm.1 hz with rfl | ⟨hz,_⟩
  ·have:=h.din.side x h8;exact ⟨this.lo,this.ne,this.e0,this.e1,hs.1,hs.2,this.df⟩
  ·exact h.din.side z hz
 ·obtain ⟨y,hy,e⟩:=h.has p hp;by_cases hq:y.PE=x.PE
  ·exact ⟨_,hm.2 (.inl rfl),by show x.PE=p;omega⟩
  ·exact ⟨y,hm.2 (.inr ⟨hy,hq⟩),e⟩
def Z6m1 (n:NO) (p:Int):Bool:=(Z1i1 n).2&&(decide (n.DK.TH=1)&&decide ((Z1i1 n).1.ID∈Z7l1 p n.BK.SE))
def Z7m1 (n:NO) (p:Int):BK:=⟨n.BK.LA,n.BK.SE.filter fun s=>!Z6l1 p s⟩
def Z8m1 (n:NO) (j:Nat) (x:SX):DI:=⟨n.DK.DI.ID,n.DK.DI.PH,n.DK.DI.SD.set j {x with SS:=2}⟩
def Z9m1 (n:NO) (j:Nat) (x:SX):NO:=⟨if Z6m1 n x.PE then ⟨Z8m1 n j x,0,[]⟩ else ⟨Z8m1 n j x,n.DK.TH,n.DK.NE⟩,Z7m1 n x.PE,n.KN,n.TL,n.AK⟩
def Zam1 (id:Int) (l:List Int):List EV:=l.map fun i=>⟨5,id,i,0,[]⟩
def Zbm1 (n:NO) (p:Int):List EV:=⟨7,n.DK.DI.ID,0,p,[]⟩::Zam1 n.DK.DI.ID (Z7l1 p n.BK.SE)
theorem Zcm1 (n:NO) (h:OkN n) (p:Int) (j:Nat) (x:SX) (hp:Zpl1 n.DK.DI.SD p=some j) (hx:n.DK.DI.SD[j]?=some x) (h8:x.PE=p) (e:Int):
  Z281 p n.DK.DI.ID n.DK.DI.PH n.DK.TH n.BK.LA e n.DK.DI.SD n.DK.NE n.BK.SE n.KN n.TL n.AK =
   some ((Z9m1 n j x).DK.DI.ID,(Z9m1 n j x).DK.DI.PH,(Z9m1 n j x).DK.TH,(Z9m1 n j x).BK.LA,(Z9m1 n j x).BK.SE,Zbm1 n p,(Z9m1 n j x).DK.DI.SD,(Z9m1 n j x).DK.NE):=by
 subst h8;have hf:=h.few;have hS:=hf.sides;have hN:=hf.need;have hB:=hf.book;have hg:=Zal1 x.PE n.BK.SE;have h9:=h.dr.state hx (s:=2) (by omega);unfold Z281;rw [Zql1 _ _ (show _≤_ by dsimp only;omega),OB];dsimp only;rw [hp];dsimp only [plc];rw [Zla1 hx,OB,Int.toNat_natCast];have hc:(⟨x.PE,x.EP,2,x.FK,x.DY,x.TO,x.BO,x.Ask⟩:SX)={x with SS:=2}:=rfl;rw [hc];dsimp only [Z181];have h6:∀(S:List SX),Ztt 7 x.PE n.DK.DI.ID n.DK.DI.PH n.DK.TH n.BK.LA e S n.DK.NE n.BK.SE n.KN n.TL n.AK=some [⟨7,n.DK.DI.ID,0,x.PE,[]⟩]:=fun S=>by simp only [Ztt];rw [Zna1 _ _ (by omega) (by simp),OB];rfl
 rw [h6,OB,show (⟨n.BK.LA,n.BK.SE⟩:BK)=n.BK from rfl,Zdl1 n.BK x.PE h.bk,OB,Z1m1 n,OB];have j3:∀(d:DK),d.DI.ID=n.DK.DI.ID→Zz71 e n.KN n.TL n.AK [⟨7,n.DK.DI.ID,0,x.PE,[]⟩] (⟨n.BK.LA,n.BK.SE.filter fun s=>!Z6l1 x.PE s⟩,Z7l1 x.PE n.BK.SE,0) (d.DI.ID,d.DI.PH,d.TH,d.DI.SD,d.NE) =
   some (d.DI.ID,d.DI.PH,d.TH,(Z7m1 n x.PE).LA,(Z7m1 n x.PE).SE,Zbm1 n x.PE,d.DI.SD,d.NE):=fun d hd=>by
  dsimp only [Zz71];refine Z5b1 (Z7l1 x.PE n.BK.SE) _ (fun pre=>((pre.length:Int),⟨7,n.DK.DI.ID,0,x.PE,[]⟩::Zam1 n.DK.DI.ID pre)) _ (fun pre y post h0=>?_) ?_
  ·have hy:=Z6b1 h0;have hm:=Z7b1 h0;have ho:(Zam1 n.DK.DI.ID pre).length=pre.length:=by unfold Zam1;rw [List.length_map]
   dsimp only [Zy71,Zxt];rw [Zoa1 hy,Zha1,Zla1 hy,OB,Zna1 _ _ (by omega) (by simp;omega),OB,OB,Zqa1 (by omega),Zbb1,hd];simp [Zam1]
  ·dsimp only [Zy71,Zx71];rw [Zpa1,Zia1];rfl
 have hn:∀(x':Int) (B:List SE) (e:Int) (K A:List KE) (T:List Int) (V:List EV),Zd71 n.DK.DI.ID n.DK.DI.PH n.DK.TH x' B e (n.DK.DI.SD.set j {x with SS:=2}) n.DK.NE K T A V=some (n.DK.DI.ID,n.DK.DI.PH,0,n.DK.DI.SD.set j {x with SS:=2},[]):=fun x' B e K A T V=>Ztl1 _ h9 (by show n.DK.NE.length≤_;omega) K A T V x' B e;have j2:∀z,z=Z6m1 n x.PE→Z081 n.DK.DI.ID n.DK.DI.PH n.DK.TH n.BK.LA e n.DK.NE n.BK.SE n.KN n.TL n.AK (n.DK.DI.SD.set j {x with SS:=2}) [⟨7,n.DK.DI.ID,0,x.PE,[]⟩] (⟨n.BK.LA,n.BK.SE.filter fun s=>!Z6l1 x.PE s⟩,Z7l1 x.PE n.BK.SE,0) z=some ((Z9m1 n j x).DK.DI.ID,(Z9m1 n j x).DK.DI.PH,(Z9m1 n j x).DK.TH,(Z9m1 n j x).BK.LA,(Z9m1 n j x).BK.SE,Zbm1 n x.PE,(Z9m1 n j x).DK.DI.SD,(Z9m1 n j x).DK.NE):=fun z hz=>by
  dsimp only [Z081];cases z with
  | true=>rw [Zha1,hn,OB];have:=j3 ⟨Z8m1 n j x,0,[]⟩ rfl;refine Eq.trans this ?_;unfold Z9m1;rw [←hz];rfl
  | false=>rw [Zia1];have:=j3 ⟨Z8m1 n j x,n.DK.TH,n.DK.NE⟩ rfl;refine Eq.trans this ?_;unfold Z9m1;rw [←hz];rfl
 unfold Z6m1 at j2;cases h1:(Z1i1 n).2 with
 | false=>rw [Zia1];exact j2 false (by rw [h1];rfl)
 | true=>
   rw [Zha1];by_cases h2:n.DK.TH=1
   ·rw [DT h2,Zha1,Z2c1 _ _ (by dsimp only;omega),OB];exact j2 _ (by rw [h1,DT h2];rfl)
   ·rw [DN h2,Zia1];exact j2 false (by rw [h1,DN h2];rfl)
theorem Zdm1 {n:NO} {s:SE} {l:List SE} (h:n.BK.SE=s::l):Z1i1 n=(s,true):=by unfold Z1i1;rw [h]
theorem OkN.shut {n:NO} (h:OkN n) {j:Nat} {x:SX} (hx:n.DK.DI.SD[j]?=some x) (h0:x.SS=0):OkN (Z9m1 n j x):=by
 have hw:=(Zqi1 _).1 h.bk;have h9:=List.mem_of_getElem? hx;have hA:=h.dr.state hx (s:=2) (by omega);have hm:∀ {z:SX},z∈(Z8m1 n j x).SD↔z={x with SS:=2}∨z∈n.DK.DI.SD∧z.PE≠x.PE:=fun {z}=>Z4m1 (z:=z) h.rowS.up hx {x with SS:=2};have h6:(Z9m1 n j x).DK.DI=Z8m1 n j x:=by unfold Z9m1;dsimp only;split<;>rfl
 have ho:∀p∈(Z9m1 n j x).DK.NE,p∈n.DK.NE:=by
  unfold Z9m1;dsimp only;split
  ·intro p hp;simp at hp
  ·exact fun p hp=>hp
 have hD:∀s∈n.BK.SE,s.SS=1→Z6l1 x.PE s=false:=fun s _ e=>by unfold Z6l1;rw [DN (by omega)];rfl
 refine ⟨?_,(Zqi1 _).2 (hw.sub List.filter_sublist),fun k hk=>?_,h.dis,?_,h.kup,h.kr,fun z hz=>?_,h.told,fun p hp=>?_,?_,?_,fun z hz hn=>?_,fun s hs hd p hp=>?_⟩
 ·unfold Z9m1;dsimp only;split
  ·exact ⟨hA.din,by show (0:Int)≤0;omega,by show (0:Int)≤2;omega,.nil,fun _=>rfl,by simp⟩
  ·exact hA
 ·have:=h.may k hk;rw [h6];exact ⟨fun z hz=>by
   rcases hm.1 hz with rfl | ⟨hz,_⟩
   ·exact this.1 x h9
   ·exact this.1 z hz,this.2⟩
 ·rw [h6];exact h.id
 ·rw [h6] at hz ⊢;rcases hm.1 hz with rfl | ⟨hz,_⟩
  ·have:=h.sd x h9;exact ⟨this.1,this.2.1,this.2.2.1,fun e=>by have e:(2:Int)=1∨(2:Int)=3:=e;omega⟩
  ·exact h.sd z hz
 ·obtain ⟨z,hz,e1,e⟩:=h.tin p hp;rw [h6];refine ⟨z,hm.2 (.inr ⟨hz,fun q=>?_⟩),e1,e⟩;have:=Zwi1 h.rowS.up hz h9 q;subst this;omega
 ·rw [Znj1];constructor
  ·intro e;have h2:n.DK.TH=2:=by
    unfold Z9m1 at e;dsimp only at e;split at e
    ·have e:(0:Int)=2:=e;omega
    ·exact e
   obtain ⟨s,l,hb,h8,_⟩:=h.drinks h2;refine ⟨s,l.filter fun s=>!Z6l1 x.PE s,?_,h8⟩;show (n.BK.SE.filter _)=_;rw [hb,List.filter_cons,hD s (by rw [hb];simp) h8];simp
  ·rintro ⟨s,l,hb,h8⟩;have hb:n.BK.SE.filter (fun s=>!Z6l1 x.PE s)=s::l:=hb;have hsm:s∈n.BK.SE:=(List.mem_filter.1 (by rw [hb];simp)).1;cases hB:n.BK.SE with
   | nil=>rw [hB] at hsm;simp at hsm
   | cons t r=>
     have hC:=hw.tl;rw [hB] at hC hsm;rcases List.mem_cons.1 hsm with rfl | hsm
     ·have h2:=h.th.2 ((Znj1 n).2 ⟨s,r,hB,h8⟩);unfold Z9m1 Z6m1;dsimp only;rw [DN (show ¬n.DK.TH=1 by omega)];simp [h2]
     ·have:=hC s hsm;omega
 ·cases hc:Z6m1 n x.PE with
  | true=>left;unfold Z9m1;dsimp only;rw [hc];rfl
  | false=>
    rcases h.hq with q | q
    ·left;unfold Z9m1;dsimp only;rw [hc];exact q
    ·by_cases hz:n.DK.TH=0
     ·left;unfold Z9m1;dsimp only;rw [hc];exact hz
     ·right;obtain ⟨s,l,hb,hn⟩:=(Zmj1 n).1 q;have hsm:s∈n.BK.SE:=by rw [hb];simp
      have hg:Z6l1 x.PE s=false:=by
       cases hg:Z6l1 x.PE s with
       | false=>rfl
       | true=>
         exfalso;have hd:s.SS=0:=by unfold Z6l1 at hg;rw [Bool.and_eq_true,decide_eq_true_eq] at hg;exact hg.1
         have ht:n.DK.TH=1:=by
          have:=h.dr.t0;have:=h.dr.t2;by_cases e2:n.DK.TH=2
          ·obtain ⟨s',l',hb',hs',_⟩:=h.drinks e2;rw [hb] at hb';simp only [List.cons.injEq] at hb';rw [←hb'.1] at hs';omega
          ·omega
         unfold Z6m1 at hc;rw [Zdm1 hb,DT ht,DT (show (s,true).1.ID∈Z7l1 x.PE n.BK.SE from List.mem_map.2 ⟨s,List.mem_filter.2 ⟨hsm,hg⟩,rfl⟩)] at hc;simp at hc
      rw [Zmj1];refine ⟨s,l.filter fun s=>!Z6l1 x.PE s,?_,?_⟩
      ·show (n.BK.SE.filter _)=_;rw [hb,List.filter_cons,hg];simp
      ·unfold Z9m1;dsimp only;rw [hc];exact hn
 ·rw [h6] at hz;rcases hm.1 hz with rfl | ⟨hz,_⟩
  ·show (2:Int)≠3;omega
  ·exact h.nl z hz (ho _ hn)
 ·have hs:s∈n.BK.SE.filter fun s=>!Z6l1 x.PE s:=hs;obtain ⟨h8,hf⟩:=List.mem_filter.1 hs;obtain ⟨y,hy,e0,e⟩:=h.wt s h8 hd p hp;rw [h6];refine ⟨y,hm.2 (.inr ⟨hy,fun q=>?_⟩),e0,e⟩;unfold Z6l1 at hf;rw [DT hd,DT (show x.PE∈s.NE by rw [←q,e];exact hp)] at hf;simp at hf
def Zem1:NO:=⟨⟨⟨0,0,[]⟩,0,[]⟩,⟨0,[]⟩,[],[],[]⟩
def outA (e:Int) (m:NO) (V:List EV):NO×List ML×List EV×Int:=if e=0 then ((Zxk1 m [] V).1,(Zxk1 m [] V).2.1,(Zxk1 m [] V).2.2,0) else (Zem1,[],[],e)
def addS (n:NO) (p:Int):SX:=⟨p,Znf1 n.KN p+1,1,true,true,false,true,false⟩
def actN (n:NO) (a:Do):Int×NO×List EV:=
 if a.KI=0∨a.KI=1∨a.KI=2∨a.KI=3 then Zzl1 n a
 else if a.KI=4 then
  (if n.DK.DI.ID<a.PE∧a.PE<64 then (match Zpl1 n.DK.DI.SD a.PE with
    | some _=>(183,n,[])
    | none=>if Znf1 n.KN a.PE<65535 then (0,putN n (addS n a.PE) n.AK,[]) else (186,n,[])) else (182,n,[]))
 else if a.KI=5 then
  (if n.DK.DI.ID<a.PE∧a.PE<64 then (match Zpl1 n.DK.DI.SD a.PE with
    | none=>(184,n,[])
    | some j=>match n.DK.DI.SD[j]? with
      | none=>(184,n,[])
      | some x=>if x.SS=0 then (0,Z9m1 n j x,Zbm1 n a.PE) else (185,n,[])) else (182,n,[]))
 else (188,n,[])
theorem Zfm1 (m:NO) (V:List EV) (e:Int) (x3:List SX×List Int×List KE×List Int×List KE×List SE) (U:x3.2.2.2.1=m.TL) (J:x3.2.2.2.2.1=m.AK) (h:e=0→OkN m) (Y:V.length≤100000):
  Za91 x3 (m.DK.DI.ID,m.DK.DI.PH,m.DK.TH,m.BK.LA,m.BK.SE,e,m.DK.DI.SD,m.DK.NE,m.KN,V)=some (outA e m V):=by
 dsimp only [Za91];rw [U,J];unfold outA;by_cases he:e=0
 ·subst he;rw [Z2l1 m (h rfl) V Y,OB,if_pos rfl];rfl
 ·rw [Z3l1 _ _ _ _ e _ he,OB,if_neg he];rfl
theorem OkN.book {n:NO} (h:OkN n) {b:BK} (hb:BkOK b) (hg:n.DK.TH=2↔∃s l,b.SE=s::l∧s.SS=1) (hq:n.DK.TH=0∨∃s l,b.SE=s::l∧s.NE=n.DK.NE)
  (J:∀s∈b.SE,s.SS=0→∀p∈s.NE,∃x∈n.DK.DI.SD,x.SS=0∧x.PE=p):OkN (Zxl1 n b):=
 {h with bk:=(Zqi1 _).2 hb,th:=by rw [Znj1];exact hg,hq:=by rw [Zmj1];exact hq,wt:=J}
theorem OkN.calm {n:NO} (h:OkN n) {b:BK} (hb:BkOK b) (h0:∀s∈b.SE,s.SS=0) (J:∀s∈b.SE,s.SS=0→∀p∈s.NE,∃x∈n.DK.DI.SD,x.SS=0∧x.PE=p):OkN (Zyl1 n b):=
 {h with
  dr:=⟨h.dr.din,by show (0:Int)≤0;omega,by show (0:Int)≤2;omega,.nil,fun _=>rfl,fun p hp=>by have:p∈([]:List Int):=hp;simp at this⟩
  bk:=(Zqi1 _).2 hb
  th:=by
   rw [Znj1];constructor
   ·intro e;have:(0:Int)=2:=e;omega
   ·rintro ⟨s,l,e,hs⟩;have e:b.SE=s::l:=e;have:=h0 s (by rw [e];simp);omega
  hq:=.inl rfl
  nl:=fun x _ hx=>by have:x.PE∈([]:List Int):=hx;simp at this
  wt:=J}
theorem Zgm1 {b:BK} {id w:Int} (h:(endP b id w).2=0):∃i s,b.SE[i]?=some s∧s.ID=id∧s.SS=w∧(endP b id w).1=⟨b.LA,b.SE.take i++b.SE.drop (i+1)⟩:=by
 unfold endP at h ⊢;split at h
 ·rename_i hk;rw [if_pos hk];cases hf:Ztc1 b id with
  | none=>rw [hf] at h;simp at h
  | some i=>
    obtain ⟨s,hs,h6⟩:=Z0d1 hf;rw [hf] at h;dsimp only at h ⊢;rw [hs] at h;dsimp only at h;rw [hs];split at h
    ·rename_i hw;exact ⟨i,s,hs,h6,hw,by dsimp only;rw [if_pos hw]⟩
    ·simp at h
 ·simp at h
theorem Zhm1 {α:Type} {l:List α} {i:Nat} {x:α} (h:x∈l.take i++l.drop (i+1)):x∈l:=(Zel1 l i).subset h
structure EvOK (id:Int) (v:EV):Prop where
 node:v.NO=id
 edge:6≤v.KI→v.ID=0
 sess:v.KI<6→v.PE=0
 need:v.KI≠0→v.NE=[]
theorem Zim1 {n:NO} {a:Do} (h:OkN n) (he:(Zzl1 n a).1=0):OkN (Zzl1 n a).2.1∧(Zzl1 n a).2.1.DK.DI=n.DK.DI∧(Zzl1 n a).2.1.TL=n.TL∧(Zzl1 n a).2.1.AK=n.AK∧(Zzl1 n a).2.1.KN=n.KN∧(∀v∈(Zzl1 n a).2.2,EvOK n.DK.DI.ID v∧v.KI≠1)∧(Zzl1 n a).2.2.length≤1:=by
 have h6:=(Zqi1 _).1 h.bk;have hf:n.DK.TH≠2→∀s∈n.BK.SE,s.SS=0:=fun h2 s hs=>by
  cases hb:n.BK.SE with
  | nil=>rw [hb] at hs;simp at hs
  | cons t r=>
    have h8:=h6.tl;rw [hb] at h8 hs;rcases List.mem_cons.1 hs with rfl | hs
    ·rcases Zxi1 h6 hb with e | e
     ·exact absurd (h.th.2 ((Znj1 n).2 ⟨s,r,hb,e⟩)) h2
     ·exact e
    ·exact h8 s hs
 revert he;unfold Zzl1;split
 ·split
  ·rename_i k0 e0;split
   ·rename_i hw;intro _;refine ⟨?_,rfl,rfl,rfl,rfl,?_,by simp⟩
    ·have hC:n.BK.LA<a.ID∧Zgc1 (setL a.NE)=true∧n.BK.SE.length≠8∧Zwc1 n.BK a.ID a.NE=(⟨a.ID,n.BK.SE++[⟨a.ID,setL a.NE,0,0⟩]⟩,0):=by
      unfold Zwc1 at e0 ⊢;rw [if_pos h.bk] at e0 ⊢;by_cases c1:a.ID≤n.BK.LA
      ·rw [if_pos c1] at e0;simp at e0
      ·rw [if_neg c1] at e0 ⊢;cases c2:Zgc1 (setL a.NE) with
       | false=>rw [c2] at e0;simp at e0
       | true=>
         rw [c2,if_pos rfl] at e0;rw [if_pos rfl];by_cases c3:n.BK.SE.length=8
         ·rw [if_pos c3] at e0;simp at e0
         ·rw [if_neg c3];exact ⟨by omega,rfl,c3,rfl⟩
     obtain ⟨o1,o2,o3,o4⟩:=hC;have ho:=Z5c1 a.NE;have hI:=h6.last;have hJ:=h6.len;rw [o4];refine h.book ⟨by show 0≤a.ID;omega,by show (n.BK.SE++[_]).length≤8;rw [Zbb1];omega,?_,fun s hs=>?_,fun s hs=>?_⟩ ?_ ?_ fun s hs hD p hp=>?_
     ·show (n.BK.SE++[_]).Pairwise _;rw [List.pairwise_append];refine ⟨h6.up,by simp,fun s hs t ht=>?_⟩;simp at ht;subst ht;have:=(h6.ok s hs).hi;show s.ID<a.ID;omega
     ·have hs:s∈n.BK.SE++[⟨a.ID,setL a.NE,0,0⟩]:=hs;rcases List.mem_append.1 hs with hs | hs
      ·have:=h6.ok s hs;exact {this with hi:=by have:=this.hi;show s.ID≤a.ID;omega}
      ·simp at hs;subst hs;exact ⟨by show 0<a.ID;omega,by show a.ID≤a.ID;omega,o2,ho.1,by show (0:Int)≤0;omega,.inr ⟨rfl,rfl⟩⟩
     ·have hs:s∈(n.BK.SE++[(⟨a.ID,setL a.NE,0,0⟩:SE)]).tail:=hs;cases hb:n.BK.SE with
      | nil=>rw [hb] at hs;simp at hs
      | cons t r=>
        have h8:=h6.tl;rw [hb] at h8 hs;have hs:s∈r++[⟨a.ID,setL a.NE,0,0⟩]:=hs;rcases List.mem_append.1 hs with hs | hs
        ·exact h8 s hs
        ·simp at hs;subst hs;rfl
     ·rw [h.th,Znj1];show (∃s l,n.BK.SE=s::l∧s.SS=1)↔∃s l,n.BK.SE++[⟨a.ID,setL a.NE,0,0⟩]=s::l∧s.SS=1;cases hb:n.BK.SE with
      | nil=>simp
      | cons t r=>simp
     ·rcases h.hq with q | q
      ·exact .inl q
      ·right;obtain ⟨s,l,hb,hn⟩:=(Zmj1 n).1 q;exact ⟨s,l++[⟨a.ID,setL a.NE,0,0⟩],by show n.BK.SE++_=_;rw [hb];rfl,hn⟩
     ·have hs:s∈n.BK.SE++[⟨a.ID,setL a.NE,0,0⟩]:=hs;rcases List.mem_append.1 hs with hs | hs
      ·exact h.wt s hs hD p hp
      ·simp at hs;subst hs;have:=List.all_eq_true.1 hw p ((ho.2 p).1 hp);rw [decide_eq_true_eq,Zmi1] at this;obtain ⟨x,hx,hl,e⟩:=this;exact ⟨x,hx,by simpa [Zjf1] using hl,e⟩
    ·intro v hv;simp at hv;subst hv;exact ⟨⟨rfl,fun q=>by have q:(6:Int)≤0:=q;omega,fun _=>rfl,fun q=>absurd rfl q⟩,by show (0:Int)≠1;omega⟩
   ·intro he;simp at he
  ·rename_i e0;exact fun he=>absurd he e0
 ·split
  ·split
   ·rename_i e0;intro _;obtain ⟨i,s,hs,hA,hE,eb⟩:=Zgm1 e0;refine ⟨?_,rfl,rfl,rfl,rfl,?_,by simp⟩
    ·rw [eb];have hz:∀t∈n.BK.SE.take i++n.BK.SE.drop (i+1),t.SS=0:=by
      intro t ht;cases hb:n.BK.SE with
      | nil=>rw [hb] at hs;simp at hs
      | cons u r=>
        have h8:=h6.tl;rw [hb] at h8 hs ht;cases i with
        | zero=>exact h8 t (by simpa using ht)
        | succ i=>have:s∈r:=List.mem_of_getElem? (by simpa using hs);have:=h8 s this;omega
     exact h.calm (h6.sub (Zel1 _ _)) hz fun t ht h0 p hp=>h.wt t (Zhm1 ht) h0 p hp
    ·intro v hv;simp at hv;subst hv;exact ⟨⟨rfl,fun q=>by have q:(6:Int)≤2:=q;omega,fun _=>rfl,fun _=>rfl⟩,by show (2:Int)≠1;omega⟩
   ·rename_i e0;exact fun he=>absurd he e0
  ·split
   ·split
    ·rename_i e0;intro _;obtain ⟨i,s,hs,hA,hE,eb⟩:=Zgm1 e0;have hB:∀v∈ [(⟨3,n.DK.DI.ID,a.ID,0,[]⟩:EV)],EvOK n.DK.DI.ID v∧v.KI≠1:=fun v hv=>by simp at hv;subst hv;exact ⟨⟨rfl,fun q=>by have q:(6:Int)≤3:=q;omega,fun _=>rfl,fun _=>rfl⟩,by show (3:Int)≠1;omega⟩
     have hw:∀t∈n.BK.SE.take i++n.BK.SE.drop (i+1),t.SS=0→∀p∈t.NE,∃x∈n.DK.DI.SD,x.SS=0∧x.PE=p:=fun t ht h0 p hp=>h.wt t (Zhm1 ht) h0 p hp;split
     ·rename_i hc;refine ⟨?_,rfl,rfl,rfl,rfl,hB,by simp⟩;rw [eb];exact h.calm (h6.sub (Zel1 _ _)) (fun t ht=>hf (by omega) t (Zhm1 ht)) hw
     ·rename_i hc;refine ⟨?_,rfl,rfl,rfl,rfl,hB,by simp⟩;rw [eb];have hd:n.DK.TH≠0→∃t r,n.BK.SE=t::r∧t.NE=n.DK.NE∧∃r',n.BK.SE.take i++n.BK.SE.drop (i+1)=t::r':=fun hz=>by
       obtain ⟨t,r,hb,hn⟩:=(Zmj1 n).1 (by rcases h.hq with q | q;exact absurd q hz;exact q);refine ⟨t,r,hb,hn,?_⟩;cases i with
       | succ i=>rw [hb];exact ⟨_,rfl⟩
       | zero=>
         exfalso;rw [hb] at hs;simp at hs;subst hs;have h0:=h.dr.t0;have h2:=h.dr.t2;by_cases e1:n.DK.TH=1
         ·exact hc ⟨by rw [Zdm1 hb];exact hA,e1⟩
         ·obtain ⟨t',r',hb',hs',_⟩:=h.drinks (by omega);rw [hb] at hb';simp only [List.cons.injEq] at hb';rw [←hb'.1] at hs';omega
      refine h.book (h6.sub (Zel1 n.BK.SE i)) ?_ ?_ hw
      ·constructor
       ·intro h2;obtain ⟨t,r,hb,_,r',e⟩:=hd (by omega);obtain ⟨t',r2,hb',hs',_⟩:=h.drinks h2;rw [hb] at hb';simp only [List.cons.injEq] at hb';exact ⟨t,r',e,by rw [hb'.1];exact hs'⟩
       ·rintro ⟨t,r',e,ht⟩;have hG:t∈n.BK.SE:=Zhm1 (i:=i) (by rw [show n.BK.SE.take i++n.BK.SE.drop (i+1)=t::r' from e];simp);by_cases h2:n.DK.TH=2
        ·exact h2
        ·have:=hf h2 t hG;omega
      ·by_cases hz:n.DK.TH=0
       ·exact .inl hz
       ·obtain ⟨t,r,hb,hn,r',e⟩:=hd hz;exact .inr ⟨t,r',e,hn⟩
    ·rename_i e0;exact fun he=>absurd he e0
   ·split
    ·have h9:=h6.tick a.Hold;split
     ·rename_i e0;intro _;refine ⟨?_,rfl,rfl,rfl,rfl,by simp,by simp⟩;unfold Zgl1 at e0 h9 ⊢;cases hb:n.BK.SE with
      | nil=>exact h
      | cons s l=>
        rw [hb] at e0 h9;dsimp only at e0 h9 ⊢;by_cases h1:s.SS=1
        ·rw [if_pos h1] at e0 h9 ⊢;by_cases hh:(Zfl1 s).Age<a.Hold
         ·rw [if_pos hh] at h9 ⊢;refine h.book h9 ?_ ?_ fun t ht h0 p hp=>?_
          ·constructor
           ·intro _;exact ⟨Zfl1 s,l,rfl,h1⟩
           ·intro _;exact h.th.2 ((Znj1 n).2 ⟨s,l,hb,h1⟩)
          ·rcases h.hq with q | q
           ·exact .inl q
           ·obtain ⟨t,r,hb',hn⟩:=(Zmj1 n).1 q;rw [hb] at hb';simp only [List.cons.injEq] at hb';exact .inr ⟨Zfl1 s,l,rfl,by rw [←hn,←hb'.1];rfl⟩
          ·have ht:t∈Zfl1 s::l:=ht;rcases List.mem_cons.1 ht with rfl | ht
           ·have h0:s.SS=0:=h0;omega
           ·exact h.wt t (by rw [hb];exact List.mem_cons_of_mem _ ht) h0 p hp
         ·rw [if_neg hh] at e0;have:=(h6.ok s (by rw [hb];simp)).lo;have e0:s.ID=0:=e0;omega
        ·rw [if_neg h1];exact h
     ·rename_i e0;intro _;refine ⟨?_,rfl,rfl,rfl,rfl,?_,by simp⟩
      ·unfold Zgl1 at e0 h9 ⊢;cases hb:n.BK.SE with
       | nil=>rw [hb] at e0;exact absurd rfl e0
       | cons s l=>
         rw [hb] at e0 h9;dsimp only at e0 h9 ⊢;by_cases h1:s.SS=1
         ·rw [if_pos h1] at e0 h9 ⊢;by_cases hh:(Zfl1 s).Age<a.Hold
          ·rw [if_pos hh] at e0;exact absurd rfl e0
          ·rw [if_neg hh] at h9 ⊢;have h8:=h6.tl;rw [hb] at h8;exact h.calm h9 (fun t ht=>h8 t ht) fun t ht h0 p hp=>h.wt t (by rw [hb];exact List.mem_cons_of_mem _ ht) h0 p hp
         ·rw [if_neg h1] at e0;exact absurd rfl e0
      ·intro v hv;simp at hv;subst hv;exact ⟨⟨rfl,fun q=>by have q:(6:Int)≤4:=q;omega,fun _=>rfl,fun _=>rfl⟩,by show (4:Int)≠1;omega⟩
    ·intro _;exact ⟨h,rfl,rfl,rfl,rfl,by simp,by simp⟩
def ownT (n:NO):List SX×List Int×List KE×List Int×List KE×List SE:=(n.DK.DI.SD,n.DK.NE,n.KN,n.TL,n.AK,n.BK.SE)
def k03 (a:Do):Bool:=decide (a.KI=0∨a.KI=1∨a.KI=2∨a.KI=3)
theorem Zjm1 (n:NO) (a:Do) (J:FewN n):Zf91 n a=Ze91 n a (ownT n) (if okN n then 0 else 180) (plc (Zpl1 n.DK.DI.SD a.PE)) (Znf1 n.KN a.PE) (k03 a):=by
 have hS:=J.sides;unfold Zf91;rw [Z4k1 n J,OB,Zag1 n J,OB,Zql1 _ _ (show _≤_ by dsimp only;omega),OB,Zof1 n J,OB];unfold k03 ownT;by_cases c0:a.KI=0
 ·simp [c0,ifb]
 ·by_cases c1:a.KI=1
  ·simp [c1,ifb]
  ·by_cases c2:a.KI=2
   ·simp [c2,ifb]
   ·by_cases c3:a.KI=3
    ·simp [c3,ifb]
    ·simp [c0,c1,c2,c3,ifb]
theorem Zkm1 (n:NO) (a:Do) (J:FewN n) (hk:okN n=false):Zf91 n a=some (Zem1,[],[],180):=by
 have h6:Za91 (ownT n) (n.DK.DI.ID,n.DK.DI.PH,n.DK.TH,n.BK.LA,n.BK.SE,180,n.DK.DI.SD,n.DK.NE,n.KN,[])=some (Zem1,[],[],180):=Zfm1 n [] 180 (ownT n) rfl rfl (fun e=>by omega) (by simp);have hn:∀(is:Bool) (c:Int),Zil1 is c 180=180:=fun is c=>Zml1 is (by omega);rw [Zjm1 n a J,hk];dsimp only [Ze91];rw [if_neg (by simp)];cases k03 a with
 | true=>exact h6
 | false=>
   rw [Zia1];have j3:Zb91 n a (ownT n) (plc (Zpl1 n.DK.DI.SD a.PE)) (Znf1 n.KN a.PE) 180=some (Zem1,[],[],180):=by dsimp only [Zb91];rw [Zkl1,OB,hn,Zkl1,OB,hn];exact h6
   have j4:Zd91 n a (ownT n) (plc (Zpl1 n.DK.DI.SD a.PE)) 180=some (Zem1,[],[],180):=by dsimp only [Zd91];rw [Zkl1,OB,hn];exact h6
   have n2:∀(is:Bool),Zkt is 182 n.DK.DI.ID n.DK.DI.PH n.DK.TH n.BK.LA 180 (ownT n).1 (ownT n).2.1 (ownT n).2.2.2.2.2 (ownT n).2.2.1 (ownT n).2.2.2.1 (ownT n).2.2.2.2.1=some (false,180):=fun is=>by rw [Zkl1,hn];rfl
   have n3:∀c,Zot c n.DK.DI.ID n.DK.DI.PH n.DK.TH n.BK.LA 180 (ownT n).1 (ownT n).2.1 (ownT n).2.2.2.2.2 (ownT n).2.2.1 (ownT n).2.2.2.1 (ownT n).2.2.2.2.1=some (false,180):=fun c=>by rw [Zll1,hn];rfl
   cases decide (a.KI=4) with
   | true=>rw [Zha1,n2,n3,OB,j3];cases decide (n.DK.DI.ID<a.PE)<;>rfl
   | false=>
     rw [Zia1];cases decide (a.KI=5) with
     | true=>rw [Zha1,n2,n3,OB,j4];cases decide (n.DK.DI.ID<a.PE)<;>rfl
     | false=>rw [Zia1,n3,OB];exact h6
theorem Zlm1 {n:NO} {a:Do} (h:OkN n) (he:(actN n a).1=0):OkN (actN n a).2.1∧(actN n a).2.1.DK.DI.ID=n.DK.DI.ID∧(actN n a).2.1.TL=n.TL∧(actN n a).2.1.AK=n.AK∧(∀v∈(actN n a).2.2,EvOK n.DK.DI.ID v∧v.KI≠1)∧(actN n a).2.2.length≤1000:=by
 revert he;unfold actN;split
 ·intro he;obtain ⟨h1,h2,h3,h4,h5,h6,h7⟩:=Zim1 h he;exact ⟨h1,by rw [h2],h3,h4,h6,by omega⟩
 ·split
  ·split
   ·rename_i hp;cases h8:Zpl1 n.DK.DI.SD a.PE with
    | some j=>intro he;simp at he
    | none=>
      dsimp only;split
      ·rename_i hq;intro _;have h0:=Zvi1 h.kup (fun k hk=>(h.kr k hk).2.2) a.PE;have hc:=h.dr.din.id0;refine ⟨h.put (x:=addS n a.PE) ⟨by show 0≤a.PE;omega,hp.2,by show a.PE≠_;omega⟩ (Zsl1 h8) ⟨by show 1≤Znf1 n.KN a.PE+1;omega,by show Znf1 n.KN a.PE+1≤65535;omega⟩ (.inr ⟨rfl,by show n.DK.DI.ID≤a.PE;omega⟩) (fun _=>rfl) (fun k hk=>⟨hk,by have:=h.may k hk;show k.PE≠a.PE;omega⟩) h.dis,rfl,rfl,rfl,by simp,by simp⟩
      ·intro he;simp at he
   ·intro he;simp at he
  ·split
   ·split
    ·cases h8:Zpl1 n.DK.DI.SD a.PE with
     | none=>intro he;simp at he
     | some j=>
       dsimp only;obtain ⟨x,hx,hd⟩:=Zrl1 h8;rw [hx];dsimp only;split
       ·rename_i h0;intro _;have hg:=Zal1 a.PE n.BK.SE;have hb:=((Zqi1 _).1 h.bk).len;have h9:(Z9m1 n j x).DK.DI.ID=n.DK.DI.ID:=by unfold Z9m1;dsimp only;split<;>rfl
        refine ⟨h.shut hx h0,h9,rfl,rfl,fun v hv=>?_,by unfold Zbm1 Zam1;simp only [List.length_cons,List.length_map];omega⟩;rcases List.mem_cons.1 hv with rfl | hv
        ·exact ⟨⟨rfl,fun _=>rfl,fun q=>by have q:(7:Int)<6:=q;omega,fun _=>rfl⟩,by show (7:Int)≠1;omega⟩
        ·obtain ⟨i,_,rfl⟩:=List.mem_map.1 hv;exact ⟨⟨rfl,fun q=>by have q:(6:Int)≤5:=q;omega,fun _=>rfl,fun _=>rfl⟩,by show (5:Int)≠1;omega⟩
       ·intro he;simp at he
    ·intro he;simp at he
   ·intro he;simp at he
theorem Zmm1 (n:NO) (a:Do) (h:OkN n) (ha:a.NE.length≤1000):Zf91 n a=some (outA (actN n a).1 (actN n a).2.1 (actN n a).2.2):=by
 have hf:=h.few;have hok:=fun he=>Zlm1 (a:=a) h he;have bad:∀e:Int,e≠0→Za91 (ownT n) (n.DK.DI.ID,n.DK.DI.PH,n.DK.TH,n.BK.LA,n.BK.SE,e,n.DK.DI.SD,n.DK.NE,n.KN,[])=some (outA e n []):=fun e he=>Zfm1 n [] e (ownT n) rfl rfl (fun q=>absurd q he) (by simp);have n2:∀(is:Bool) (c e:Int),Zkt is c n.DK.DI.ID n.DK.DI.PH n.DK.TH n.BK.LA e (ownT n).1 (ownT n).2.1 (ownT n).2.2.2.2.2 (ownT n).2.2.1 (ownT n).2.2.2.1 (ownT n).2.2.2.2.1=some (decide (Zil1 is c e=0),Zil1 is c e):=fun is c e=>Zkl1 _ _ _ _ _ _ _ _ _ _ _ _ _;have n3:∀c e,Zot c n.DK.DI.ID n.DK.DI.PH n.DK.TH n.BK.LA e (ownT n).1 (ownT n).2.1 (ownT n).2.2.2.2.2 (ownT n).2.2.1 (ownT n).2.2.2.1 (ownT n).2.2.2.2.1=some (decide (Zil1 false c e=0),Zil1 false c e):=fun c e=>Zll1 _ _ _ _ _ _ _ _ _ _ _ _;rw [Zjm1 n a hf,(Zoi1 n).2 h,if_pos rfl];dsimp only [Ze91];unfold k03;by_cases hk:a.KI=0∨a.KI=1∨a.KI=2∨a.KI=3
 ·have eA:actN n a=Zzl1 n a:=by unfold actN;rw [if_pos hk]
  rw [eA] at hok ⊢;rw [DT hk,Zha1,DT rfl,Zha1];have hs:=Z2m1 n a h ha;have hs:Zv71 a n.DK.DI.ID n.DK.DI.PH n.DK.TH n.BK.LA 0 (ownT n).1 (ownT n).2.1 (ownT n).2.2.2.2.2 (ownT n).2.2.1 (ownT n).2.2.2.1 (ownT n).2.2.2.2.1=_:=hs;rw [hs,OB];by_cases he:(Zzl1 n a).1=0
  ·obtain ⟨h1,_,h3,h4,h5,h6⟩:=hok he;obtain ⟨_,_,_,_,q5,_⟩:=Zim1 h he;have:=Zfm1 (Zzl1 n a).2.1 (Zzl1 n a).2.2 (Zzl1 n a).1 (ownT n) h3.symm h4.symm (fun _=>h1) (by omega);rw [q5] at this;exact this
  ·have e:(Zzl1 n a).2.1=n∧(Zzl1 n a).2.2=[]:=by
    revert he;unfold Zzl1;split
    ·split
     ·split
      ·intro he;exact absurd rfl he
      ·intro _;exact ⟨rfl,rfl⟩
     ·intro _;exact ⟨rfl,rfl⟩
    ·split
     ·split
      ·intro he;exact absurd rfl he
      ·intro _;exact ⟨rfl,rfl⟩
     ·split
      ·split
       ·intro he;exact absurd rfl he
       ·intro _;exact ⟨rfl,rfl⟩
      ·split
       ·split
        ·intro he;exact absurd rfl he
        ·intro he;exact absurd rfl he
       ·intro he;exact absurd rfl he
   have:=bad (Zzl1 n a).1 he;rw [e.1,e.2];exact this
 ·rw [DN hk,Zia1];unfold actN;rw [if_neg hk];by_cases k4:a.KI=4
  ·rw [DT k4,Zha1,if_pos k4];have j3b:∀e:Int,e≠0→Zb91 n a (ownT n) (plc (Zpl1 n.DK.DI.SD a.PE)) (Znf1 n.KN a.PE) e=some (outA e n []):=fun e he=>by dsimp only [Zb91];rw [n2,OB,Zml1 _ he,n2,OB,Zml1 _ he,DN he];exact bad e he
   by_cases c1:n.DK.DI.ID<a.PE
   ·rw [DT c1,Zha1,n2,OB];by_cases c2:a.PE<64
    ·rw [DT c2,Znl1,if_pos ⟨c1,c2⟩];dsimp only [Zb91];rw [n2,OB];cases h8:Zpl1 n.DK.DI.SD a.PE with
     | some j=>rw [show plc (some j)=(j:Int) from rfl,DN (show ¬(j:Int)<0 by omega),Zol1];dsimp only;rw [n2,OB,Zml1 _ (by omega)];exact bad 183 (by omega)
     | none=>
       rw [show plc none = -1 from rfl,DT (show (-1:Int)<0 by omega),Znl1];dsimp only;rw [n2,OB];by_cases c3:Znf1 n.KN a.PE<65535
       ·have eA:actN n a=(0,putN n (addS n a.PE) n.AK,[]):=by unfold actN;rw [if_neg hk,if_pos k4,if_pos ⟨c1,c2⟩,h8];dsimp only;rw [if_pos c3]
        rw [if_pos c3];rw [DT c3,Znl1,DT rfl,Zha1];have h0:=Zvi1 h.kup (fun k hk=>(h.kr k hk).2.2) a.PE;have hc:Zl51 (addS n a.PE) n.DK.DI.ID n.DK.DI.PH n.DK.TH n.BK.LA 0 (ownT n).1 (ownT n).2.1 (ownT n).2.2.2.2.2 (ownT n).2.2.1 (ownT n).2.2.2.1 (ownT n).2.2.2.2.1=some (putS n.DK.DI.SD (addS n a.PE),Zgg1 n.KN (addS n a.PE).PE (addS n a.PE).EP):=Zlg1 (addS n a.PE) _ _ _ _ _ _ _ _ _ _ _ h.rowS h.rowK (by have:=h.dr.din.id0;show -100000≤a.PE∧a.PE≤100000;omega);rw [show (⟨a.PE,wr (Znf1 n.KN a.PE+1),1,true,true,false,true,false⟩:SX)=addS n a.PE by unfold addS;rw [Zka1 (by omega) (by omega)],hc,OB];obtain ⟨h1,_,h3,h4,h5,h6⟩:=hok (by rw [eA]);rw [eA] at h1;exact Zfm1 (putN n (addS n a.PE) n.AK) [] 0 (ownT n) rfl rfl (fun _=>h1) (by simp)
       ·rw [if_neg c3,DN c3,Zol1];dsimp only;rw [DN (show ¬(186:Int)=0 by omega),Zia1];exact bad 186 (by omega)
    ·rw [DN c2,Zol1,if_neg fun q=>c2 q.2];exact j3b 182 (by omega)
   ·rw [DN c1,Zia1,n3,OB,Zol1,if_neg fun q=>c1 q.1];exact j3b 182 (by omega)
  ·rw [DN k4,Zia1,if_neg k4];by_cases k5:a.KI=5
   ·rw [DT k5,Zha1,if_pos k5];have j4b:∀e:Int,e≠0→Zd91 n a (ownT n) (plc (Zpl1 n.DK.DI.SD a.PE)) e=some (outA e n []):=fun e he=>by dsimp only [Zd91];rw [n2,OB,Zml1 _ he,DN he];exact bad e he
    by_cases c1:n.DK.DI.ID<a.PE
    ·rw [DT c1,Zha1,n2,OB];by_cases c2:a.PE<64
     ·rw [DT c2,Znl1,if_pos ⟨c1,c2⟩];dsimp only [Zd91];rw [n2,OB];cases h8:Zpl1 n.DK.DI.SD a.PE with
      | none=>rw [show plc none = -1 from rfl,DN (show ¬(0:Int)≤ -1 by omega),Zol1];exact bad 184 (by omega)
      | some j=>
        obtain ⟨x,hx,hd⟩:=Zrl1 h8;rw [show plc (some j)=(j:Int) from rfl,DT (show (0:Int)≤j by omega),Znl1];dsimp only;rw [DT rfl,Zha1,show (ownT n).1=n.DK.DI.SD from rfl,Zla1 hx,OB,hx];dsimp only;have hn:Z8n x=some (decide (x.SS=0)):=rfl;rw [hn,OB,Zkl1,OB];dsimp only [Zc91];by_cases h0:x.SS=0
        ·rw [if_pos h0,DT h0,Znl1,DT rfl,Zha1];have h9:=Zcm1 n h a.PE j x h8 hx hd 0;have h9:Z281 a.PE n.DK.DI.ID n.DK.DI.PH n.DK.TH n.BK.LA 0 (ownT n).1 (ownT n).2.1 (ownT n).2.2.2.2.2 (ownT n).2.2.1 (ownT n).2.2.2.1 (ownT n).2.2.2.2.1=_:=h9;rw [h9,OB];have hg:=Zal1 a.PE n.BK.SE;have hb:=((Zqi1 _).1 h.bk).len;exact Zfm1 (Z9m1 n j x) (Zbm1 n a.PE) 0 (ownT n) rfl rfl (fun _=>h.shut hx h0) (by unfold Zbm1 Zam1;simp only [List.length_cons,List.length_map];omega)
        ·rw [if_neg h0,DN h0,Zol1,DN (show ¬(185:Int)=0 by omega),Zia1];exact bad 185 (by omega)
     ·rw [DN c2,Zol1,if_neg fun q=>c2 q.2];exact j4b 182 (by omega)
    ·rw [DN c1,Zia1,n3,OB,Zol1,if_neg fun q=>c1 q.1];exact j4b 182 (by omega)
   ·rw [DN k5,Zia1,if_neg k5,n3,OB,Zol1];exact bad 188 (by omega)
theorem OkN.sides {n:NO} (h:OkN n) {S:List SX} (J:S.map Z0j1=n.DK.DI.SD.map Z0j1) (U:∀x∈S,x.DY=true→x.FK=true):OkN ⟨⟨⟨n.DK.DI.ID,n.DK.DI.PH,S⟩,n.DK.TH,n.DK.NE⟩,n.BK,n.KN,n.TL,n.AK⟩:=by
 have side:∀ {x:SX},x∈S→∃y∈n.DK.DI.SD,y.PE=x.PE∧y.EP=x.EP∧y.SS=x.SS:=fun hx=>Z7j1 J hx;have edis:∀ {x:SX},x∈n.DK.DI.SD→∃y∈S,y.PE=x.PE∧y.EP=x.EP∧y.SS=x.SS:=fun hx=>Z7j1 J.symm hx;have hl:S.length=n.DK.DI.SD.length:=by have:=congrArg List.length J;rwa [List.length_map,List.length_map] at this
 refine {h with
  dr:=⟨⟨h.dr.din.id0,h.dr.din.p0,h.dr.din.p2,by show S.length<64;rw [hl];exact h.dr.din.len,Z6i1 (Z8j1 J) h.dr.din.up,fun x hx=>?_⟩,h.dr.t0,h.dr.t2,h.dr.up,h.dr.nz,fun p hp=>?_⟩
  may:=fun k hk=>⟨fun x hx=>?_,(h.may k hk).2⟩
  sd:=fun x hx=>?_
  tin:=fun p hp=>?_
  nl:=fun x hx hn=>?_
  wt:=fun s hs h0 p hp=>?_}
 ·obtain ⟨y,hy,e1,e2,e3⟩:=side hx;have:=h.dr.din.side y hy;exact ⟨by rw [←e1];exact this.lo,by rw [←e1];exact this.ne,by rw [←e2];exact this.e0,by rw [←e2];exact this.e1,by rw [←e3];exact this.s0,by rw [←e3];exact this.s3,U x hx⟩
 ·obtain ⟨x,hx,e⟩:=h.dr.has p hp;obtain ⟨y,hy,e1,_⟩:=edis hx;exact ⟨y,hy,by omega⟩
 ·obtain ⟨y,hy,e1,_⟩:=side hx;rw [←e1];exact (h.may k hk).1 y hy
 ·obtain ⟨y,hy,e1,e2,e3⟩:=side hx;have:=h.sd y hy;rw [←e1,←e2,←e3];exact this
 ·obtain ⟨x,hx,e,e'⟩:=h.tin p hp;obtain ⟨y,hy,e1,_,e3⟩:=edis hx;exact ⟨y,hy,by omega,by omega⟩
 ·obtain ⟨y,hy,e1,_,e3⟩:=side hx;rw [←e3];exact h.nl y hy (by rw [e1];exact hn)
 ·obtain ⟨x,hx,e,e'⟩:=h.wt s hs h0 p hp;obtain ⟨y,hy,e1,_,e3⟩:=edis hx;exact ⟨y,hy,by omega,by omega⟩
theorem Znm1 (k:Int) (x:SX):Z0j1 (layK k x)=Z0j1 x:=by
 unfold layK;split
 ·rfl
 ·split
  ·rfl
  ·split<;>rfl
theorem Zom1 (k:Int) (x:SX) (h:x.DY=true→x.FK=true):(layK k x).DY=true→(layK k x).FK=true:=by
 unfold layK;split
 ·exact fun _=>rfl
 ·split
  ·exact h
  ·split<;>exact h
theorem Zpm1 {S:List SX} {j:Nat} {x y:SX} (h:S[j]?=some x) (J:Z0j1 y=Z0j1 x):(S.set j y).map Z0j1=S.map Z0j1:=by
 obtain ⟨e1,e2⟩:=Z3m1 h y;rw [e2]
 conv=>rhs;rw [e1]
 simp [J]
def layN (n:NO) (j:Nat) (x:SX) (k:Int):NO:=⟨⟨⟨n.DK.DI.ID,n.DK.DI.PH,n.DK.DI.SD.set j (layK k x)⟩,n.DK.TH,n.DK.NE⟩,n.BK,n.KN,n.TL,n.AK⟩
theorem OkN.lay {n:NO} (h:OkN n) {j:Nat} {x:SX} (hx:n.DK.DI.SD[j]?=some x) (k:Int):OkN (layN n j x k):=by
 refine h.sides (Zpm1 hx (Znm1 k x)) fun z hz=>?_;rcases (Z4m1 h.rowS.up hx _).1 hz with rfl | ⟨hz,_⟩
 ·exact Zom1 k x (h.dr.din.side x (List.mem_of_getElem? hx)).df
 ·exact (h.dr.din.side z hz).df
def askN (n:NO) (k:KE):NO:=⟨n.DK,n.BK,n.KN,n.TL,n.AK++[k]⟩
theorem OkN.ask {n:NO} (h:OkN n) {k:KE} (hm:mayB n k=true) (J:Zqf1 (n.AK++[k])=true):OkN (askN n k):=
 {h with
  may:=fun q hq=>by
   have hq:q∈n.AK++[k]:=hq;rcases List.mem_append.1 hq with hq | hq
   ·exact h.may q hq
   ·simp at hq;subst hq;exact (Zki1 n _).1 hm
  dis:=by unfold Zqf1 at J;rw [decide_eq_true_eq] at J;exact J}
def Zqm1 (n:NO) (j:Nat) (x:SX):NO:=⟨⟨⟨n.DK.DI.ID,n.DK.DI.PH,n.DK.DI.SD.set j {x with SS:=0}⟩,n.DK.TH,n.DK.NE⟩,n.BK,n.KN,(setL n.TL).filter fun z=>!decide (z∈ [x.PE]),n.AK⟩
theorem OkN.live {n:NO} (h:OkN n) {j:Nat} {x:SX} (hx:n.DK.DI.SD[j]?=some x):OkN (Zqm1 n j x):=by
 have h6:=List.mem_of_getElem? hx;have hm:∀ {z:SX},z∈(Zqm1 n j x).DK.DI.SD↔z={x with SS:=0}∨z∈n.DK.DI.SD∧z.PE≠x.PE:=fun {z}=>Z4m1 (z:=z) h.rowS.up hx {x with SS:=0};refine {h with
  dr:=h.dr.state hx (by omega)
  may:=fun k hk=>⟨fun z hz=>?_,(h.may k hk).2⟩
  sd:=fun z hz=>?_
  told:=(Z5c1 n.TL).1.filter _
  tin:=fun p hp=>?_
  nl:=fun z hz hn=>?_
  wt:=fun s hs h0 p hp=>?_}
 ·rcases hm.1 hz with rfl | ⟨hz,_⟩
  ·exact (h.may k hk).1 x h6
  ·exact (h.may k hk).1 z hz
 ·rcases hm.1 hz with rfl | ⟨hz,_⟩
  ·have:=h.sd x h6;exact ⟨this.1,this.2.1,this.2.2.1,fun e=>by have e:(0:Int)=1∨(0:Int)=3:=e;omega⟩
  ·exact h.sd z hz
 ·obtain ⟨h1,h2⟩:=List.mem_filter.1 hp;obtain ⟨z,hz,e1,e⟩:=h.tin p (((Z5c1 n.TL).2 p).1 h1);refine ⟨z,hm.2 (.inr ⟨hz,fun q=>?_⟩),e1,e⟩;rw [DT (show p∈ [x.PE] by rw [←e,q];simp)] at h2;simp at h2
 ·rcases hm.1 hz with rfl | ⟨hz,_⟩
  ·show (0:Int)≠3;omega
  ·exact h.nl z hz hn
 ·obtain ⟨z,hz,e0,e⟩:=h.wt s hs h0 p hp;by_cases q:z.PE=x.PE
  ·exact ⟨_,hm.2 (.inl rfl),rfl,by show x.PE=p;omega⟩
  ·exact ⟨z,hm.2 (.inr ⟨hz,q⟩),e0,e⟩
def Zrm1 (n:NO) (p:Int):NO:=⟨⟨⟨n.DK.DI.ID,n.DK.DI.PH,n.DK.DI.SD.filter fun x=>!decide (x.PE=p)⟩,n.DK.TH,n.DK.NE⟩,n.BK,n.KN,n.TL,n.AK⟩
theorem OkN.drop {n:NO} (h:OkN n) {x:SX} (hx:x∈n.DK.DI.SD) (h3:x.SS=3):OkN (Zrm1 n x.PE):=by
 have hm:∀ {z:SX},z∈(Zrm1 n x.PE).DK.DI.SD↔z∈n.DK.DI.SD∧z.PE≠x.PE:=fun {z}=>by show z∈n.DK.DI.SD.filter _↔_;rw [List.mem_filter];simp
 have hne:∀ {z:SX},z∈n.DK.DI.SD→z.SS≠3→z.PE≠x.PE:=fun hz hs q=>by have:=Zwi1 h.rowS.up hz hx q;subst this;exact hs h3
 refine {h with
  dr:=⟨⟨h.dr.din.id0,h.dr.din.p0,h.dr.din.p2,Nat.lt_of_le_of_lt (List.length_filter_le _ _) h.dr.din.len,h.dr.din.up.filter _,fun z hz=>h.dr.din.side z (hm.1 hz).1⟩,h.dr.t0,h.dr.t2,h.dr.up,h.dr.nz,fun p hp=>?_⟩
  may:=fun k hk=>⟨fun z hz=>(h.may k hk).1 z (hm.1 hz).1,(h.may k hk).2⟩
  sd:=fun z hz=>h.sd z (hm.1 hz).1
  tin:=fun p hp=>?_
  nl:=fun z hz hn=>h.nl z (hm.1 hz).1 hn
  wt:=fun s hs h0 p hp=>?_}
 ·obtain ⟨z,hz,e⟩:=h.dr.has p hp;exact ⟨z,hm.2 ⟨hz,hne hz (h.nl z hz (by rw [e];exact hp))⟩,e⟩
 ·obtain ⟨z,hz,e1,e⟩:=h.tin p hp;exact ⟨z,hm.2 ⟨hz,hne hz (by omega)⟩,e1,e⟩
 ·obtain ⟨z,hz,e0,e⟩:=h.wt s hs h0 p hp;exact ⟨z,hm.2 ⟨hz,hne hz (by omega)⟩,e0,e⟩
def Zsm1 (n:NO) (p:Int):Option (Nat×SX):=match Zpl1 n.DK.DI.SD p with | none=>none | some j=>(n.DK.DI.SD[j]?).map fun x=>(j,x)
def isB (o:Option (Nat×SX)) (m:Msg) (s:Int):Bool:=match o with | none=>false | some (_,x)=>decide (x.EP=m.EP)&&decide (x.SS=s)
def jO (o:Option (Nat×SX)):Nat:=match o with | none=>0 | some (j,_)=>j
def xO (o:Option (Nat×SX)):SX:=match o with | none=>side0 | some (_,x)=>x
def fitB (o:Option (Nat×SX)) (m:Msg):Bool:=match o with | none=>false | some (_,x)=>decide (x.EP=m.EP)
def k14 (m:Msg):Bool:=decide (m.KI=1∨m.KI=2∨m.KI=3∨m.KI=4)
def getN (n:NO) (p:Int) (m:Msg):Int×NO×List EV:=
 if m.Num≠0 then (187,n,[])
 else if k14 m=true then
  (if fitB (Zsm1 n p) m=true then (if Zef1 m.KI (xO (Zsm1 n p))=true then (187,n,[]) else (0,layN n (jO (Zsm1 n p)) (xO (Zsm1 n p)) m.KI,[])) else (0,n,[]))
 else if m.KI=5 then (if mayB n ⟨p,m.EP⟩=true∧Zqf1 (n.AK++[⟨p,m.EP⟩])=true then (0,askN n ⟨p,m.EP⟩,[]) else (187,n,[]))
 else if m.KI=6 then (if isB (Zsm1 n p) m 1=true∧p∈n.TL then (0,Zqm1 n (jO (Zsm1 n p)) (xO (Zsm1 n p)),[⟨6,n.DK.DI.ID,0,p,[]⟩]) else (187,n,[]))
 else if m.KI=7 then (if isB (Zsm1 n p) m 0=true∧p<n.DK.DI.ID then (0,Z9m1 n (jO (Zsm1 n p)) (xO (Zsm1 n p)),Zbm1 n p) else (187,n,[]))
 else if m.KI=8 then (if isB (Zsm1 n p) m 3=true then (0,Zrm1 n p,[⟨8,n.DK.DI.ID,0,p,[]⟩]) else (187,n,[]))
 else (187,n,[])
theorem Ztm1 {n:NO} {p:Int} {j:Nat} {x:SX} (h:Zsm1 n p=some (j,x)):Zpl1 n.DK.DI.SD p=some j∧n.DK.DI.SD[j]?=some x∧x.PE=p:=by
 unfold Zsm1 at h;cases hp:Zpl1 n.DK.DI.SD p with
 | none=>rw [hp] at h;simp at h
 | some i=>obtain ⟨y,hy,e⟩:=Zrl1 hp;rw [hp] at h;dsimp only at h;rw [hy] at h;simp only [Option.map_some,Option.some.injEq,Prod.mk.injEq] at h;obtain ⟨rfl,rfl⟩:=h;exact ⟨rfl,hy,e⟩
theorem Zum1 {n:NO} {p:Int} (h:Zsm1 n p=none):Zpl1 n.DK.DI.SD p=none:=by
 unfold Zsm1 at h;cases hp:Zpl1 n.DK.DI.SD p with
 | none=>rfl
 | some i=>obtain ⟨y,hy,e⟩:=Zrl1 hp;rw [hp] at h;dsimp only at h;rw [hy] at h;simp at h
theorem Zvm1 {n:NO} {p s:Int} {m:Msg} (h:isB (Zsm1 n p) m s=true):∃j x,Zsm1 n p=some (j,x)∧x.EP=m.EP∧x.SS=s∧n.DK.DI.SD[j]?=some x∧x.PE=p∧Zpl1 n.DK.DI.SD p=some j:=by
 cases hs:Zsm1 n p with
 | none=>rw [hs] at h;simp [isB] at h
 | some q=>obtain ⟨j,x⟩:=q;rw [hs] at h;unfold isB at h;simp only [Bool.and_eq_true,decide_eq_true_eq] at h;obtain ⟨h1,h2,h3⟩:=Ztm1 hs;exact ⟨j,x,rfl,h.1,h.2,h2,h3,h1⟩
theorem Zwm1 {n:NO} {p:Int} {m:Msg} (h:OkN n) (he:(getN n p m).1=0):OkN (getN n p m).2.1∧(getN n p m).2.1.DK.DI.ID=n.DK.DI.ID∧(∀v∈(getN n p m).2.2,EvOK n.DK.DI.ID v∧v.KI≠1)∧(getN n p m).2.2.length≤1000:=by
 revert he;unfold getN;split
 ·intro he;simp at he
 ·split
  ·split
   ·rename_i hs;split
    ·intro he;simp at he
    ·intro _;refine ⟨?_,rfl,by simp,by simp⟩;cases hq:Zsm1 n p with
     | none=>rw [hq] at hs;simp [fitB] at hs
     | some q=>obtain ⟨j,x⟩:=q;exact h.lay (Ztm1 hq).2.1 _
   ·intro _;exact ⟨h,rfl,by simp,by simp⟩
  ·split
   ·split
    ·rename_i hc;intro _;exact ⟨h.ask hc.1 hc.2,rfl,by simp,by simp⟩
    ·intro he;simp at he
   ·split
    ·split
     ·rename_i hc;intro _;obtain ⟨j,x,hq,_,_,hx,_,_⟩:=Zvm1 hc.1;rw [hq];refine ⟨h.live hx,rfl,fun v hv=>?_,by simp⟩;simp at hv;subst hv;exact ⟨⟨rfl,fun _=>rfl,fun q=>by have q:(6:Int)<6:=q;omega,fun _=>rfl⟩,by show (6:Int)≠1;omega⟩
     ·intro he;simp at he
    ·split
     ·split
      ·rename_i hc;intro _;obtain ⟨j,x,hq,_,h0,hx,h6,_⟩:=Zvm1 hc.1;rw [hq];have hg:=Zal1 p n.BK.SE;have hb:=((Zqi1 _).1 h.bk).len;have h8:(Z9m1 n j x).DK.DI.ID=n.DK.DI.ID:=by unfold Z9m1;dsimp only;split<;>rfl
       refine ⟨h.shut hx h0,h8,fun v hv=>?_,by unfold Zbm1 Zam1;simp only [List.length_cons,List.length_map];omega⟩;rcases List.mem_cons.1 hv with rfl | hv
       ·exact ⟨⟨rfl,fun _=>rfl,fun q=>by have q:(7:Int)<6:=q;omega,fun _=>rfl⟩,by show (7:Int)≠1;omega⟩
       ·obtain ⟨i,_,rfl⟩:=List.mem_map.1 hv;exact ⟨⟨rfl,fun q=>by have q:(6:Int)≤5:=q;omega,fun _=>rfl,fun _=>rfl⟩,by show (5:Int)≠1;omega⟩
      ·intro he;simp at he
     ·split
      ·split
       ·rename_i hc;intro _;obtain ⟨j,x,hq,_,h3,hx,h6,_⟩:=Zvm1 hc;have:=h.drop (List.mem_of_getElem? hx) h3;rw [h6] at this;refine ⟨this,rfl,fun v hv=>?_,by simp⟩;simp at hv;subst hv;exact ⟨⟨rfl,fun _=>rfl,fun q=>by have q:(8:Int)<6:=q;omega,fun _=>rfl⟩,by show (8:Int)≠1;omega⟩
       ·intro he;simp at he
      ·intro he;simp at he
theorem Zxm1 (m:NO) (V:List EV) (e:Int) (K:List KE) (J:K=m.KN) (h:e=0→OkN m) (U:V.length≤100000):
  Zh91 K (m.DK.DI.ID,m.DK.DI.PH,m.DK.TH,m.BK.LA,m.BK.SE,m.TL,e,m.DK.DI.SD,m.DK.NE,m.AK,V)=some (outA e m V):=by
 subst J;dsimp only [Zh91];unfold outA;by_cases he:e=0
 ·subst he;rw [Z2l1 m (h rfl) V U,OB,if_pos rfl];rfl
 ·rw [Z3l1 _ _ _ _ e _ he,OB,if_neg he];rfl
theorem s_is (n:NO) (s:Int) (p:Int) (m:Msg) (x:node_node) (hx:x.NO.DK.DI.SD=n.DK.DI.SD):Zoo s (plc (Zpl1 n.DK.DI.SD p)) x m=some (isB (Zsm1 n p) m s):=by
 simp only [Zoo,Zno,hx];cases hq:Zsm1 n p with
 | none=>rw [Zum1 hq];rfl
 | some q=>obtain ⟨j,y⟩:=q;obtain ⟨h1,h2,h3⟩:=Ztm1 hq;rw [h1,show plc (some j)=(j:Int) from rfl,DT (show (0:Int)≤j by omega),Zha1,Zla1 h2,OB,OB];unfold isB;dsimp only;cases decide (y.EP=m.EP)<;>rfl
theorem Zym1 (n:NO) (p:Int) (m:Msg) (J:FewN n):Zo91 n p m=Zm91 n p m n.DK.DI.SD n.DK.NE n.KN n.TL n.AK n.BK.SE (decide (Zil1 (decide (m.Num=0)) 187 (if okN n then 0 else 180)=0),Zil1 (decide (m.Num=0)) 187 (if okN n then 0 else 180)) (plc (Zpl1 n.DK.DI.SD p)) (k14 m):=by
 have hS:=J.sides;unfold Zo91;rw [Z4k1 n J,OB,Zag1 n J,OB];dsimp only [Zn91];rw [Zkl1,OB,Zql1 _ _ (show _≤_ by dsimp only;omega),OB];unfold k14;by_cases c1:m.KI=1
 ·simp [c1,ifb]
 ·by_cases c2:m.KI=2
  ·simp [c2,ifb]
  ·by_cases c3:m.KI=3
   ·simp [c3,ifb]
   ·by_cases c4:m.KI=4
    ·simp [c4,ifb]
    ·simp [c1,c2,c3,c4,ifb]
theorem Zzm1 (n:NO) (p:Int) (m:Msg) (J:FewN n) (e:Int) (he:e≠0) (z:Bool):Zm91 n p m n.DK.DI.SD n.DK.NE n.KN n.TL n.AK n.BK.SE (decide (e=0),e) (plc (Zpl1 n.DK.DI.SD p)) z=some (Zem1,[],[],e):=by
 have hA:=J.asked;have hT:=J.told;have h6:Zh91 n.KN (n.DK.DI.ID,n.DK.DI.PH,n.DK.TH,n.BK.LA,n.BK.SE,n.TL,e,n.DK.DI.SD,n.DK.NE,n.AK,[])=some (Zem1,[],[],e):=by have:=Zxm1 n [] e n.KN rfl (fun q=>absurd q he) (by simp);unfold outA at this;rw [if_neg he] at this;exact this
 have n2:∀(is:Bool) (c:Int),Zkt is c n.DK.DI.ID n.DK.DI.PH n.DK.TH n.BK.LA e n.DK.DI.SD n.DK.NE n.BK.SE n.KN n.TL n.AK=some (false,e):=fun is c=>by rw [Zkl1,Zml1 is he,DN he]
 have n3:∀c,Zot c n.DK.DI.ID n.DK.DI.PH n.DK.TH n.BK.LA e n.DK.DI.SD n.DK.NE n.BK.SE n.KN n.TL n.AK=some (false,e):=fun c=>by rw [Zll1,Zml1 _ he,DN he]
 dsimp only [Zm91];cases z with
 | true=>rw [Zha1,DN he,Zia1];dsimp only [Zi91];rw [Zia1];exact h6
 | false=>
   rw [Zia1];cases decide (m.KI=5) with
   | true=>rw [Zha1,Zpf1 n J,OB,Z2k1 _ (by omega),OB,Zna1 _ _ (by omega) (by simp;omega),OB,Zrf1 _ (by simp;omega),OB,n2,n3,OB];dsimp only [Zj91];rw [Zia1,h6];cases mayB n ⟨p,m.EP⟩<;>rfl
   | false=>
     rw [Zia1];cases decide (m.KI=6) with
     | true=>rw [Zha1,s_is n 1 p m _ rfl,OB,Z3c1 _ _ (by omega),OB,n2,n3,OB];dsimp only [Zk91];rw [Zia1,h6];cases isB (Zsm1 n p) m 1<;>rfl
     | false=>
       rw [Zia1];cases decide (m.KI=7) with
       | true=>rw [Zha1,s_is n 0 p m _ rfl,OB,n2,n3,OB];dsimp only [Zl91];rw [Zia1,h6];cases isB (Zsm1 n p) m 0<;>rfl
       | false=>
         rw [Zia1];cases decide (m.KI=8) with
         | true=>rw [Zha1,s_is n 3 p m _ rfl,OB,n2,OB];exact h6
         | false=>rw [Zia1,n3,OB];exact h6
theorem Z0n1 (n:NO) (p:Int) (m:Msg) (J:FewN n) (hk:okN n=false):Zo91 n p m=some (Zem1,[],[],180):=by rw [Zym1 n p m J,hk,if_neg (by simp),Zml1 _ (by omega)];exact Zzm1 n p m J 180 (by omega) _
theorem Z1n1 (n:NO) (p:Int) (m:Msg) (h:OkN n):Zo91 n p m=some (outA (getN n p m).1 (getN n p m).2.1 (getN n p m).2.2):=by
 have hf:=h.few;have hA:=hf.asked;have hT:=hf.told;have hS:=hf.sides;have hN:=hf.need;rw [Zym1 n p m hf,(Zoi1 n).2 h,if_pos rfl];have hok:=fun he=>Zwm1 (p:=p) (m:=m) h he;by_cases hn:m.Num=0
 ·have eG:getN n p m=_:=rfl;have h6:∀(r:NO) (V:List EV) (e:Int),n.KN=r.KN→r.DK.DI.ID=r.DK.DI.ID→(e=0→OkN r)→V.length≤100000→Zh91 n.KN (r.DK.DI.ID,r.DK.DI.PH,r.DK.TH,r.BK.LA,r.BK.SE,r.TL,e,r.DK.DI.SD,r.DK.NE,r.AK,V)=some (outA e r V):=fun r V e hK _ h1 hV=>Zxm1 r V e n.KN hK h1 hV;have bad:∀e:Int,e≠0→Zh91 n.KN (n.DK.DI.ID,n.DK.DI.PH,n.DK.TH,n.BK.LA,n.BK.SE,n.TL,e,n.DK.DI.SD,n.DK.NE,n.AK,[])=some (outA e n []):=fun e he=>h6 n [] e rfl rfl (fun q=>absurd q he) (by simp);have n2:∀(is:Bool) (c:Int),Zkt is c n.DK.DI.ID n.DK.DI.PH n.DK.TH n.BK.LA 0 n.DK.DI.SD n.DK.NE n.BK.SE n.KN n.TL n.AK=some (decide (Zil1 is c 0=0),Zil1 is c 0):=fun is c=>Zkl1 _ _ _ _ _ _ _ _ _ _ _ _ _;have n3:∀c,Zot c n.DK.DI.ID n.DK.DI.PH n.DK.TH n.BK.LA 0 n.DK.DI.SD n.DK.NE n.BK.SE n.KN n.TL n.AK=some (decide (c=0),c):=fun c=>Zll1 _ _ _ _ _ _ _ _ _ _ _ _;rw [DT hn,Znl1,DT rfl];unfold getN at hok ⊢;rw [if_neg fun q=>q hn] at hok ⊢;dsimp only [Zm91];cases hk:k14 m with
  | true=>
    rw [Zha1,DT rfl,Zha1,if_pos rfl];rw [hk,if_pos rfl] at hok;have j4f:Zi91 n p m n.DK.DI.SD n.DK.NE n.KN n.TL n.AK n.BK.SE (true,0) false=some (outA 0 n []):=by dsimp only [Zi91];rw [Zia1];exact h6 n [] 0 rfl rfl (fun _=>h) (by simp)
    cases hq:Zsm1 n p with
    | none=>rw [Zum1 hq,show plc none = -1 from rfl,DN (show ¬(0:Int)≤ -1 by omega),Zia1,if_neg (by simp [fitB])];exact j4f
    | some q=>
      obtain ⟨j,x⟩:=q;obtain ⟨h1,h2,h3⟩:=Ztm1 hq;rw [h1,show plc (some j)=(j:Int) from rfl,DT (show (0:Int)≤j by omega),Zha1,Zla1 h2,OB];have ex:xO (some (j,x))=x:=rfl;have ej:jO (some (j,x))=j:=rfl;rw [ex,ej];rw [hq,ex,ej] at hok;by_cases h8:x.EP=m.EP
      ·rw [DT h8,if_pos (show fitB (some (j,x)) m=true from DT h8)];rw [if_pos (show fitB (some (j,x)) m=true from DT h8)] at hok;have hw:n.DK.DI.SD.findIdx? (fun x=>decide (x.PE=p)&&decide (x.EP=m.EP))=some j:=by
        obtain ⟨g1,g2,g3⟩:=List.findIdx?_eq_some_iff_getElem.1 h1;obtain ⟨_,hB⟩:=List.getElem?_eq_some_iff.1 h2;rw [List.findIdx?_eq_some_iff_getElem];refine ⟨g1,?_,fun i hi=>?_⟩
        ·rw [hB,DT h3,DT h8];rfl
        ·have:=g3 i hi;simp only [decide_eq_true_eq] at this;rw [DN this];simp
       have hC:1≤m.KI∧m.KI≤4:=by unfold k14 at hk;rw [decide_eq_true_eq] at hk;omega
       have hg:=Zgf1 n.DK p m ((Zji1 _).2 h.dr) (by omega) hw h2 hn hC;dsimp only [Zi91,Zf81];rw [Zha1,hg,OB];dsimp only [Ze81,Zd81];by_cases hl:Zef1 m.KI x=true
       ·simp only [if_pos hl];rw [n2,OB];exact bad 187 (by omega)
       ·rw [if_neg hl] at hok;simp only [if_neg hl];rw [n2,OB];exact h6 (layN n j x m.KI) [] 0 rfl rfl (fun _=>(hok rfl).1) (by simp)
      ·rw [DN h8,if_neg (show ¬fitB (some (j,x)) m=true from fun q=>h8 (of_decide_eq_true q))];exact j4f
  | false=>
    rw [Zia1,if_neg (by simp)];rw [hk,if_neg (by simp)] at hok;by_cases k5:m.KI=5
    ·rw [DT k5,Zha1,if_pos k5,Zpf1 n hf,OB];rw [if_pos k5] at hok;have j5f:Zj91 n p m n.DK.DI.SD n.DK.NE n.KN n.TL n.AK n.BK.SE (false,187)=some (outA 187 n []):=by dsimp only [Zj91];rw [Zia1];exact bad 187 (by omega)
     cases hm:mayB n ⟨p,m.EP⟩ with
     | false=>rw [Zia1,n3,OB,if_neg (by simp),DN (show ¬(187:Int)=0 by omega)];exact j5f
     | true=>
       rw [Zha1,Z2k1 _ (by omega),OB,Zna1 _ _ (by omega) (by simp;omega),OB,Zrf1 _ (by simp;omega),OB,n2,OB];cases hd:Zqf1 (n.AK++[⟨p,m.EP⟩]) with
       | false=>rw [Zol1,DN (show ¬(187:Int)=0 by omega),if_neg (by simp)];exact j5f
       | true=>rw [Znl1,DT rfl,if_pos ⟨rfl,rfl⟩];dsimp only [Zj91];rw [Zha1,Zna1 _ _ (by omega) (by simp;omega),OB];exact h6 (askN n ⟨p,m.EP⟩) [] 0 rfl rfl (fun _=>h.ask hm hd) (by simp)
    ·rw [DN k5,Zia1,if_neg k5];rw [if_neg k5] at hok;by_cases k6:m.KI=6
     ·rw [DT k6,Zha1,if_pos k6,s_is n 1 p m _ rfl,OB];have j6f:Zk91 n p n.DK.DI.SD n.DK.NE n.KN n.TL n.AK n.BK.SE (plc (Zpl1 n.DK.DI.SD p)) (false,187)=some (outA 187 n []):=by dsimp only [Zk91];rw [Zia1];exact bad 187 (by omega)
      cases hi:isB (Zsm1 n p) m 1 with
      | false=>rw [Zia1,n3,OB,if_neg (by simp),DN (show ¬(187:Int)=0 by omega)];exact j6f
      | true=>
        rw [Zha1,Z3c1 _ _ (by omega),OB,n2,OB];by_cases ht:p∈n.TL
        ·obtain ⟨j,x,hq,_,_,hx,hc,ho⟩:=Zvm1 hi;rw [DT ht,Znl1,DT rfl,if_pos ⟨rfl,ht⟩,hq,ho];dsimp only [Zk91,xO,jO];rw [Zha1,show plc (some j)=(j:Int) from rfl,Zla1 hx,OB,s_Del _ _ (by omega),OB,Int.toNat_natCast];have h9:∀(S:List SX) (T:List Int) (e:Int),Zlu 6 p n.DK.DI.ID n.DK.DI.PH n.DK.TH n.BK.LA T e S n.DK.NE n.BK.SE n.KN n.AK=some [⟨6,n.DK.DI.ID,0,p,[]⟩]:=fun S T e=>by simp only [Zlu];rw [Zna1 _ _ (by omega) (by simp),OB];rfl
         rw [h9,OB];have:=h6 (Zqm1 n j x) [⟨6,n.DK.DI.ID,0,p,[]⟩] 0 rfl rfl (fun _=>h.live hx) (by simp);subst hc;exact this
        ·rw [DN ht,Zol1,DN (show ¬(187:Int)=0 by omega),if_neg fun q=>ht q.2];exact j6f
     ·rw [DN k6,Zia1,if_neg k6];rw [if_neg k6] at hok;by_cases k7:m.KI=7
      ·rw [DT k7,Zha1,if_pos k7,s_is n 0 p m _ rfl,OB];have j7f:Zl91 n p n.DK.DI.SD n.DK.NE n.KN n.TL n.AK n.BK.SE (false,187)=some (outA 187 n []):=by dsimp only [Zl91];rw [Zia1];exact bad 187 (by omega)
       cases hi:isB (Zsm1 n p) m 0 with
       | false=>rw [Zia1,n3,OB,if_neg (by simp),DN (show ¬(187:Int)=0 by omega)];exact j7f
       | true=>
         rw [Zha1,n2,OB];by_cases hp:p<n.DK.DI.ID
         ·obtain ⟨j,x,hq,_,h0,hx,hc,ho⟩:=Zvm1 hi;have hg:=Zal1 p n.BK.SE;have hb:=((Zqi1 _).1 h.bk).len;rw [DT hp,Znl1,DT rfl,if_pos ⟨rfl,hp⟩,hq];dsimp only [Zl91,xO,jO];rw [Zha1,Zcm1 n h p j x ho hx hc 0,OB];exact h6 (Z9m1 n j x) (Zbm1 n p) 0 rfl rfl (fun _=>h.shut hx h0) (by unfold Zbm1 Zam1;simp only [List.length_cons,List.length_map];omega)
         ·rw [DN hp,Zol1,DN (show ¬(187:Int)=0 by omega),if_neg fun q=>hp q.2];exact j7f
      ·rw [DN k7,Zia1,if_neg k7];rw [if_neg k7] at hok;by_cases k8:m.KI=8
       ·rw [DT k8,Zha1,if_pos k8,s_is n 3 p m _ rfl,OB,n2,OB];cases hi:isB (Zsm1 n p) m 3 with
        | false=>rw [Zol1];dsimp only;rw [DN (show ¬(187:Int)=0 by omega),Zia1,if_neg (by simp)];exact bad 187 (by omega)
        | true=>
          obtain ⟨j,x,hq,_,h3,hx,hc,ho⟩:=Zvm1 hi;rw [Znl1];dsimp only;rw [DT rfl,Zha1,if_pos rfl];have hD:Z111 p n.DK.DI.ID n.DK.DI.PH n.DK.TH n.BK.LA 0 n.DK.DI.SD n.DK.NE n.BK.SE n.KN n.TL n.AK=some (n.DK.DI.SD.filter fun x=>!decide (x.PE=p)):=by simp only [Z111,Zch1 n.DK.DI.SD (fun z=>Zyn z p) (fun x=>decide (x.PE=p)) (by omega) (fun _ _=>rfl),OB]
          have h9:∀(S:List SX),Ztt 8 p n.DK.DI.ID n.DK.DI.PH n.DK.TH n.BK.LA 0 S n.DK.NE n.BK.SE n.KN n.TL n.AK=some [⟨8,n.DK.DI.ID,0,p,[]⟩]:=fun S=>by simp only [Ztt];rw [Zna1 _ _ (by omega) (by simp),OB];rfl
          rw [hD,OB,h9,OB];have:=h.drop (List.mem_of_getElem? hx) h3;rw [hc] at this;exact h6 (Zrm1 n p) [⟨8,n.DK.DI.ID,0,p,[]⟩] 0 rfl rfl (fun _=>this) (by simp)
       ·rw [DN k8,Zia1,if_neg k8,n3,OB];exact bad 187 (by omega)
 ·rw [DN hn,Zol1];have:=Zzm1 n p m hf 187 (by omega) (k14 m);rw [this];unfold getN;rw [if_pos hn];rfl
end NX
end Go.Proofs.YtgamgemlekpepaaGreat
