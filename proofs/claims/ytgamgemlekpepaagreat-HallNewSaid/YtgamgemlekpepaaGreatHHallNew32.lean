/-
  Plain laws: what a node does once. No statement of the seat is proved here.
-/
import Derived.Test.YtgamgemlekpepaaGreatHHallNew31
namespace Go.Proofs.YtgamgemlekpepaaGreat
namespace NX
open Go
def ansN (n:Node):Node:=if n.DK.DI.PH=2 then n else ⟨⟨⟨n.DK.DI.ID,n.DK.DI.PH,ansS n.DK.DI.SD n.AK⟩,n.DK.TH,n.DK.Need⟩,n.Book,ansK n.KN n.AK,n.Told,[]⟩
def Z9h1 (n:Node):List Mail:=if n.DK.DI.PH=2 then [] else ansM n.DK.DI.ID n.AK
def Zah1 (n:Node):List Event:=if n.DK.DI.PH=2 then [] else ansV n.DK.DI.ID n.AK
def Zbh1 (n:Node):Option Sess:=match n.Book.Sess with | []=>none | s::_=>if s.State=0 then some s else none
def thiD (n:Node):DK:=match Zbh1 n with | some s=>if n.DK.TH=0 then ⟨n.DK.DI,1,s.Need⟩ else n.DK | none=>n.DK
def thiN (n:Node):Node:=⟨thiD n,n.Book,n.KN,n.Told,n.AK⟩
def hunP (n:Node):Int:=if decide (n.DK.DI.PH=0)&&n.DK.DI.SD.any (untB n.Told) then 1 else n.DK.DI.PH
def hunN (n:Node):Node:=⟨⟨⟨n.DK.DI.ID,hunP n,n.DK.DI.SD⟩,n.DK.TH,n.DK.Need⟩,n.Book,n.KN,n.Told,n.AK⟩
def firN (n:Node):Node:=⟨(Zhe1 n.DK).1,n.Book,n.KN,n.Told,n.AK⟩
def graB (n:Node):Book:=match n.Book.Sess with | []=>n.Book | s::l=>if s.State=0 then (if n.DK.TH=2 then ⟨n.Book.Last,⟨s.ID,s.Need,1,s.Age⟩::l⟩ else n.Book) else n.Book
def graN (n:Node):Node:=⟨n.DK,graB n,n.KN,n.Told,n.AK⟩
def graV (n:Node):List Event:=match Zbh1 n with | some s=>if n.DK.TH=2 then [⟨1,n.DK.DI.ID,s.ID,0,[]⟩] else [] | none=>[]
def telT (n:Node):List Int×List Mail:=if n.DK.DI.PH=2 then Zsg1 n.DK.DI.ID n.DK.DI.SD n.Told [] else (n.Told,[])
def telN (n:Node):Node:=⟨n.DK,n.Book,n.KN,(telT n).1,n.AK⟩
def leaN (n:Node):Node:=⟨⟨⟨n.DK.DI.ID,n.DK.DI.PH,Zzg1 n.DK.DI.ID n.DK.TH n.DK.Need n.DK.DI.SD⟩,n.DK.TH,n.DK.Need⟩,n.Book,n.KN,n.Told,n.AK⟩
def Zch1 (n:Node):List Mail:=Z0h1 n.DK.DI.ID n.DK.TH n.DK.Need n.DK.DI.SD
def preN (n:Node):Node:=hunN (thiN (ansN n))
def midN (n:Node):Node:=firN (preN n)
def Zdh1 (n:Node):Node:=leaN (telN (graN (midN n)))
def Zeh1 (n:Node):List Mail:=Z9h1 n++((Zhe1 (preN n).DK).2++((telT (graN (midN n))).2++Zch1 (telN (graN (midN n)))))
def Zfh1 (n:Node):List Event:=Zah1 n++graV (midN n)
def tupN (n:Node) (E:List Mail) (V:List Event):Int×Int×Int×Int×List Sess×List Int×List KE×List Event×List KE×List Int×List Mail×List Side:=(n.DK.DI.ID,n.DK.DI.PH,n.DK.TH,n.Book.Last,n.Book.Sess,n.Told,n.KN,V,n.AK,n.DK.Need,E,n.DK.DI.SD)
def tupF (d:DK) (N:List Int) (M:List Mail):Int×Int×Int×Int×List Side×List Int×List Mail:=(d.DI.ID,d.DI.PH,d.TH,0,d.DI.SD,N,M)
theorem Zgh1 (id:Int):∀(l:List Side) (T:List Int) (E:List Mail),Zsg1 id l T E=((Zsg1 id l T []).1,E++(Zsg1 id l T []).2)
 | [],T,E=>by simp [Zsg1]
 | x::l,T,E=>by
   unfold Zsg1;split
   ·rw [Zgh1 id l _ (E++_),Zgh1 id l _ ([]++_)];simp
   ·exact Zgh1 id l T E
theorem Zhh1 (id:Int):∀(l:List Side) (T:List Int) (E:List Mail),(Zsg1 id l T E).1.length≤T.length+l.length∧(Zsg1 id l T E).2.length≤E.length+l.length
 | [],T,E=>by simp [Zsg1]
 | x::l,T,E=>by
   unfold Zsg1;split
   ·have:=Zhh1 id l (setL (T++[x.Peer])) (E++[⟨id,x.Peer,⟨5,x.Epoch,0⟩⟩]);have h2:=Ztb1 (T++[x.Peer]);simp only [List.length_append,List.length_cons,List.length_nil] at this h2 ⊢;omega
   ·have:=Zhh1 id l T E;simp only [List.length_cons];omega
section
variable (f:Int)
theorem Zih1 (m:Node) (J E:List Mail) (V:List Event) (U:m.DK.DI.SD.length≤1000) (hs:m.DK.DI.SD.Pairwise fun x y=>x.Peer<y.Peer) (hO:m.Told.length≤1000) (Z:m.DK.Need.length≤100000) (Y:E.length≤800000):
  Z181 m.Told f m.KN m.AK (tupF m.DK m.DK.Need J) E (m.Book.Last,m.Book.Sess,V)=some (tupN (leaN (telN m)) (E++((telT m).2++Zch1 (telN m))) V):=by
 have h1:=Zhh1 m.DK.DI.ID m.DK.DI.SD m.Told [];have h2:=Z5h1 m.DK.DI.ID m.DK.TH m.DK.Need m.DK.DI.SD;have j10:∀(T:List Int) (E:List Mail),E.length≤890000→Z081 f m.KN m.AK (tupF m.DK m.DK.Need J) m.Book.Last m.Book.Sess V (T,E)=some (tupN (leaN ⟨m.DK,m.Book,m.KN,T,m.AK⟩) (E++Zch1 m) V):=fun T E Y=>by dsimp only [Z081,tupF,Zq21];rw [Z8h1 m.DK.DI.ID m.DK.DI.PH m.DK.TH m.Book.Last m.Book.Sess T f m.DK.Need m.KN m.AK V Z _ m.DK.DI.SD E (Nat.le_refl _) U hs (by omega),OB];rfl
 dsimp only [Z181];unfold telN telT;by_cases hp:m.DK.DI.PH=2
 ·rw [show decide ((tupF m.DK m.DK.Need J).2.1=2)=true from DT hp,Z0a1,if_pos hp];dsimp only [tupF];rw [Ztg1 _ _ _ _ _ _ _ _ _ _ _ _ _ U hO (by omega),OB];have:=j10 (Zsg1 m.DK.DI.ID m.DK.DI.SD m.Told []).1 (E++(Zsg1 m.DK.DI.ID m.DK.DI.SD m.Told []).2) (by rw [List.length_append];simp only [List.length_nil] at h1;omega);rw [Zgh1];dsimp only;refine Eq.trans this ?_;rw [List.append_assoc];rfl
 ·rw [show decide ((tupF m.DK m.DK.Need J).2.1=2)=false from DN hp,Z1a1,if_neg hp];rw [j10 m.Told E (by omega)];rfl
def Zjh1 (n:Node):Sess×Bool:=match n.Book.Sess with | []=>(Zkf1,false) | s::_=>(s,true)
theorem Zkh1 (m:Node) (J E:List Mail) (V:List Event) (hB:Z2c1 m.Book) (hk:okBk m.Book=true) (hS:m.DK.DI.SD.length≤1000) (hs:m.DK.DI.SD.Pairwise fun x y=>x.Peer<y.Peer) (Z:m.Told.length≤1000) (Y:m.DK.Need.length≤100000) (U:E.length≤800000) (hV:V.length≤800000):
  Z481 m.Book.Last m.Book.Sess m.Told f m.KN V m.AK (Zjh1 m) (tupF m.DK m.DK.Need J) E=some (tupN (leaN (telN (graN m))) (E++((telT (graN m)).2++Zch1 (telN (graN m)))) (V++graV m)):=by
 have no:graB m=m.Book→graV m=[]→Z181 m.Told f m.KN m.AK (tupF m.DK m.DK.Need J) E (m.Book.Last,m.Book.Sess,V)=some (tupN (leaN (telN (graN m))) (E++((telT (graN m)).2++Zch1 (telN (graN m)))) (V++graV m)):=fun e1 e2=>by
  have e:graN m=m:=by unfold graN;rw [e1]
  rw [e,e2,List.append_nil];exact Zih1 f m J E V hS hs Z Y U
 dsimp only [Z481,Z381];simp only [Z1a1];unfold Zjh1;cases hb:m.Book.Sess with
 | nil=>rw [Z1a1,←hb];exact no (by unfold graB;rw [hb]) (by unfold graV Zbh1;rw [hb])
 | cons s l=>
   rw [Z0a1];by_cases h0:s.State=0
   ·rw [DT h0,Z0a1];by_cases h2:m.DK.TH=2
    ·rw [show decide ((tupF m.DK m.DK.Need J).2.2.1=2)=true from DT h2,Z0a1,←hb,Zic1 m.Book hB,OB];have eg:Zhc1 m.Book=(⟨m.Book.Last,⟨s.ID,s.Need,1,s.Age⟩::l⟩,s.ID,0):=by unfold Zhc1;rw [hk,if_pos rfl,hb];dsimp only;rw [if_neg (by omega)]
     have e1:graN m=⟨m.DK,⟨m.Book.Last,⟨s.ID,s.Need,1,s.Age⟩::l⟩,m.KN,m.Told,m.AK⟩:=by unfold graN graB;rw [hb];dsimp only;rw [if_pos h0,if_pos h2]
     have e2:graV m=[⟨1,m.DK.DI.ID,s.ID,0,[]⟩]:=by unfold graV Zbh1;rw [hb];dsimp only;rw [if_pos h0];dsimp only;rw [if_pos h2]
     rw [eg];dsimp only [Z281,tupF];rw [Zmg1 _ _ _ _ _ _ _ _ _ _ _ _ _ _ _ (by omega),OB,e1,e2];have:=Zih1 f ⟨m.DK,⟨m.Book.Last,⟨s.ID,s.Need,1,s.Age⟩::l⟩,m.KN,m.Told,m.AK⟩ J E (V++[⟨1,m.DK.DI.ID,s.ID,0,[]⟩]) hS hs Z Y U;rw [hb];exact this
    ·rw [show decide ((tupF m.DK m.DK.Need J).2.2.1=2)=false from DN h2,Z1a1,←hb];exact no (by unfold graB;rw [hb];dsimp only;rw [if_pos h0,if_neg h2]) (by unfold graV Zbh1;rw [hb];dsimp only;rw [if_pos h0];dsimp only;rw [if_neg h2])
   ·rw [DN h0,Z1a1,←hb];exact no (by unfold graB;rw [hb];dsimp only;rw [if_neg h0]) (by unfold graV Zbh1;rw [hb];dsimp only;rw [if_neg h0])
theorem Zlh1 (x:Side) (n:node_node) (h:n.Node.Told.length≤1000):Z601 x n=some (untB n.Node.Told x):=by simp only [Z601,Znn,OB,Zmb1 n.Node.Told x.Peer (by omega),Z501];unfold untB Z2f1;cases decide (x.State=1)<;>rfl
theorem Zmh1 (n:Nat):∀(d:DK) (out:List Mail),((Zge1 n d out).1.DI.SD.map (·.Peer))=d.DI.SD.map (·.Peer)∧(Zge1 n d out).1.DI.ID=d.DI.ID:=by
 induction n with
 | zero=>intro d out;exact ⟨rfl,rfl⟩
 | succ n ih=>
   intro d out;unfold Zge1;split
   ·exact ⟨rfl,rfl⟩
   ·obtain ⟨i1,i2⟩:=ih (Zvd1 d) (out++Zwd1 d);refine ⟨i1.trans ?_,i2⟩;show (Ztd1 d).map _=_;unfold Ztd1;rw [List.map_map];have e:((fun x:Side=>x.Peer)∘fun x=>bot2 (Zjd1 d x) d.TH x)=fun x:Side=>x.Peer:=by funext x;exact (Zld1 _ _ _).1
    rw [e,Zdd1,List.map_map];show d.DI.SD.map _=_;congr 1;funext x;exact (Zfd1 _ x).1
theorem Znh1 (d:DK):(Zhe1 d).1.DI.SD.map (·.Peer)=d.DI.SD.map (·.Peer)∧(Zhe1 d).1.DI.ID=d.DI.ID∧(Zhe1 d).1.Need=d.Need:=⟨(Zmh1 300 d []).1,(Zmh1 300 d []).2,Zte1 300 d []⟩
theorem Zoh1 {S S':List Side} (h:S'.map (·.Peer)=S.map (·.Peer)) (hs:S.Pairwise fun x y=>x.Peer<y.Peer):S'.Pairwise fun x y=>x.Peer<y.Peer:=by have h1:(S.map (·.Peer)).Pairwise (· < ·):=List.pairwise_map.2 hs;rw [←h] at h1;exact List.pairwise_map.1 h1
theorem Zph1:∀(n:Nat) (d:DK) (out:List Mail),(Zge1 n d out).2.length+bits (Zge1 n d out).1.DI.SD=out.length+bits d.DI.SD
 | 0,_,_=>rfl
 | n+1,d,out=>by
   unfold Zge1;split
   ·rfl
   ·have h1:=Zph1 n (Zvd1 d) (out++Zwd1 d);have h2:=Z4e1 d;rw [List.length_append] at h1;omega
theorem Zqh1 {d:DK} (h:okDr d=true):(Zhe1 d).2.length≤256:=by have h1:=Zph1 300 d [];have h2:=Zle1 d.DI.SD;have h3:=Z1d1 (Zse1 h);simp only [List.length_nil] at h1;unfold Zhe1;omega
theorem Zrh1 (m:Node) (x20:Sess×Bool) (h6:x20=Zjh1 m) (E:List Mail) (V:List Event) (J:okDr (hunN m).DK=true) (Y:Z2c1 m.Book) (hk:okBk m.Book=true) (hs:m.DK.DI.SD.Pairwise fun x y=>x.Peer<y.Peer) (U:m.Told.length≤1000) (Z:m.DK.Need.length≤100000) (hE:E.length≤700000) (hV:V.length≤800000):
  Z781 m.DK.DI.ID m.DK.DI.PH m.Book.Last m.Book.Sess m.Told f m.DK.DI.SD m.KN E V m.AK x20 (m.DK.TH,m.DK.Need) =
   some (tupN (leaN (telN (graN (firN (hunN m))))) (E++((Zhe1 (hunN m).DK).2++((telT (graN (firN (hunN m)))).2++Zch1 (telN (graN (firN (hunN m))))))) (V++graV (firN (hunN m)))):=by
 subst h6;have hl:=Z1d1 (Zse1 J);have hl:m.DK.DI.SD.length<64:=hl;have hq:=Znh1 (hunN m).DK;have h8:(Zhe1 (hunN m).DK).1.DI.SD.length=m.DK.DI.SD.length:=by have:=congrArg List.length hq.1;rw [List.length_map,List.length_map] at this;exact this
 have ho:=Zqh1 J;have h9:Zhe1 (hunN m).DK=Zhe1 ⟨⟨m.DK.DI.ID,hunP m,m.DK.DI.SD⟩,m.DK.TH,m.DK.Need⟩:=rfl;have j5:∀z,z=hunP m→Z581 m.DK.DI.ID m.Book.Last m.Book.Sess m.Told f m.DK.DI.SD m.KN E V m.AK (Zjh1 m) m.DK.TH m.DK.Need z=some (tupN (leaN (telN (graN (firN (hunN m))))) (E++((Zhe1 (hunN m).DK).2++((telT (graN (firN (hunN m)))).2++Zch1 (telN (graN (firN (hunN m))))))) (V++graV (firN (hunN m)))):=fun z hz=>by subst hz;dsimp only [Z581];have hf:=Zue1 (hunN m).DK J (by show m.DK.Need.length≤1000000;omega);have hf':Zr71 m.DK.DI.ID (hunP m) m.DK.TH m.DK.DI.SD m.DK.Need=some (tupF (Zhe1 (hunN m).DK).1 m.DK.Need (Zhe1 (hunN m).DK).2):=hf;rw [hf',OB];rw [show (tupF (Zhe1 (hunN m).DK).1 m.DK.Need (Zhe1 (hunN m).DK).2).2.2.2.2.2.2=(Zhe1 (hunN m).DK).2 from rfl,Z6a1 _ _ (by omega) (by omega),OB];have hn:(firN (hunN m)).DK.Need=m.DK.Need:=hq.2.2;have:=Zkh1 f (firN (hunN m)) (Zhe1 (hunN m).DK).2 (E++(Zhe1 (hunN m).DK).2) V Y hk (by show (Zhe1 (hunN m).DK).1.DI.SD.length≤1000;omega) (Zoh1 hq.1 hs) U (by rw [hn];exact Z) (by rw [List.length_append];omega) hV;rw [hn,List.append_assoc] at this;exact this
 dsimp only [Z781,Z681];rw [Z1a1,Z5b1 m.DK.DI.SD _ (untB m.Told) (by omega) (fun x _=>Zlh1 x _ U),OB];unfold hunP at j5;by_cases h0:m.DK.DI.PH=0
 ·rw [DT h0] at j5 ⊢;rw [Z0a1];cases hu:m.DK.DI.SD.any (untB m.Told) with
  | true=>rw [hu] at j5;exact j5 1 rfl
  | false=>rw [hu] at j5;exact j5 _ rfl
 ·rw [DN h0] at j5 ⊢;exact j5 _ rfl
theorem Zsh1 (a b c d:Int) (B:Book) (O:List Int) (S:List Side) (N:List Int) (K A:List KE) (n:Node) (h:n.Book=B):Zqt a b c d B.Sess O S N K A=some (Zjh1 n):=by
 subst h;simp only [Zqt,ln_eq];unfold Zjh1;cases h:n.Book.Sess with
 | nil=>rfl
 | cons s l=>rw [DN (by simp;omega),Z1a1];rfl
theorem Zth1 (m:Node) (E:List Mail) (V:List Event) (hd:okDr (hunN (thiN m)).DK=true) (U:Z2c1 m.Book) (hk:okBk m.Book=true) (hs:m.DK.DI.SD.Pairwise fun x y=>x.Peer<y.Peer) (Z:m.Told.length≤1000) (J:m.DK.Need.length≤100000) (h9:∀s∈m.Book.Sess,s.Need.length≤100000) (Y:E.length≤700000) (hV:V.length≤800000):
  Z981 m.DK.DI.ID m.DK.DI.PH m.DK.TH m.Book.Last m.Book.Sess m.Told f m.DK.Need (m.DK.DI.SD,m.KN,E,V,m.AK) =
   some (tupN (leaN (telN (graN (firN (hunN (thiN m)))))) (E++((Zhe1 (hunN (thiN m)).DK).2++((telT (graN (firN (hunN (thiN m))))).2++Zch1 (telN (graN (firN (hunN (thiN m)))))))) (V++graV (firN (hunN (thiN m))))):=by
 have h6:(thiN m).DK.DI=m.DK.DI:=by
  show (thiD m).DI=_;unfold thiD;split
  ·split<;>rfl
  ·rfl
 have h8:(thiN m).DK.Need.length≤100000:=by
  show (thiD m).Need.length≤_;unfold thiD;split
  ·rename_i s hw;split
   ·unfold Zbh1 at hw;split at hw
    ·simp at hw
    ·rename_i s' l hb;split at hw
     ·simp at hw;subst hw;exact h9 _ (by rw [hb];simp)
     ·simp at hw
   ·exact J
  ·exact J
 have key:=Zrh1 f (thiN m) (Zjh1 m) rfl E V hd U hk (by rw [h6];exact hs) Z h8 Y hV;rw [h6] at key;have fin:∀(p:Int×List Int),p=((thiN m).DK.TH,(thiN m).DK.Need)→Z781 m.DK.DI.ID m.DK.DI.PH m.Book.Last m.Book.Sess m.Told f m.DK.DI.SD m.KN E V m.AK (Zjh1 m) p=some (tupN (leaN (telN (graN (firN (hunN (thiN m)))))) (E++((Zhe1 (hunN (thiN m)).DK).2++((telT (graN (firN (hunN (thiN m))))).2++Zch1 (telN (graN (firN (hunN (thiN m)))))))) (V++graV (firN (hunN (thiN m))))):=fun p hp=>by rw [hp];exact key
 dsimp only [Z981,Z881];rw [Zsh1 _ _ _ _ m.Book _ _ _ _ _ m rfl,OB];simp only [Z1a1];have noT:Zbh1 m=none→(m.DK.TH,m.DK.Need)=((thiN m).DK.TH,(thiN m).DK.Need):=fun h=>by
  show _=((thiD m).TH,(thiD m).Need)
  unfold thiD;rw [h]
 cases hb:m.Book.Sess with
 | nil=>
   have e:(Zjh1 m).2=false:=by unfold Zjh1;rw [hb]
   rw [e,Z1a1,←hb];exact fin _ (noT (by unfold Zbh1;rw [hb]))
 | cons s l=>
   have e:Zjh1 m=(s,true):=by unfold Zjh1;rw [hb]
   rw [←hb];rw [show (Zjh1 m).2=true by rw [e],Z0a1,show (Zjh1 m).1=s by rw [e]];by_cases h0:s.State=0
   ·have hw:Zbh1 m=some s:=by unfold Zbh1;rw [hb];dsimp only;rw [if_pos h0]
    rw [DT h0,Z0a1];by_cases h1:m.DK.TH=0
    ·rw [DT h1,Z0a1,Z9c1 s.Need (by have:=h9 s (by rw [hb];simp);omega),OB];refine fin _ ?_;show _=((thiD m).TH,(thiD m).Need)
     unfold thiD;rw [hw];dsimp only;rw [if_pos h1]
    ·rw [DN h1,Z1a1];refine fin _ ?_;show _=((thiD m).TH,(thiD m).Need)
     unfold thiD;rw [hw];dsimp only;rw [if_neg h1]
   ·rw [DN h0,Z1a1];exact fin _ (noT (by unfold Zbh1;rw [hb];dsimp only;rw [if_neg h0]))
structure GoN (n:Node):Prop where
 rowS:RowS n.DK.DI.SD
 rowK:RowK n.KN
 ask:AskOK n.DK.DI.SD n.AK
 lenS:n.DK.DI.SD.length+n.AK.length≤1000
 lenK:n.KN.length+n.AK.length≤1000
 dr:okDr (preN n).DK=true
 bk:Z2c1 n.Book
 ok:okBk n.Book=true
 told:n.Told.length≤1000
 need:n.DK.Need.length≤100000
 needs:∀s∈n.Book.Sess,s.Need.length≤100000
theorem Zuh1 (n:Node) (h:GoN n) (E:List Mail) (V:List Event) (J:E.length≤600000) (U:V.length≤600000):
  Za81 n.DK.DI.ID n.DK.DI.PH n.DK.TH n.Book.Last n.Book.Sess n.Told f n.DK.DI.SD n.DK.Need n.KN n.AK E V=some (tupN (Zdh1 n) (E++Zeh1 n) (V++Zfh1 n)):=by
 have hd:=h.dr;have hr:=(Zqg1 h.rowS h.rowK h.ask h.lenS h.lenK [] n.AK (by simp)).1;have hA:=h.lenS;dsimp only [Za81];unfold Zdh1 Zeh1 Zfh1 midN preN Z9h1 Zah1;unfold preN at hd;by_cases hp:n.DK.DI.PH=2
 ·have e:ansN n=n:=by unfold ansN;rw [if_pos hp]
  rw [e] at hd ⊢;rw [DT hp,Bool.not_true,Z1a1,if_pos hp,if_pos hp];have:=Zth1 f n E V hd h.bk h.ok h.rowS.up h.told h.need h.needs (by omega) (by omega);simpa using this
 ·have e:ansN n=⟨⟨⟨n.DK.DI.ID,n.DK.DI.PH,ansS n.DK.DI.SD n.AK⟩,n.DK.TH,n.DK.Need⟩,n.Book,ansK n.KN n.AK,n.Told,[]⟩:=by unfold ansN;rw [if_neg hp]
  rw [DN hp,Bool.not_false,Z0a1,if_neg hp,if_neg hp];rw [Zrg1 _ _ _ _ _ _ _ _ _ _ _ _ _ h.rowS h.rowK h.ask h.lenS h.lenK (by omega) (by omega),OB];rw [e] at hd ⊢;have:=Zth1 f ⟨⟨⟨n.DK.DI.ID,n.DK.DI.PH,ansS n.DK.DI.SD n.AK⟩,n.DK.TH,n.DK.Need⟩,n.Book,ansK n.KN n.AK,n.Told,[]⟩ (E++ansM n.DK.DI.ID n.AK) (V++ansV n.DK.DI.ID n.AK) hd h.bk h.ok hr.up h.told h.need h.needs (by rw [List.length_append,ansM,List.length_map];omega) (by rw [List.length_append,ansV,List.length_map];omega);dsimp only at this ⊢;rw [List.append_assoc,List.append_assoc] at this;exact this
end
end NX
end Go.Proofs.YtgamgemlekpepaaGreat
/-
  Plain laws: what always holds of a node. No statement of the seat is proved here.
-/
namespace Go.Proofs.YtgamgemlekpepaaGreat
namespace NX
open Go
structure SideOK (id:Int) (x:Side):Prop where
 lo:0≤x.Peer
 ne:x.Peer≠id
 e0:0≤x.Epoch
 e1:x.Epoch≤65535
 s0:0≤x.State
 s3:x.State≤3
 df:x.DY=true→x.Fork=true
theorem Zvh1 (id:Int):∀(S:List Side) (q:Int),Ztc1 id q S=true↔(S.Pairwise fun x y=>x.Peer<y.Peer)∧∀x∈S,Zsc1 id q x=true
 | [],q=>by simp [Ztc1]
 | x::S,q=>by
   have hx:∀ {y:Side},Zsc1 id q x=true→Zsc1 id x.Peer y=true→Zsc1 id q y=true:=by intro y h1 h2;simp only [Zsc1,Bool.and_eq_true,decide_eq_true_eq] at h1 h2 ⊢;exact ⟨by omega,h2.2⟩
   have hy:∀ {y:Side},x.Peer<y.Peer→Zsc1 id q y=true→Zsc1 id x.Peer y=true:=by intro y h1 h2;simp only [Zsc1,Bool.and_eq_true,decide_eq_true_eq] at h2 ⊢;exact ⟨h1,h2.2⟩
   simp only [Ztc1,Bool.and_eq_true,Zvh1 id S x.Peer,List.pairwise_cons,List.mem_cons,forall_eq_or_imp];constructor
   ·rintro ⟨h1,h2,h3⟩;refine ⟨⟨fun y hy=>?_,h2⟩,h1,fun y hy=>hx h1 (h3 y hy)⟩;have:=h3 y hy;simp only [Zsc1,Bool.and_eq_true,decide_eq_true_eq] at this;exact this.1
   ·rintro ⟨⟨h1,h2⟩,h3,h4⟩;exact ⟨h3,h2,fun y hy'=>hy (h1 y hy') (h4 y hy')⟩
theorem Zwh1 (id:Int) (x:Side):Zsc1 id (-1) x=true↔SideOK id x:=by
 simp only [Zsc1,Bool.and_eq_true,decide_eq_true_eq,Bool.not_eq_true',decide_eq_false_iff_not,Bool.and_eq_false_iff,Bool.not_eq_false'];constructor
 ·rintro ⟨h1,h2,h3,h4,h5,h6,h7⟩;refine ⟨by omega,h2,h3,h4,h5,h6,fun h=>?_⟩;rcases h7 with h7 | h7
  ·rw [h] at h7;simp at h7
  ·exact h7
 ·rintro ⟨h1,h2,h3,h4,h5,h6,h7⟩;refine ⟨by omega,h2,h3,h4,h5,h6,?_⟩;cases hd:x.DY with
  | false=>exact .inl rfl
  | true=>exact .inr (h7 hd)
structure DinOK (d:DI):Prop where
 id0:0≤d.ID
 p0:0≤d.PH
 p2:d.PH≤2
 len:d.SD.length<64
 up:d.SD.Pairwise fun x y=>x.Peer<y.Peer
 side:∀x∈d.SD,SideOK d.ID x
theorem Zxh1 (d:DI):okD d=true↔DinOK d:=by
 simp only [okD,Bool.and_eq_true,decide_eq_true_eq,Zvh1,Zwh1];constructor
 ·rintro ⟨h1,h2,h3,h4,h5,h6⟩;exact ⟨h1,h2,h3,h4,h5,h6⟩
 ·rintro ⟨h1,h2,h3,h4,h5,h6⟩;exact ⟨h1,h2,h3,h4,h5,h6⟩
theorem Zyh1:∀(l:List Int) (q:Option Int),okI q l=true↔l.Pairwise (· < ·)∧∀y,q=some y→∀x∈l,y<x
 | [],q=>by simp [okI]
 | x::l,q=>by
   simp only [okI,Bool.and_eq_true,Zyh1 l (some x),List.pairwise_cons,List.mem_cons,forall_eq_or_imp,Option.some.injEq];cases q with
   | none=>
     constructor
     ·rintro ⟨_,h1,h2⟩;exact ⟨⟨h2 x rfl,h1⟩,by simp⟩
     ·rintro ⟨⟨h2,h1⟩,_⟩;exact ⟨rfl,h1,fun y e=>by subst e;exact h2⟩
   | some y=>
     simp only [decide_eq_true_eq];constructor
     ·rintro ⟨h0,h1,h2⟩;exact ⟨⟨h2 x rfl,h1⟩,fun z e=>by simp only [Option.some.injEq] at e;subst e;exact ⟨h0,fun w hw=>Int.lt_trans h0 (h2 x rfl w hw)⟩⟩
     ·rintro ⟨⟨h2,h1⟩,h3⟩;exact ⟨(h3 y rfl).1,h1,fun z e=>by subst e;exact h2⟩
theorem Zzh1:∀(l:List KE) (q:Int),Zaf1 q l=true↔(l.Pairwise fun x y=>x.Peer<y.Peer)∧∀k∈l,q<k.Peer∧k.Peer<64∧1≤k.Epoch∧k.Epoch≤65535
 | [],q=>by simp [Zaf1]
 | x::l,q=>by
   simp only [Zaf1,Bool.and_eq_true,decide_eq_true_eq,Zzh1 l x.Peer,List.pairwise_cons,List.mem_cons,forall_eq_or_imp];constructor
   ·rintro ⟨⟨h1,h2,h3,h4⟩,h5,h6⟩;exact ⟨⟨fun y hy=>(h6 y hy).1,h5⟩,⟨h1,h2,h3,h4⟩,fun y hy=>⟨Int.lt_trans h1 (h6 y hy).1,(h6 y hy).2⟩⟩
   ·rintro ⟨⟨h1,h2⟩,⟨h3,h4,h5,h6⟩,h7⟩;exact ⟨⟨h3,h4,h5,h6⟩,h2,fun y hy=>⟨h1 y hy,(h7 y hy).2⟩⟩
structure DrOK (d:DK):Prop where
 din:DinOK d.DI
 t0:0≤d.TH
 t2:d.TH≤2
 up:d.Need.Pairwise (· < ·)
 nz:d.TH=0→d.Need=[]
 has:∀p∈d.Need,∃x∈d.DI.SD,x.Peer=p
theorem Z0i1 (d:DI) (p:Int):Zpe1 d p=true↔∃x∈d.SD,x.Peer=p:=by unfold Zpe1;rw [List.any_eq_true];simp
theorem Z1i1 (d:DK):okDr d=true↔DrOK d:=by
 unfold okDr;simp only [Bool.and_eq_true,decide_eq_true_eq,Zxh1,Zyh1,List.all_eq_true,Z0i1,Bool.not_eq_true',Bool.and_eq_false_iff,decide_eq_false_iff_not];constructor
 ·rintro ⟨h1,h2,h3,h4,h5,h6⟩;refine ⟨h1,h2,h3,h4.1,fun h=>?_,h6⟩;rcases h5 with h5 | h5
  ·exact absurd h h5
  ·exact List.eq_nil_of_length_eq_zero (by omega)
 ·rintro ⟨h1,h2,h3,h4,h5,h6⟩;refine ⟨h1,h2,h3,⟨h4,by simp⟩,?_,h6⟩;by_cases h:d.TH=0
  ·right;rw [h5 h];simp
  ·left;exact h
structure OkN (n:Node):Prop where
 dr:DrOK n.DK
 bk:okBk n.Book=true
 may:∀k∈n.AK,(∀x∈n.DK.DI.SD,x.Peer≠k.Peer)∧0≤k.Peer∧k.Peer<n.DK.DI.ID∧Z5f1 n.KN k.Peer<k.Epoch∧k.Epoch≤65535
 dis:(n.AK.map (·.Peer)).Nodup
 id:n.DK.DI.ID<64
 kup:n.KN.Pairwise fun x y=>x.Peer<y.Peer
 kr:∀k∈n.KN,0≤k.Peer∧k.Peer<64∧1≤k.Epoch∧k.Epoch≤65535
 sd:∀x∈n.DK.DI.SD,x.Peer<64∧1≤x.Epoch∧Z5f1 n.KN x.Peer=x.Epoch∧(x.State=1∨x.State=3→n.DK.DI.ID≤x.Peer)
 told:n.Told.Pairwise (· < ·)
 tin:∀p∈n.Told,∃x∈n.DK.DI.SD,x.State=1∧x.Peer=p
 th:n.DK.TH=2↔Zmf1 n=true
 hq:n.DK.TH=0∨Znf1 n=true
 nl:∀x∈n.DK.DI.SD,x.Peer∈n.DK.Need→x.State≠3
 wt:∀s∈n.Book.Sess,s.State=0→∀p∈s.Need,∃x∈n.DK.DI.SD,x.State=0∧x.Peer=p
theorem Z2i1 (n:Node) (k:KE):mayB n k=true↔(∀x∈n.DK.DI.SD,x.Peer≠k.Peer)∧0≤k.Peer∧k.Peer<n.DK.DI.ID∧Z5f1 n.KN k.Peer<k.Epoch∧k.Epoch≤65535:=by unfold mayB;simp only [Bool.and_eq_true,decide_eq_true_eq,Bool.not_eq_true',List.any_eq_false]
theorem Z3i1 (n:Node) (x:Side):Zef1 n x=true↔x.Peer<64∧1≤x.Epoch∧Z5f1 n.KN x.Peer=x.Epoch∧(x.State=1∨x.State=3→n.DK.DI.ID≤x.Peer):=by
 unfold Zef1;simp only [Bool.and_eq_true,decide_eq_true_eq,Bool.not_eq_true',Bool.and_eq_false_iff,Bool.or_eq_false_iff,decide_eq_false_iff_not];constructor
 ·rintro ⟨h1,h2,h3,h4⟩;exact ⟨h1,h2,h3,fun h=>by omega⟩
 ·rintro ⟨h1,h2,h3,h4⟩;exact ⟨h1,h2,h3,by omega⟩
theorem Z4i1 (n:Node) (q:Side→Bool) (p:Int):p∈Zze1 n q↔∃x∈n.DK.DI.SD,q x=true∧x.Peer=p:=by
 unfold Zze1;simp only [List.mem_map,List.mem_filter];constructor
 ·rintro ⟨x,⟨h1,h2⟩,h3⟩;exact ⟨x,h1,h2,h3⟩
 ·rintro ⟨x,h1,h2,h3⟩;exact ⟨x,⟨h1,h2⟩,h3⟩
theorem Z5i1 (n:Node) (s:Sess):Zof1 n s=true↔(s.State=0→∀p∈s.Need,∃x∈n.DK.DI.SD,x.State=0∧x.Peer=p):=by
 unfold Zof1;simp only [Bool.not_eq_true',Bool.and_eq_false_iff,decide_eq_false_iff_not,Bool.not_eq_false',List.all_eq_true,decide_eq_true_eq,Z4i1,Z1f1];constructor
 ·rintro (h | h)
  ·exact fun e=>absurd e h
  ·exact fun _=>h
 ·intro h;by_cases e:s.State=0
  ·exact .inr (h e)
  ·exact .inl e
theorem Z6i1 (n:Node):okN n=true↔OkN n:=by
 unfold okN Zhf1 Zgf1 Zpf1 Z8f1;simp only [Bool.and_eq_true,Z1i1,List.all_eq_true,Z2i1,decide_eq_true_eq,Zzh1,Z3i1,Zyh1,Z4i1,Z2f1,Z3f1,Bool.or_eq_true,beq_iff_eq,Bool.not_eq_true',List.any_eq_false,Z5i1];constructor
 ·rintro ⟨h1,h2,⟨h3,h4,h5,h6,h7,h8,h9⟩,hc,hd,hf,ho⟩;exact ⟨h1,h2,h3,h4,h5,h6.1,fun k hk=>by have:=h6.2 k hk;omega,h7,h8.1,h9,by rw [←hc];simp,hd,fun x hx hn e=>hf x.Peer hn ⟨x,hx,e,rfl⟩,ho⟩
 ·rintro ⟨h1,h2,h3,h4,h5,h6,h6',h7,h8,h9,hc,hd,hf,ho⟩;refine ⟨h1,h2,⟨h3,h4,h5,⟨h6,fun k hk=>by have:=h6' k hk;omega⟩,h7,⟨h8,by simp⟩,h9⟩,?_,hd,?_,ho⟩
  ·rw [Bool.eq_iff_iff];simpa using hc
  ·rintro p hp ⟨x,hx,e,rfl⟩;exact hf x hx hp e
structure SessOK (top last:Int) (s:Sess):Prop where
 lo:last<s.ID
 hi:s.ID≤top
 nb:Zzb1 s.Need=true
 up:s.Need.Pairwise (· < ·)
 age:0≤s.Age
 st:s.State=1∨s.State=0∧s.Age=0
theorem Z7i1 (top:Int):∀(l:List Sess) (last:Int) (first:Bool),Z1c1 top last first l=true↔(l.Pairwise fun x y=>x.ID<y.ID)∧(∀s∈l,SessOK top last s)∧∀s∈(if first then l.tail else l),s.State=0
 | [],_,_=>by simp [Z1c1]
 | x::l,last,first=>by
   have e:Z0c1 last top first x=true↔SessOK top last x∧(first=false→x.State=0):=by
    unfold Z0c1;simp only [Bool.and_eq_true,decide_eq_true_eq,Bool.or_eq_true];constructor
    ·rintro ⟨h1,h2,h3,h4,h5,h6⟩;refine ⟨⟨h1,h2,h3,h4,h5,?_⟩,fun hf=>?_⟩
     ·rcases h6 with h | h
      ·exact .inl h.1
      ·exact .inr h
     ·rcases h6 with h | h
      ·rw [hf] at h;simp at h
      ·exact h.1
    ·rintro ⟨⟨h1,h2,h3,h4,h5,h6⟩,h7⟩;refine ⟨h1,h2,h3,h4,h5,?_⟩;rcases h6 with h | h
     ·cases first with
      | true=>exact .inl ⟨h,rfl⟩
      | false=>have:=h7 rfl;omega
     ·exact .inr h
   simp only [Z1c1,Bool.and_eq_true,e,Z7i1 top l x.ID false,List.pairwise_cons,List.mem_cons,forall_eq_or_imp];constructor
   ·rintro ⟨⟨h1,h2⟩,h3,h4,h5⟩;have h5:∀s∈l,s.State=0:=h5;refine ⟨⟨fun y hy=>(h4 y hy).lo,h3⟩,⟨h1,fun y hy=>?_⟩,?_⟩
    ·have:=h4 y hy;exact {this with lo:=Int.lt_trans h1.lo this.lo}
    ·cases first with
     | true=>exact h5
     | false=>
       intro s hs;rcases List.mem_cons.1 hs with rfl | hs
       ·exact h2 rfl
       ·exact h5 s hs
   ·rintro ⟨⟨h1,h2⟩,⟨h3,h4⟩,h5⟩;refine ⟨⟨h3,fun hf=>?_⟩,h2,fun y hy=> {h4 y hy with lo:=h1 y hy},?_⟩
    ·subst hf;exact h5 x (by simp)
    ·cases first with
     | true=>exact h5
     | false=>exact fun s hs=>h5 s (List.mem_cons_of_mem _ hs)
structure BkOK (b:Book):Prop where
 last:0≤b.Last
 len:b.Sess.length≤8
 up:b.Sess.Pairwise fun x y=>x.ID<y.ID
 ok:∀s∈b.Sess,SessOK b.Last 0 s
 tl:∀s∈b.Sess.tail,s.State=0
theorem Z8i1 (b:Book):okBk b=true↔BkOK b:=by
 unfold okBk;simp only [Bool.and_eq_true,decide_eq_true_eq,Z7i1];constructor
 ·rintro ⟨h1,h2,h3,h4,h5⟩;exact ⟨h1,h2,h3,h4,h5⟩
 ·rintro ⟨h1,h2,h3,h4,h5⟩;exact ⟨h1,h2,h3,h4,h5⟩
theorem Z9i1 {l:List Int} (h:Zzb1 l=true):l.length≤64:=by unfold Zzb1 at h;rw [Bool.and_eq_true,decide_eq_true_eq] at h;exact h.1
theorem BkOK.few {b:Book} (h:BkOK b):Z2c1 b:=⟨by have:=h.len;omega,fun s hs=>by have:=Z9i1 (h.ok s hs).nb;omega⟩
theorem Zai1 {l:List Int} (h:l.Pairwise (· < ·)) {n:Int} (E:0≤n) (hr:∀x∈l,0≤x∧x<n):(l.length:Int)≤n:=by
 rcases Zpb1 l 0 n h hr with rfl | h
 ·simpa using E
 ·omega
theorem Zbi1 {l:List Int} (h:l.Pairwise (· < ·)) {n id:Int} (hi:0≤id∧id<n) (hr:∀x∈l,0≤x∧x<n∧x≠id):(l.length:Int)<n:=by
 have h1:(l.take (cntB l (fun x=>x) id)++id::l.drop (cntB l (fun x=>x) id)).Pairwise fun x y=>x<y:=Z9g1 (key:=fun x:Int=>x) (p:=id) h rfl fun y hy=>(hr y hy).2.2;have h2:=Zai1 h1 (n:=n) (by omega) fun x hx=>by
  rw [List.mem_append,List.mem_cons] at hx;rcases hx with hx | rfl | hx
  ·have:=hr x (List.mem_of_mem_take hx);omega
  ·omega
  ·have:=hr x (List.mem_of_mem_drop hx);omega
 rw [List.length_append,List.length_cons] at h2;have h3:l.length=(l.take (cntB l (fun x=>x) id)).length+(l.drop (cntB l (fun x=>x) id)).length:=by rw [←List.length_append,List.take_append_drop]
 omega
theorem OkN.peer0 {n:Node} (h:OkN n) {x:Side} (hx:x∈n.DK.DI.SD):0≤x.Peer∧x.Peer<64∧x.Peer≠n.DK.DI.ID:=⟨(h.dr.din.side x hx).lo,(h.sd x hx).1,(h.dr.din.side x hx).ne⟩
theorem OkN.needL {n:Node} (h:OkN n):n.DK.Need.length≤64:=by
 have:=Zai1 h.dr.up (n:=64) (by omega) fun p hp=>by obtain ⟨x,hx,rfl⟩:=h.dr.has p hp;have:=h.peer0 hx;omega
 omega
theorem OkN.toldL {n:Node} (h:OkN n):n.Told.length≤64:=by
 have:=Zai1 h.told (n:=64) (by omega) fun p hp=>by obtain ⟨x,hx,_,rfl⟩:=h.tin p hp;have:=h.peer0 hx;omega
 omega
theorem OkN.knownL {n:Node} (h:OkN n):n.KN.length≤64:=by
 have:=Zai1 (l:=n.KN.map (·.Peer)) (List.pairwise_map.2 h.kup) (n:=64) (by omega) fun p hp=>by obtain ⟨k,hk,rfl⟩:=List.mem_map.1 hp;have:=h.kr k hk;omega
 rw [List.length_map] at this;omega
theorem Zci1 {l:List Int} (h:l.Nodup) {n:Nat} (hr:∀x∈l,0≤x∧x<(n:Int)):l.length≤n:=by
 have hs:=Zob1 l;have h1:∀(a b:List Int),a.Nodup→(∀x∈a,x∈b)→a.length≤b.length:=by
  intro a;induction a with
  | nil=>intro b _ _;simp
  | cons x a ih=>intro b ha hb;rw [List.nodup_cons] at ha;have h6:=hb x (by simp);have:=ih (b.erase x) ha.2 fun y hy=>(List.mem_erase_of_ne (fun e=>ha.1 (by rw [←e];exact hy))).2 (hb y (List.mem_cons_of_mem _ hy));rw [List.length_erase_of_mem h6] at this;have:=List.length_pos_of_mem h6;simp only [List.length_cons];omega
 have h2:=h1 l (setL l) h fun x hx=>(hs.2 x).2 hx;have h3:=Zai1 hs.1 (n:=n) (by omega) fun x hx=>hr x ((hs.2 x).1 hx);omega
theorem OkN.askedL {n:Node} (h:OkN n):n.AK.length≤64:=by
 have:=Zci1 h.dis (n:=64) fun p hp=>by obtain ⟨k,hk,rfl⟩:=List.mem_map.1 hp;have:=h.may k hk;have:=h.id;omega
 rw [List.length_map] at this;exact this
theorem OkN.few {n:Node} (h:OkN n):FewN n:=by have h1:=h.needL;have h2:=h.toldL;have h3:=h.knownL;have h4:=h.askedL;have h5:=h.dr.din.len;have h6:=(Z8i1 _).1 h.bk;have h7:=h6.len;exact ⟨by omega,by omega,by omega,fun s hs=>by have:=Z9i1 (h6.ok s hs).nb;omega,by omega,by omega,by omega⟩
theorem OkN.rowS {n:Node} (h:OkN n):RowS n.DK.DI.SD:=⟨by have:=h.dr.din.len;omega,h.dr.din.up,fun x hx=>by have:=h.peer0 hx;omega⟩
theorem OkN.rowK {n:Node} (h:OkN n):RowK n.KN:=⟨by have:=h.knownL;omega,h.kup,fun k hk=>by have:=h.kr k hk;omega⟩
theorem Zdi1 {K:List KE} (hu:K.Pairwise fun x y=>x.Peer<y.Peer) (h:∀k∈K,1≤k.Epoch∧k.Epoch≤65535) (p:Int):0≤Z5f1 K p∧Z5f1 K p≤65535:=by
 by_cases hx:∃k∈K,k.Peer=p
 ·obtain ⟨k,hk,rfl⟩:=hx;rw [Zhg1 hu hk];have:=h k hk;omega
 ·rw [Zig1 fun k hk e=>hx ⟨k,hk,e⟩];omega
theorem Zei1 {S:List Side} (h:S.Pairwise fun x y=>x.Peer<y.Peer) {x y:Side} (hx:x∈S) (hy:y∈S) (e:x.Peer=y.Peer):x=y:=by
 induction S with
 | nil=>simp at hx
 | cons z S ih=>
   rw [List.pairwise_cons] at h;rcases List.mem_cons.1 hx with hx1 | hx1<;>rcases List.mem_cons.1 hy with hy1 | hy1
   ·rw [hx1,hy1]
   ·have:=h.1 y hy1;rw [←hx1] at this;omega
   ·have:=h.1 x hx1;rw [←hy1] at this;omega
   ·exact ih h.2 hx1 hy1
def putN (n:Node) (x:Side) (A:List KE):Node:=⟨⟨⟨n.DK.DI.ID,n.DK.DI.PH,putS n.DK.DI.SD x⟩,n.DK.TH,n.DK.Need⟩,n.Book,Zyf1 n.KN x.Peer x.Epoch,n.Told,A⟩
theorem OkN.put {n:Node} (h:OkN n) {x:Side} {A:List KE} (hp:0≤x.Peer∧x.Peer<64∧x.Peer≠n.DK.DI.ID) (E:∀y∈n.DK.DI.SD,y.Peer≠x.Peer) (he:1≤x.Epoch∧x.Epoch≤65535)
  (hs:x.State=0∨x.State=1∧n.DK.DI.ID≤x.Peer) (U:x.DY=true→x.Fork=true) (J:∀k∈A,k∈n.AK∧k.Peer≠x.Peer) (hc:(A.map (·.Peer)).Nodup):OkN (putN n x A):=by
 have h8:=h.id;have h6:=h.dr.din;have h9:(putS n.DK.DI.SD x).Pairwise fun x y=>x.Peer<y.Peer:=Z9g1 h.rowS.up rfl E;refine ⟨⟨⟨h6.id0,h6.p0,h6.p2,?_,h9,fun y hy=>?_⟩,h.dr.t0,h.dr.t2,h.dr.up,h.dr.nz,fun p hp=>?_⟩,h.bk,fun k hk=>?_,hc,h8,Zfg1 h.kup _ _,fun k hk=>?_,fun y hy=>?_,h.told,fun p hp=>?_,h.th,h.hq,fun y hy hf=>?_,fun s hs' h0 p hp=>?_⟩
 ·have:=Zbi1 (l:=(putS n.DK.DI.SD x).map (·.Peer)) (List.pairwise_map.2 h9) (n:=64) (id:=n.DK.DI.ID) ⟨h6.id0,h8⟩ fun p hp'=>by
   obtain ⟨y,hy,rfl⟩:=List.mem_map.1 hp';rcases Zag1.1 hy with rfl | hy
   ·exact hp
   ·exact h.peer0 hy
  rw [List.length_map] at this;show (putS n.DK.DI.SD x).length<64;omega
 ·rcases Zag1.1 hy with rfl | hy
  ·exact ⟨hp.1,hp.2.2,by omega,he.2,by omega,by omega,U⟩
  ·exact h6.side y hy
 ·obtain ⟨y,hy,e⟩:=h.dr.has p hp;exact ⟨y,Zag1.2 (.inr hy),e⟩
 ·obtain ⟨hk,hne⟩:=J k hk;have hm:=h.may k hk;refine ⟨fun y hy=>?_,hm.2.1,hm.2.2.1,?_,hm.2.2.2.2⟩
  ·rcases Zag1.1 hy with rfl | hy
   ·exact fun e=>hne e.symm
   ·exact hm.1 y hy
  ·show Z5f1 (Zyf1 n.KN x.Peer x.Epoch) k.Peer<k.Epoch;rw [Zjg1 h.kup,if_neg hne];exact hm.2.2.2.1
 ·rcases Zdg1 h.kup hk with rfl | ⟨hk,_⟩
  ·exact ⟨hp.1,hp.2.1,he⟩
  ·exact h.kr k hk
 ·show y.Peer<64∧1≤y.Epoch∧Z5f1 (Zyf1 n.KN x.Peer x.Epoch) y.Peer=y.Epoch∧(y.State=1∨y.State=3→n.DK.DI.ID≤y.Peer)
  rw [Zjg1 h.kup];rcases Zag1.1 hy with rfl | hy
  ·exact ⟨hp.2.1,he.1,if_pos rfl,fun _=>by omega⟩
  ·rw [if_neg (E y hy)];exact h.sd y hy
 ·obtain ⟨y,hy,e⟩:=h.tin p hp;exact ⟨y,Zag1.2 (.inr hy),e⟩
 ·rcases Zag1.1 hy with rfl | hy
  ·omega
  ·exact h.nl y hy hf
 ·obtain ⟨y,hy,e⟩:=h.wt s hs' h0 p hp;exact ⟨y,Zag1.2 (.inr hy),e⟩
theorem OkN.ans1:∀(A:List KE) (n:Node),OkN n→n.AK=A→OkN ⟨⟨⟨n.DK.DI.ID,n.DK.DI.PH,ansS n.DK.DI.SD A⟩,n.DK.TH,n.DK.Need⟩,n.Book,ansK n.KN A,n.Told,[]⟩
 | [],n,h,e=>by obtain ⟨d,b,k,t,a⟩:=n;dsimp only at e;subst e;exact h
 | k::A,n,h,e=>by have hm:=h.may k (by rw [e];simp);have hd:=h.dis;rw [e,List.map_cons,List.nodup_cons] at hd;have h6:=h.id;have h0:=Zdi1 h.kup (fun k hk=>(h.kr k hk).2.2) k.Peer;have h1:OkN (putN n (newS k) A):=h.put (x:=newS k) ⟨hm.2.1,by show k.Peer<64;omega,by show k.Peer≠_;omega⟩ hm.1 ⟨by show 1≤k.Epoch;omega,hm.2.2.2.2⟩ (.inl rfl) (by simp [newS]) (fun q hq=>⟨by rw [e];simp [hq],fun eq=>hd.1 (List.mem_map.2 ⟨q,hq,eq⟩)⟩) hd.2;exact OkN.ans1 A (putN n (newS k) A) h1 rfl
theorem OkN.ans {n:Node} (h:OkN n):OkN (ansN n):=by
 unfold ansN;split
 ·exact h
 ·exact OkN.ans1 n.AK n h rfl
theorem Zfi1 {n:Node} (h:BkOK n.Book) {s:Sess} {l:List Sess} (hb:n.Book.Sess=s::l):s.State=1∨s.State=0:=by have:=(h.ok s (by rw [hb];simp)).st;omega
theorem Zgi1 {n:Node} {s:Sess} (h:Zbh1 n=some s):∃l,n.Book.Sess=s::l∧s.State=0:=by
 unfold Zbh1 at h;split at h
 ·simp at h
 ·rename_i s' l hb;split at h
  ·simp at h;subst h;exact ⟨l,hb,by assumption⟩
  ·simp at h
theorem OkN.thi {n:Node} (h:OkN n):OkN (thiN n):=by
 unfold thiN thiD;cases hw:Zbh1 n with
 | none=>exact h
 | some s=>
   dsimp only;split
   ·rename_i h0;obtain ⟨l,hb,hs⟩:=Zgi1 hw;have h6:=(Z8i1 _).1 h.bk;have hm:s∈n.Book.Sess:=by rw [hb];simp
    have hok:=h6.ok s hm;have hl:=h.wt s hm hs;refine {h with dr:=⟨h.dr.din,by show (0:Int)≤1;omega,by show (1:Int)≤2;omega,hok.up,fun e=>by simp at e,fun p hp=>?_⟩,th:=?_,hq:=.inr ?_,nl:=fun x hx hn e3=>?_}
    ·obtain ⟨x,hx,_,e⟩:=hl p hp;exact ⟨x,hx,e⟩
    ·have:Zmf1 n=false:=by unfold Zmf1;rw [hb];simp [hs]
     show (1:Int)=2↔Zmf1 n=true;rw [this];simp
    ·show (match n.Book.Sess with | []=>false | s'::_=>decide (s'.Need=s.Need))=true;rw [hb];simp
    ·obtain ⟨y,hy,h8,e⟩:=hl x.Peer hn;have:=Zei1 h.rowS.up hx hy e.symm;subst this;omega
   ·exact h
theorem Zhi1 {n:Node} (h:OkN n):0≤hunP n∧hunP n≤2:=by have h0:=h.dr.din.p0;have h2:=h.dr.din.p2;unfold hunP;split<;>omega
theorem OkN.hun {n:Node} (h:OkN n):OkN (hunN n):=by have hp:=Zhi1 h;exact {h with dr:= {h.dr with din:= {h.dr.din with p0:=hp.1,p2:=hp.2}}}
theorem OkN.pre {n:Node} (h:OkN n):OkN (preN n):=h.ans.thi.hun
theorem OkN.go {n:Node} (h:OkN n):GoN n:=by have h1:=h.dr.din.len;have h2:=h.askedL;have h3:=h.knownL;have h4:=(Z8i1 _).1 h.bk;have h5:=h.toldL;have h6:=h.needL;have h8:=h.id;exact ⟨h.rowS,h.rowK,⟨fun k hk=>by have:=h.may k hk;omega,fun k hk=>(h.may k hk).1,h.dis⟩,by omega,by omega,(Z1i1 _).2 h.pre.dr,h4.few,h.bk,by omega,by omega,fun s hs=>by have:=Z9i1 (h4.ok s hs).nb;omega⟩
def Zii1 (x:Side):Int×Int×Int:=(x.Peer,x.Epoch,x.State)
def Zji1 (d:DK) (x:Side):Side:=bot2 (Zjd1 d x) d.TH (Zcd1 (Zsd1 d) x)
theorem Zki1 (d:DK):(Zvd1 d).DI.SD=d.DI.SD.map (Zji1 d):=by show Ztd1 d=_;unfold Ztd1;rw [Zdd1,List.map_map];refine List.map_congr_left fun x _=>?_;show bot2 (Zjd1 d (Zcd1 (Zsd1 d) x)) d.TH _=bot2 (Zjd1 d x) d.TH _;rw [show Zjd1 d (Zcd1 (Zsd1 d) x)=Zjd1 d x by unfold Zjd1;rw [(Zfd1 (Zsd1 d) x).1]]
theorem Zli1 (d:DK) (x:Side):Zii1 (Zji1 d x)=Zii1 x:=by obtain ⟨p1,p2,p3,_⟩:=Zld1 (Zjd1 d x) d.TH (Zcd1 (Zsd1 d) x);obtain ⟨q1,q2,q3,_⟩:=Zfd1 (Zsd1 d) x;unfold Zii1 Zji1;rw [p1,p2,p3,q1,q2,q3]
theorem Zmi1 (d:DK):Zud1 d=d.TH∨d.TH=1∧Zud1 d=2∧∀x∈(Zvd1 d).DI.SD,x.Peer∈d.Need→x.BO=true:=by
 unfold Zud1;cases hh:decide (d.TH=1)&&(Ztd1 d).all (fun x=>!Zjd1 d x||x.BO) with
 | false=>left;rfl
 | true=>right;rw [Bool.and_eq_true,decide_eq_true_eq,List.all_eq_true] at hh;refine ⟨hh.1,rfl,fun x hx hn=>?_⟩;have:=hh.2 x hx;unfold Zjd1 at this;simpa [hn] using this
structure FireR (a b:DK):Prop where
 id:b.DI.ID=a.DI.ID
 need:b.Need=a.Need
 core:b.DI.SD.map Zii1=a.DI.SD.map Zii1
 th:b.TH=a.TH∨a.TH=1∧b.TH=2
theorem FireR.refl (a:DK):FireR a a:=⟨rfl,rfl,rfl,.inl rfl⟩
theorem FireR.once {a b:DK} (h:FireR a b):FireR a (Zvd1 b):=by
 refine ⟨h.id,h.need,?_,?_⟩
 ·rw [Zki1,List.map_map,←h.core];exact List.map_congr_left fun x _=>Zli1 b x
 ·show Zud1 b=a.TH∨a.TH=1∧Zud1 b=2;have:=h.th;rcases Zmi1 b with e | ⟨e1,e2,_⟩
  ·rw [e];exact this
  ·omega
theorem Zni1 {P:DK→Prop} (hs:∀d,P d→P (Zvd1 d)):∀(n:Nat) (d:DK) (out:List Mail),P d→P (Zge1 n d out).1
 | 0,_,_,h=>h
 | n+1,d,out,h=>by
   unfold Zge1;split
   ·exact h
   ·exact Zni1 hs n _ _ (hs d h)
theorem Zoi1 (d:DK):FireR d (Zhe1 d).1:=Zni1 (P:=FireR d) (fun _ h=>h.once) 300 d [] (FireR.refl d)
theorem Zpi1 {S S':List Side} (h:S'.map Zii1=S.map Zii1) {x:Side} (hx:x∈S'):∃y∈S,y.Peer=x.Peer∧y.Epoch=x.Epoch∧y.State=x.State:=by
 have:Zii1 x∈S.map Zii1:=by rw [←h];exact List.mem_map_of_mem hx
 obtain ⟨y,hy,e⟩:=List.mem_map.1 this;unfold Zii1 at e;simp only [Prod.mk.injEq] at e;exact ⟨y,hy,e⟩
theorem Zqi1 {S S':List Side} (h:S'.map Zii1=S.map Zii1):S'.map (·.Peer)=S.map (·.Peer):=by have:=congrArg (List.map fun c:Int×Int×Int=>c.1) h;rw [List.map_map,List.map_map] at this;exact this
theorem Zri1:∀(n:Nat) (d:DK) (out:List Mail),okD d.DI=true→mu d<n→Zvd1 (Zge1 n d out).1=(Zge1 n d out).1
 | 0,_,_,_,h=>by omega
 | n+1,d,out,hk,h=>by
   have hp:=Zne1 hk;unfold Zge1;by_cases hq:Zvd1 d=d
   ·rw [if_pos hq];exact hq
   ·rw [if_neg hq];rcases Zae1 hp.1 hp.2 with h1 | h1
    ·exact absurd h1.1 hq
    ·exact Zri1 n (Zvd1 d) _ (Zfe1 hk) (by omega)
theorem Zsi1 {d:DK} (h:okD d.DI=true):Zvd1 (Zhe1 d).1=(Zhe1 d).1:=Zri1 300 d [] h (by have:=Zme1 h;omega)
theorem Zti1 {d:DK} (h:Zvd1 d=d):Zhe1 d=(d,[]):=by unfold Zhe1 Zge1;rw [if_pos h]
theorem DrOK.once {d:DK} (h:DrOK d):DrOK (Zvd1 d):=by have hk:=(Zxh1 _).1 (Zfe1 ((Zxh1 _).2 h.din));have hr:=(FireR.refl d).once;have ht:=hr.th;have h0:=h.t0;have h2:=h.t2;refine ⟨hk,by omega,by omega,h.up,fun e=>h.nz (by omega),fun p hp=>?_⟩;obtain ⟨x,hx,e⟩:=h.has p hp;obtain ⟨y,hy,e1,_⟩:=Zpi1 hr.core.symm hx;exact ⟨y,hy,by omega⟩
theorem DrOK.fire {d:DK} (h:DrOK d):DrOK (Zhe1 d).1:=Zni1 (P:=DrOK) (fun _ h=>h.once) 300 d [] h
def busy (d:DK):Prop:=d.DI.PH≠0∧∃x∈d.DI.SD,x.State=1
theorem Zui1 {d:DK} (h:busy d):busy (Zvd1 d):=by
 obtain ⟨h0,x,hx,h1⟩:=h;refine ⟨?_,?_⟩
 ·show (Z6d1 (Zsd1 d)).PH≠0;have hp:Zrd1 d≠0:=by unfold Zrd1;have:d.DI.SD.any (fun x=>decide (x.State=1))=true:=List.any_eq_true.2 ⟨x,hx,by simpa using h1⟩;rw [this,DN h0];simp [h0]
  rcases Z5e1 (Zsd1 d) with ⟨e,_⟩ | ⟨_,e⟩
  ·rw [e];exact hp
  ·rw [e];omega
 ·obtain ⟨y,hy,_,_,e⟩:=Zpi1 ((FireR.refl d).once).core.symm hx;exact ⟨y,hy,by omega⟩
theorem Zvi1 {d:DK} (h:busy d):busy (Zhe1 d).1:=Zni1 (P:=busy) (fun _ h=>Zui1 h) 300 d [] h
def eats (d:DK):Prop:=d.DI.PH=2∧∃x∈d.DI.SD,x.State=1
theorem Zwi1 {d:DK} (h:eats d):eats (Zvd1 d):=by
 obtain ⟨h0,x,hx,h1⟩:=h;refine ⟨?_,?_⟩
 ·show (Z6d1 (Zsd1 d)).PH=2;have hp:Zrd1 d=2:=by unfold Zrd1;have:d.DI.SD.any (fun x=>decide (x.State=1))=true:=List.any_eq_true.2 ⟨x,hx,by simpa using h1⟩;rw [this,h0];simp
  rcases Z5e1 (Zsd1 d) with ⟨e,_⟩ | ⟨_,e⟩
  ·rw [e];exact hp
  ·exact e
 ·obtain ⟨y,hy,_,_,e⟩:=Zpi1 ((FireR.refl d).once).core.symm hx;exact ⟨y,hy,by omega⟩
theorem Zxi1 {d:DK} (h:eats d):eats (Zhe1 d).1:=Zni1 (P:=eats) (fun _ h=>Zwi1 h) 300 d [] h
theorem Zyi1 (n:Node):graB n=n.Book∧graV n=[]∨∃s l,n.Book.Sess=s::l∧s.State=0∧n.DK.TH=2∧graB n=⟨n.Book.Last,⟨s.ID,s.Need,1,s.Age⟩::l⟩∧graV n=[⟨1,n.DK.DI.ID,s.ID,0,[]⟩]:=by
 unfold graB graV Zbh1;cases hb:n.Book.Sess with
 | nil=>left;exact ⟨rfl,rfl⟩
 | cons s l=>
   dsimp only;by_cases h0:s.State=0
   ·rw [if_pos h0,if_pos h0];by_cases h2:n.DK.TH=2
    ·right;rw [if_pos h2];dsimp only;rw [if_pos h2];exact ⟨s,l,rfl,h0,h2,rfl,rfl⟩
    ·left;rw [if_neg h2];dsimp only;rw [if_neg h2];exact ⟨rfl,rfl⟩
   ·left;rw [if_neg h0,if_neg h0];exact ⟨rfl,rfl⟩
theorem BkOK.grant {b:Book} (h:BkOK b) {s:Sess} {l:List Sess} (e:b.Sess=s::l):BkOK ⟨b.Last,⟨s.ID,s.Need,1,s.Age⟩::l⟩:=by
 have h1:=h.up;have h2:=h.len;have h3:=h.tl;rw [e] at h1 h2 h3;have hs:=h.ok s (by rw [e];simp);refine ⟨h.last,h2,?_,fun t ht=>?_,h3⟩
 ·rw [List.pairwise_cons] at h1 ⊢;exact h1
 ·rcases List.mem_cons.1 ht with rfl | ht
  ·exact {hs with st:=.inl rfl}
  ·exact h.ok t (by rw [e];exact List.mem_cons_of_mem _ ht)
theorem Zzi1 (n:Node):Znf1 n=true↔∃s l,n.Book.Sess=s::l∧s.Need=n.DK.Need:=by
 unfold Znf1;split
 ·rename_i h;simp [h]
 ·rename_i s l h;rw [decide_eq_true_eq];constructor
  ·exact fun e=>⟨s,l,h,e⟩
  ·rintro ⟨s',l',h',e⟩;rw [h] at h';simp only [List.cons.injEq] at h';rw [h'.1];exact e
theorem Z0j1 (n:Node):Zmf1 n=true↔∃s l,n.Book.Sess=s::l∧s.State=1:=by
 unfold Zmf1;split
 ·rename_i h;simp [h]
 ·rename_i s l h;rw [decide_eq_true_eq];constructor
  ·exact fun e=>⟨s,l,h,e⟩
  ·rintro ⟨s',l',h',e⟩;rw [h] at h';simp only [List.cons.injEq] at h';rw [h'.1];exact e
theorem OkN.thirsty {n:Node} (h:OkN n) (h1:n.DK.TH=1):∃s l,n.Book.Sess=s::l∧s.State=0∧s.Need=n.DK.Need:=by
 have hq:=h.hq;have h6:=(Z8i1 _).1 h.bk;obtain ⟨s,l,hb,hn⟩:=(Zzi1 n).1 (by rcases hq with hq | hq;omega;exact hq);refine ⟨s,l,hb,?_,hn⟩;rcases Zfi1 h6 hb with e | e
 ·have:=h.th.2 ((Z0j1 n).2 ⟨s,l,hb,e⟩);omega
 ·exact e
theorem OkN.drinks {n:Node} (h:OkN n) (h1:n.DK.TH=2):∃s l,n.Book.Sess=s::l∧s.State=1∧s.Need=n.DK.Need:=by have hq:=h.hq;obtain ⟨s,l,hb,hn⟩:=(Zzi1 n).1 (by rcases hq with hq | hq;omega;exact hq);obtain ⟨s',l',hb',hs⟩:=(Z0j1 n).1 (h.th.1 h1);rw [hb] at hb';simp only [List.cons.injEq] at hb';exact ⟨s,l,hb,by rw [hb'.1];exact hs,hn⟩
theorem OkN.nowait {n:Node} (h:OkN n) (h1:n.DK.TH=2):Zbh1 n=none:=by obtain ⟨s,l,hb,hs,_⟩:=h.drinks h1;unfold Zbh1;rw [hb];dsimp only;rw [if_neg (by omega)]
theorem OkN.firgra {m:Node} (h:OkN m):OkN (graN (firN m)):=by
 have hR:=Zoi1 m.DK;have h9:=(Z8i1 _).1 h.bk;have hc:=h.dr.fire;have h8:(graN (firN m)).DK.DI.ID=m.DK.DI.ID:=hR.id;have side:∀ {x:Side},x∈(graN (firN m)).DK.DI.SD→∃y∈m.DK.DI.SD,y.Peer=x.Peer∧y.Epoch=x.Epoch∧y.State=x.State:=fun hx=>Zpi1 hR.core hx;have edis:∀ {x:Side},x∈m.DK.DI.SD→∃y∈(graN (firN m)).DK.DI.SD,y.Peer=x.Peer∧y.Epoch=x.Epoch∧y.State=x.State:=fun hx=>Zpi1 hR.core.symm hx;have hg:=Zyi1 (firN m);have hb':(graN (firN m)).Book=graB (firN m):=rfl;have ht':(graN (firN m)).DK.TH=(Zhe1 m.DK).1.TH:=rfl;have hd:=hR.th;refine ⟨hc,?_,fun k hk=>?_,h.dis,by rw [h8];exact h.id,h.kup,h.kr,fun x hx=>?_,h.told,fun p hp=>?_,?_,?_,fun x hx hn=>?_,fun s hs h0 p hp=>?_⟩
 ·rw [hb',Z8i1];rcases hg with ⟨e,_⟩ | ⟨s,l,e1,_,_,e2,_⟩
  ·rw [e];exact h9
  ·rw [e2];exact h9.grant e1
 ·have hm:=h.may k hk;rw [h8];exact ⟨fun x hx=>by obtain ⟨y,hy,e,_⟩:=side hx;rw [←e];exact hm.1 y hy,hm.2⟩
 ·obtain ⟨y,hy,e1,e2,e3⟩:=side hx;have:=h.sd y hy;rw [h8,←e1,←e2,←e3];exact this
 ·obtain ⟨x,hx,h1,e⟩:=h.tin p hp;obtain ⟨y,hy,e1,_,e3⟩:=edis hx;exact ⟨y,hy,by omega,by omega⟩
 ·rw [Z0j1,hb',ht'];constructor
  ·intro h2;rcases hg with ⟨e,_⟩ | ⟨s,l,e1,_,_,e2,_⟩
   ·rw [e];rcases hd with q | ⟨q1,_⟩
    ·exact (Z0j1 m).1 (h.th.1 (by omega))
    ·exfalso;obtain ⟨s,l,hb,hs,_⟩:=h.thirsty q1;have:graB (firN m)=⟨m.Book.Last,⟨s.ID,s.Need,1,s.Age⟩::l⟩:=by unfold graB;rw [show (firN m).Book.Sess=s::l from hb];dsimp only;rw [if_pos hs,if_pos (show (firN m).DK.TH=2 from h2)];rfl
     rw [this] at e;have e:=congrArg Book.Sess e;rw [show (firN m).Book.Sess=s::l from hb] at e;simp only [List.cons.injEq] at e;have:=congrArg Sess.State e.1;simp only at this;omega
   ·rw [e2];exact ⟨_,l,rfl,rfl⟩
  ·rintro ⟨s',l',e',hs'⟩;rcases hg with ⟨e,_⟩ | ⟨s,l,e1,_,e3,_,_⟩
   ·rw [e] at e';have:=h.th.2 ((Z0j1 m).2 ⟨s',l',e',hs'⟩);omega
   ·exact e3
 ·rw [ht'];rcases h.hq with q | q
  ·left;omega
  ·right;obtain ⟨s,l,hb,hn⟩:=(Zzi1 m).1 q;rw [Zzi1,hb'];have h6:(graN (firN m)).DK.Need=m.DK.Need:=hR.need;rw [h6];rcases hg with ⟨e,_⟩ | ⟨s',l',e1,_,_,e2,_⟩
   ·rw [e];exact ⟨s,l,hb,hn⟩
   ·rw [e2];have e1:m.Book.Sess=s'::l':=e1;rw [hb] at e1;simp only [List.cons.injEq] at e1;exact ⟨_,l',rfl,by rw [←hn,e1.1]⟩
 ·have h6:(graN (firN m)).DK.Need=m.DK.Need:=hR.need;rw [h6] at hn;obtain ⟨y,hy,e1,_,e3⟩:=side hx;rw [←e3];rw [←e1] at hn;exact h.nl y hy hn
 ·rw [hb'] at hs;have hs':s∈m.Book.Sess:=by
   rcases hg with ⟨e,_⟩ | ⟨s',l',e1,_,_,e2,_⟩
   ·rw [e] at hs;exact hs
   ·rw [e2] at hs;rcases List.mem_cons.1 hs with rfl | hs
    ·exact absurd h0 (by show ¬(1:Int)=0;omega)
    ·have e1:m.Book.Sess=s'::l':=e1;rw [e1];exact List.mem_cons_of_mem _ hs
  obtain ⟨x,hx,e0,e⟩:=h.wt s hs' h0 p hp;obtain ⟨y,hy,e1,_,e3⟩:=edis hx;exact ⟨y,hy,by omega,by omega⟩
theorem Z1j1 (id:Int):∀(S:List Side) (T:List Int) (E:List Mail) (p:Int),p∈(Zsg1 id S T E).1↔p∈T∨∃x∈S,x.State=1∧x.Peer=p
 | [],T,E,p=>by simp [Zsg1]
 | x::S,T,E,p=>by
   have hs:=(Zob1 (T++[x.Peer])).2;unfold Zsg1;cases hu:untB T x with
   | true=>
     rw [if_pos rfl,Z1j1 id S];unfold untB Z2f1 at hu;rw [Bool.and_eq_true,decide_eq_true_eq] at hu;rw [hs,List.mem_append,List.mem_singleton];constructor
     ·rintro ((h | h) | ⟨y,hy,h⟩)
      ·exact .inl h
      ·exact .inr ⟨x,by simp,hu.1,h.symm⟩
      ·exact .inr ⟨y,List.mem_cons_of_mem _ hy,h⟩
     ·rintro (h | ⟨y,hy,h⟩)
      ·exact .inl (.inl h)
      ·rcases List.mem_cons.1 hy with rfl | hy
       ·exact .inl (.inr h.2.symm)
       ·exact .inr ⟨y,hy,h⟩
   | false=>
     rw [if_neg (by simp),Z1j1 id S];unfold untB Z2f1 at hu;rw [Bool.and_eq_false_iff,decide_eq_false_iff_not,Bool.not_eq_false',decide_eq_true_eq] at hu;constructor
     ·rintro (h | ⟨y,hy,h⟩)
      ·exact .inl h
      ·exact .inr ⟨y,List.mem_cons_of_mem _ hy,h⟩
     ·rintro (h | ⟨y,hy,h⟩)
      ·exact .inl h
      ·rcases List.mem_cons.1 hy with rfl | hy
       ·rcases hu with hu | hu
        ·exact absurd h.1 hu
        ·rw [h.2] at hu;exact .inl hu
       ·exact .inr ⟨y,hy,h⟩
theorem Z2j1 (id:Int):∀(S:List Side) (T:List Int) (E:List Mail),T.Pairwise (· < ·)→(Zsg1 id S T E).1.Pairwise (· < ·)
 | [],T,E,h=>h
 | x::S,T,E,h=>by
   unfold Zsg1;split
   ·exact Z2j1 id S _ _ (Zob1 _).1
   ·exact Z2j1 id S _ _ h
theorem Z3j1 (id:Int):∀(S:List Side) (T:List Int) (E:List Mail),(∀x∈S,untB T x=false)→Zsg1 id S T E=(T,E)
 | [],T,E,_=>rfl
 | x::S,T,E,h=>by unfold Zsg1;rw [h x (by simp),if_neg (by simp)];exact Z3j1 id S T E fun y hy=>h y (List.mem_cons_of_mem _ hy)
theorem Z4j1 (n:Node) (p:Int):p∈(telT n).1↔p∈n.Told∨n.DK.DI.PH=2∧∃x∈n.DK.DI.SD,x.State=1∧x.Peer=p:=by
 unfold telT;split
 ·rename_i h;rw [Z1j1];simp [h]
 ·rename_i h;simp [h]
theorem OkN.tel {m:Node} (h:OkN m):OkN (telN m):=by
 refine {h with told:=?_,tin:=fun p hp=>?_}
 ·show (telT m).1.Pairwise _;unfold telT;split
  ·exact Z2j1 _ _ _ _ h.told
  ·exact h.told
 ·rcases (Z4j1 m p).1 hp with hp | ⟨_,hp⟩
  ·exact h.tin p hp
  ·exact hp
theorem Z5j1 {id th:Int} {N:List Int} {S:List Side} {x:Side} (h:x∈Zzg1 id th N S):∃y∈S,(x=y∧Zwg1 th N y=false)∨(Zwg1 th N y=true∧id<y.Peer∧x={y with State:=3}):=by
 obtain ⟨y,hy,e⟩:=List.mem_filterMap.1 h;refine ⟨y,hy,?_⟩;unfold Zxg1 at e;cases hg:Zwg1 th N y with
 | false=>rw [hg,if_neg (by simp)] at e;simp at e;exact .inl ⟨e.symm,rfl⟩
 | true=>
   rw [hg,if_pos rfl] at e;split at e
   ·simp at e;exact .inr ⟨rfl,by assumption,e.symm⟩
   ·simp at e
theorem Z6j1 {id th:Int} {N:List Int} {S:List Side} {y:Side} (h:y∈S) (hg:Zwg1 th N y=false):y∈Zzg1 id th N S:=List.mem_filterMap.2 ⟨y,h,by unfold Zxg1;rw [hg,if_neg (by simp)]⟩
theorem Z7j1 {th:Int} {N:List Int} {x:Side} (h:Zwg1 th N x=true):x.State=2:=by unfold Zwg1 at h;rw [Bool.and_eq_true,decide_eq_true_eq] at h;exact h.1
theorem Z8j1 {th:Int} {N:List Int} {x:Side} (h:x.State≠2):Zwg1 th N x=false:=by unfold Zwg1;rw [DN h];rfl
theorem OkN.needed {m:Node} (h:OkN m) {x:Side} (hx:x∈m.DK.DI.SD) (E:x.Peer∈m.DK.Need):Zwg1 m.DK.TH m.DK.Need x=false:=by
 cases hg:Zwg1 m.DK.TH m.DK.Need x with
 | false=>rfl
 | true=>
   exfalso;have h2:=Z7j1 hg;unfold Zwg1 at hg;rw [DT h2,DT E] at hg;simp at hg;have h0:=h.dr.t0;have ht:=h.dr.t2;have hz:m.DK.TH≠0:=fun e=>by rw [h.dr.nz e] at E;simp at E
   obtain ⟨s,l,hb,hs,e⟩:=h.thirsty (by omega);obtain ⟨y,hy,h6,ey⟩:=h.wt s (by rw [hb];simp) hs x.Peer (by rw [e];exact E);have:=Zei1 h.rowS.up hx hy ey.symm;subst this;omega
theorem OkN.lea {m:Node} (h:OkN m):OkN (leaN m):=by
 have h8:∀ {x:Side},x∈(leaN m).DK.DI.SD→∃y∈m.DK.DI.SD,(x=y∧Zwg1 m.DK.TH m.DK.Need y=false)∨(Zwg1 m.DK.TH m.DK.Need y=true∧m.DK.DI.ID<y.Peer∧x={y with State:=3}):=fun hx=>Z5j1 hx;have hc:∀ {x:Side},x∈(leaN m).DK.DI.SD→∃y∈m.DK.DI.SD,x.Peer=y.Peer:=fun hx=>by
  obtain ⟨y,hy,(⟨rfl,_⟩ | ⟨_,_,rfl⟩)⟩:=h8 hx
  ·exact ⟨_,hy,rfl⟩
  ·exact ⟨y,hy,rfl⟩
 have h9:∀ {y:Side},y∈m.DK.DI.SD→Zwg1 m.DK.TH m.DK.Need y=false→y∈(leaN m).DK.DI.SD:=fun hy hg=>Z6j1 hy hg;have h6:=h.dr.din;refine ⟨⟨⟨h6.id0,h6.p0,h6.p2,?_,?_,fun x hx=>?_⟩,h.dr.t0,h.dr.t2,h.dr.up,h.dr.nz,fun p hp=>?_⟩,h.bk,fun k hk=>⟨fun x hx=>?_,(h.may k hk).2⟩,h.dis,h.id,h.kup,h.kr,fun x hx=>?_,h.told,fun p hp=>?_,h.th,h.hq,fun x hx hn=>?_,fun s hs h0 p hp=>?_⟩
 ·have:=Z6h1 m.DK.DI.ID m.DK.TH m.DK.Need m.DK.DI.SD;have:=h6.len;show (Zzg1 _ _ _ _).length<64;omega
 ·show (Zzg1 _ _ _ _).Pairwise _;unfold Zzg1;rw [List.pairwise_filterMap];refine h6.up.imp fun {a b} hd y hy z hz=>?_;have e:∀ {a y:Side},Zxg1 m.DK.DI.ID m.DK.TH m.DK.Need a=some y→y.Peer=a.Peer:=by
   intro a y hy;unfold Zxg1 at hy;split at hy
   ·split at hy
    ·simp at hy;subst hy;rfl
    ·simp at hy
   ·simp at hy;subst hy;rfl
  rw [e hy,e hz];exact hd
 ·obtain ⟨y,hy,(⟨rfl,_⟩ | ⟨_,_,rfl⟩)⟩:=h8 hx
  ·exact h6.side _ hy
  ·have:=h6.side y hy;exact ⟨this.lo,this.ne,this.e0,this.e1,by show (0:Int)≤3;omega,by show (3:Int)≤3;omega,this.df⟩
 ·obtain ⟨x,hx,e⟩:=h.dr.has p hp;exact ⟨x,h9 hx (h.needed hx (by rw [e];exact hp)),e⟩
 ·obtain ⟨y,hy,e⟩:=hc hx;rw [e];exact (h.may k hk).1 y hy
 ·obtain ⟨y,hy,(⟨rfl,_⟩ | ⟨_,hi,rfl⟩)⟩:=h8 hx
  ·exact h.sd _ hy
  ·have:=h.sd y hy;exact ⟨this.1,this.2.1,this.2.2.1,fun _=>by show m.DK.DI.ID≤y.Peer;omega⟩
 ·obtain ⟨x,hx,h1,e⟩:=h.tin p hp;exact ⟨x,h9 hx (Z8j1 (by omega)),h1,e⟩
 ·obtain ⟨y,hy,(⟨rfl,_⟩ | ⟨hg,_,rfl⟩)⟩:=h8 hx
  ·exact h.nl _ hy hn
  ·have:=h.needed hy hn;rw [hg] at this;simp at this
 ·obtain ⟨x,hx,e0,e⟩:=h.wt s hs h0 p hp;exact ⟨x,h9 hx (Z8j1 (by omega)),e0,e⟩
theorem OkN.once {n:Node} (h:OkN n):OkN (Zdh1 n):=h.pre.firgra.tel.lea
theorem Z9j1 (x y:KE):(decide (x.Peer=y.Peer)&&(decide (x.Epoch=y.Epoch)&&true))=decide (x=y):=by obtain ⟨a,b⟩:=x;obtain ⟨c,d⟩:=y;simp only [KE.mk.injEq,Bool.and_true];by_cases h1:a=c<;>by_cases h2:b=d<;>simp [h1,h2]
theorem Zaj1 (l m:List KE) (hl:l.length≤1000000):Zyn l m=some (decide (l=m)):=by
 simp only [Zyn,Z0b1];by_cases h:l.length=m.length
 ·simp only [h,decide_true,Bool.not_true,Z1a1];rw [Zxa1 l m _ (fun x y=>decide (x=y)) h (by omega) (fun k x y hx hy=>by simp only [Zxn,Z7a1 hx,Z0a1,Z4a1 hx,Z4a1 hy,OB,Z9j1,Zaa1 hx (show l.length≤4000000000000000000 by omega),Z2a1];cases decide (x=y)<;>rfl) (by simp only [Zxn,Z8a1,Z1a1,Zwn,Option.map_some]),Zya1 l m h]
 ·simp [h,Zza1 h]
theorem Zbj1 (x y:Sess) (hx:x.Need.length≤1000000):Znt x y=some (decide (x=y)):=by obtain ⟨i,n,s,a⟩:=x;obtain ⟨i',n',s',a'⟩:=y;simp only at hx;simp only [Znt,Zmt,Zie1 n n' hx,OB,Sess.mk.injEq];by_cases h1:i=i'<;>by_cases h2:s=s'<;>by_cases h3:a=a'<;>by_cases h4:n=n'<;>simp [h1,h2,h3,h4]
theorem Zcj1 (b c:Book) (hb:Z2c1 b):Zox b c=some (decide (b=c)):=by
 obtain ⟨L,l⟩:=b;obtain ⟨L',m⟩:=c;have h1:l.length≤1000000:=hb.1;have h2:∀s∈l,s.Need.length≤1000000:=hb.2;have e:Ztn l m (fun z=>Znt z.1 z.2)=some (decide (l=m)):=by
  simp only [Ztn,Z0b1];by_cases h:l.length=m.length
  ·simp only [h,decide_true,Bool.not_true,Z1a1];rw [Zxa1 l m _ (fun x y=>decide (x=y)) h (by omega) (fun k x y hx hy=>by have hm:=h2 x (List.mem_of_getElem? hx);simp only [Zsn,Z7a1 hx,Z0a1,Z4a1 hx,Z4a1 hy,OB,Zbj1 x y hm,Zaa1 hx (show l.length≤4000000000000000000 by omega),Z2a1];cases decide (x=y)<;>rfl) (by simp only [Zsn,Z8a1,Z1a1,Zrn,Option.map_some]),Zya1 l m h]
  ·simp [h,Zza1 h]
 simp only [Zox,Znx,e,OB,Book.mk.injEq];by_cases q1:L=L'<;>by_cases q2:l=m<;>simp [q1,q2]
theorem Zdj1 (a b:Node) (h:FewN a):Za01 a b=some (decide (a=b)):=by have h1:=h.sides;have h2:=h.need;have h3:=h.told;have h4:=h.known;have h5:=h.asked;obtain ⟨d,k,K,T,A⟩:=a;obtain ⟨d',k',K',T',A'⟩:=b;simp only at h1 h2 h3 h4 h5;simp only [Za01,Z901,Zke1 d d' (by omega) (by omega),Zcj1 k k' h.bk,Zaj1 K K' (by omega),Zaj1 A A' (by omega),Zie1 T T' (by omega),OB,Node.mk.injEq];by_cases q1:d=d'<;>by_cases q2:k=k'<;>by_cases q3:K=K'<;>by_cases q4:T=T'<;>by_cases q5:A=A'<;>simp [q1,q2,q3,q4,q5]
theorem Zej1 (l:List KE) (h:l.length≤1000000):Zpm l=some l:=by simp only [Zpm];rw [Z6a1 _ _ (by omega) (by simp;omega),List.nil_append]
theorem Zfj1 (n:Node) (a b c d:Int) (h:FewN n):Zvx a b c d n.Book.Sess n.Told n.DK.DI.SD n.DK.Need n.KN n.AK=some (n.DK.DI.SD,n.DK.Need,n.KN,n.Told,n.AK,n.Book.Sess):=by
 have h1:=h.sides;have h2:=h.need;have h3:=h.told;have h4:=h.known;have h5:=h.asked;have h6:=h.book;dsimp only [Zvx,Zux,Ztx];rw [Z0d1 _ (by omega),OB,Z9c1 _ (by omega),OB,Zej1 _ (by omega),OB,Z9c1 _ (by omega),OB,Zej1 _ (by omega),OB,Zac1 _ (by omega),OB];refine Zoa1 n.Book.Sess _ (fun pre=>((pre.length:Int),n.Book.Sess)) _ (fun pre x post h0=>?_) ?_
 ·have hx:=Zpa1 h0;have hm:=Zqa1 h0;have hN:=h.needs x (Zra1 h0);dsimp only [Zsx,Zrx];rw [Z7a1 hx,Z0a1,Z4a1 hx,OB,Z9c1 _ (by omega),OB,Z9a1 (by omega),Int.toNat_natCast,Z8c1 hx,Zua1]
 ·dsimp only [Zsx,Zqx];rw [Z8a1,Z1a1];rfl
theorem Zgj1 (n:Node) (h:FewN n):Zcx n=some (n.DK.DI.SD,n.DK.Need,n.KN,n.Told,n.AK,n.Book.Sess):=by
 have h1:=h.sides;have h2:=h.need;have h3:=h.told;have h4:=h.known;have h5:=h.asked;have h6:=h.book;dsimp only [Zcx,Zbx,Zax];rw [Z0d1 _ (by omega),OB,Z9c1 _ (by omega),OB,Zej1 _ (by omega),OB,Z9c1 _ (by omega),OB,Zej1 _ (by omega),OB,Zac1 _ (by omega),OB];refine Zoa1 n.Book.Sess _ (fun pre=>((pre.length:Int),n.Book.Sess)) _ (fun pre x post h0=>?_) ?_
 ·have hx:=Zpa1 h0;have hm:=Zqa1 h0;have hN:=h.needs x (Zra1 h0);dsimp only [Z9x,Z8x];rw [Z7a1 hx,Z0a1,Z4a1 hx,OB,Z9c1 _ (by omega),OB,Z9a1 (by omega),Int.toNat_natCast,Z8c1 hx,Zua1]
 ·dsimp only [Z9x,Z7x];rw [Z8a1,Z1a1];rfl
structure Quiet (n:Node):Prop where
 ask:n.DK.DI.PH=2∨n.AK=[]
 thi:Zbh1 n=none∨n.DK.TH≠0
 hun:n.DK.DI.PH≠0∨n.DK.DI.SD.any (untB n.Told)=false
 fire:Zvd1 n.DK=n.DK
 tel:n.DK.DI.PH≠2∨n.DK.DI.SD.any (untB n.Told)=false
 lea:n.DK.DI.SD.any (Zwg1 n.DK.TH n.DK.Need)=false
theorem Quiet.pre {n:Node} (h:Quiet n):preN n=n∧ansN n=n∧Z9h1 n=[]∧Zah1 n=[]:=by
 obtain ⟨⟨⟨id,ph,S⟩,th,N⟩,B,K,T,A⟩:=n;have ha:=h.ask;have ht:=h.thi;have hh:=h.hun;simp only at ha ht hh;have e1:ansN ⟨⟨⟨id,ph,S⟩,th,N⟩,B,K,T,A⟩=⟨⟨⟨id,ph,S⟩,th,N⟩,B,K,T,A⟩∧Z9h1 ⟨⟨⟨id,ph,S⟩,th,N⟩,B,K,T,A⟩=[]∧Zah1 ⟨⟨⟨id,ph,S⟩,th,N⟩,B,K,T,A⟩=[]:=by
  unfold ansN Z9h1 Zah1;dsimp only;split
  ·exact ⟨rfl,rfl,rfl⟩
  ·rename_i h2;rcases ha with ha | ha
   ·exact absurd ha h2
   ·subst ha;exact ⟨rfl,rfl,rfl⟩
 have e2:thiN ⟨⟨⟨id,ph,S⟩,th,N⟩,B,K,T,A⟩=⟨⟨⟨id,ph,S⟩,th,N⟩,B,K,T,A⟩:=by
  unfold thiN thiD;split
  ·rename_i s hw;rcases ht with ht | ht
   ·rw [hw] at ht;simp at ht
   ·dsimp only;rw [if_neg ht]
  ·rfl
 have e3:hunN ⟨⟨⟨id,ph,S⟩,th,N⟩,B,K,T,A⟩=⟨⟨⟨id,ph,S⟩,th,N⟩,B,K,T,A⟩:=by
  unfold hunN hunP;dsimp only;rcases hh with hh | hh
  ·rw [DN hh];rfl
  ·rw [hh,Bool.and_false];rfl
 unfold preN;rw [e1.1,e2,e3];exact ⟨rfl,rfl,e1.2⟩
theorem Zhj1 {α:Type} {l:List α} {q:α→Bool} (h:l.any q=false):∀x∈l,q x=false:=by rw [List.any_eq_false] at h;intro x hx;simpa using h x hx
theorem Quiet.once {n:Node} (hk:OkN n) (h:Quiet n):Zdh1 n=n∧Zeh1 n=[]∧Zfh1 n=[]:=by
 obtain ⟨p1,p2,p3,p4⟩:=h.pre;have hf:=Zti1 h.fire;have hm:midN n=n:=by unfold midN;rw [p1];unfold firN;rw [hf]
 have hg:graN n=n∧graV n=[]:=by
  rcases Zyi1 n with ⟨e1,e2⟩ | ⟨s,l,e1,e2,e3,_⟩
  ·exact ⟨by unfold graN;rw [e1],e2⟩
  ·exfalso;have:=hk.nowait e3;unfold Zbh1 at this;rw [e1] at this;dsimp only at this;rw [if_pos e2] at this;simp at this
 have ht:telN n=n∧(telT n).2=[]:=by
  have:telT n=(n.Told,[]):=by
   unfold telT;split
   ·rename_i h2;rcases h.tel with q | q
    ·exact absurd h2 q
    ·exact Z3j1 _ _ _ _ (Zhj1 q)
   ·rfl
  unfold telN;rw [this];exact ⟨rfl,rfl⟩
 have hl:=Z1h1 (id:=n.DK.DI.ID) (Zhj1 h.lea);have h6:leaN n=n:=by unfold leaN;rw [hl.1]
 unfold Zdh1 Zeh1 Zfh1 Zch1;rw [hm,hg.1,ht.1,h6,p1,p3,p4,hg.2,ht.2,hf,hl.2];exact ⟨rfl,rfl,rfl⟩
theorem Zij1 (n:Node):(ansN n).Told=n.Told∧(ansN n).Book=n.Book∧(ansN n).DK.TH=n.DK.TH∧(ansN n).DK.Need=n.DK.Need∧(ansN n).DK.DI.ID=n.DK.DI.ID∧(ansN n).DK.DI.PH=n.DK.DI.PH:=by unfold ansN;split<;>exact ⟨rfl,rfl,rfl,rfl,rfl,rfl⟩
theorem Zjj1 {n:Node} {x:Side} (h:x∈(ansN n).DK.DI.SD):x∈n.DK.DI.SD∨∃k∈n.AK,x=newS k:=by
 unfold ansN at h;split at h
 ·exact .inl h
 ·exact Zpg1.1 h
theorem Zkj1 {n:Node} {x:Side} (h:x∈n.DK.DI.SD):x∈(ansN n).DK.DI.SD:=by
 unfold ansN;split
 ·exact h
 ·exact Zpg1.2 (.inl h)
theorem Zlj1 (n:Node):(thiN n).DK.DI=n.DK.DI:=by
 show (thiD n).DI=_;unfold thiD;split
 ·split<;>rfl
 ·rfl
theorem Zmj1 (n:Node):(preN n).DK.DI.SD=(ansN n).DK.DI.SD:=by show (thiN (ansN n)).DK.DI.SD=_;rw [Zlj1]
theorem Znj1 (n:Node):Zbh1 (ansN n)=Zbh1 n:=by unfold Zbh1;rw [(Zij1 n).2.1]
theorem Zoj1 (n:Node):(preN n).DK.DI.PH=if decide (n.DK.DI.PH=0)&&(ansN n).DK.DI.SD.any (untB n.Told) then 1 else n.DK.DI.PH:=by show hunP (thiN (ansN n))=_;unfold hunP;rw [Zlj1,(Zij1 n).2.2.2.2.2,show (thiN (ansN n)).Told=n.Told from (Zij1 n).1]
theorem Zpj1 (n:Node):(Zbh1 n=none∨n.DK.TH≠0)∧(preN n).DK.TH=n.DK.TH∧(preN n).DK.Need=n.DK.Need∨n.DK.TH=0∧∃s,Zbh1 n=some s∧(preN n).DK.TH=1∧(preN n).DK.Need=s.Need:=by
 have e1:(preN n).DK.TH=(thiD (ansN n)).TH:=rfl;have e2:(preN n).DK.Need=(thiD (ansN n)).Need:=rfl;rw [e1,e2];unfold thiD;rw [Znj1,(Zij1 n).2.2.1];cases hw:Zbh1 n with
 | none=>left;exact ⟨.inl rfl,(Zij1 n).2.2.1,(Zij1 n).2.2.2.1⟩
 | some s=>
   by_cases h0:n.DK.TH=0
   ·right;dsimp only;rw [if_pos h0];exact ⟨h0,s,rfl,rfl,rfl⟩
   ·left;dsimp only;rw [if_neg h0];exact ⟨.inr h0,(Zij1 n).2.2.1,(Zij1 n).2.2.2.1⟩
theorem Zqj1 {n:Node} {x:Side} (h:x∈(midN n).DK.DI.SD):∃y∈(ansN n).DK.DI.SD,y.Peer=x.Peer∧y.Epoch=x.Epoch∧y.State=x.State:=by have:=Zpi1 (Zoi1 (preN n).DK).core h;rw [Zmj1] at this;exact this
theorem Zrj1 {n:Node} {x:Side} (h:x∈(Zdh1 n).DK.DI.SD):∃y∈(ansN n).DK.DI.SD,y.Peer=x.Peer∧y.Epoch=x.Epoch∧(y.State=x.State∨y.State=2∧x.State=3):=by
 obtain ⟨z,hz,hq⟩:=Z5j1 h;obtain ⟨y,hy,e1,e2,e3⟩:=Zqj1 (n:=n) hz;refine ⟨y,hy,?_⟩;rcases hq with ⟨rfl,_⟩ | ⟨hg,_,rfl⟩
 ·exact ⟨e1,e2,.inl e3⟩
 ·exact ⟨e1,e2,.inr ⟨by rw [e3];exact Z7j1 hg,rfl⟩⟩
theorem Zsj1 {n:Node} {p:Int} (h:p∈n.Told):p∈(Zdh1 n).Told:=(Z4j1 (graN (midN n)) p).2 (.inl (by show p∈(ansN n).Told;rw [(Zij1 n).1];exact h))
theorem Ztj1 {n:Node} (h:(Zdh1 n).DK.DI.SD.any (untB (Zdh1 n).Told)=true):∃z∈n.DK.DI.SD,untB n.Told z=true:=by
 obtain ⟨x,hx,hu⟩:=List.any_eq_true.1 h;unfold untB Z2f1 at hu ⊢;simp only [Bool.and_eq_true,decide_eq_true_eq,Bool.not_eq_true',decide_eq_false_iff_not] at hu ⊢;obtain ⟨y,hy,e1,e2,e3⟩:=Zrj1 hx;rcases Zjj1 hy with hy | ⟨k,_,rfl⟩
 ·exact ⟨y,hy,by omega,fun hm=>hu.2 (by rw [←e1];exact Zsj1 hm)⟩
 ·exfalso;have:(newS k).State=0:=rfl;omega
def thM (th:Int):Nat:=if th=0 then 2 else if th=1 then 1 else 0
def gosN (n:Node):Bool:=n.DK.DI.SD.any (Zwg1 n.DK.TH n.DK.Need)
def untN (n:Node):Bool:=n.DK.DI.SD.any (untB n.Told)
def meas (n:Node):Nat:=bn (!n.AK.isEmpty)+thM n.DK.TH+bn (decide (n.DK.DI.PH=0)&&untN n)+bn (!decide (Zvd1 n.DK=n.DK))+bn (untN n)+2*bn (gosN n)
theorem Zuj1 (b:Bool):bn b≤1:=by cases b<;>simp [bn]
theorem Zvj1 {a b:Bool} (h:a=true→b=true):bn a≤bn b:=by
 cases a with
 | false=>simp [bn]
 | true=>rw [h rfl];exact Nat.le_refl _
theorem bn_f {a:Bool} (h:a=false):bn a=0:=by rw [h];rfl
theorem bn_t {a:Bool} (h:a=true):bn a=1:=by rw [h];rfl
theorem Zwj1 (n:Node):(Zdh1 n).AK=if n.DK.DI.PH=2 then n.AK else []:=by show (ansN n).AK=_;unfold ansN;split<;>rfl
theorem Zxj1 (n:Node):gosN (Zdh1 n)=false:=by unfold gosN;rw [List.any_eq_false];intro x hx;have:=Z4h1 _ _ _ _ x hx;rw [show (Zdh1 n).DK.TH=(telN (graN (midN n))).DK.TH from rfl,show (Zdh1 n).DK.Need=(telN (graN (midN n))).DK.Need from rfl,this];simp
theorem Zyj1 (n:Node) (h:OkN n):(thM (Zdh1 n).DK.TH≤thM n.DK.TH)∧((Zbh1 n=none∨n.DK.TH≠0)∨thM (Zdh1 n).DK.TH<thM n.DK.TH):=by
 have hR:=(Zoi1 (preN n).DK).th;have e:(Zdh1 n).DK.TH=(Zhe1 (preN n).DK).1.TH:=rfl;have h0:=h.dr.t0;have h2:=h.dr.t2;rw [e];unfold thM;rcases Zpj1 n with ⟨q1,q2,_⟩ | ⟨q1,s,_,q2,_⟩
 ·refine ⟨?_,.inl q1⟩
  (repeat' split)<;>omega
 ·refine ⟨?_,.inr ?_⟩<;>(repeat' split)<;>omega
theorem Zzj1 {n:Node} (hg:gosN n=false):∀x∈(midN n).DK.DI.SD,Zwg1 (midN n).DK.TH (midN n).DK.Need x=false:=by
 intro x hx;by_cases h2:x.State=2
 ·obtain ⟨y,hy,e1,_,e3⟩:=Zqj1 hx;rcases Zjj1 hy with hy | ⟨k,_,rfl⟩
  ·have:=Zhj1 hg y hy;unfold Zwg1 at this ⊢;rw [DT (show y.State=2 by omega),Bool.true_and,Bool.not_eq_false',Bool.and_eq_true,decide_eq_true_eq,decide_eq_true_eq] at this;have hR:=Zoi1 (preN n).DK;have h9:=hR.th;have h6:(midN n).DK.Need=(preN n).DK.Need:=hR.need;have h8:(midN n).DK.TH=(Zhe1 (preN n).DK).1.TH:=rfl;rcases Zpj1 n with ⟨_,q2,q3⟩ | ⟨q1,_⟩
   ·rw [h6,q3,h8,DT (show (Zhe1 (preN n).DK).1.TH=2 by omega),←e1,DT this.2];simp
   ·omega
  ·exfalso;have:(newS k).State=0:=rfl;omega
 ·exact Z8j1 h2
theorem Z0k1 {n:Node} (h:OkN n) (hg:gosN n=false):Zvd1 (Zdh1 n).DK=(Zdh1 n).DK:=by
 have hc:=Z1h1 (id:=(midN n).DK.DI.ID) (Zzj1 hg);have e:(Zdh1 n).DK=(midN n).DK:=by show (⟨⟨(midN n).DK.DI.ID,(midN n).DK.DI.PH,Zzg1 (midN n).DK.DI.ID (midN n).DK.TH (midN n).DK.Need (midN n).DK.DI.SD⟩,(midN n).DK.TH,(midN n).DK.Need⟩:DK)=_;rw [hc.1]
 rw [e];exact Zsi1 ((Zxh1 _).2 h.pre.dr.din)
theorem Z1k1 {n:Node} (hu:untN (Zdh1 n)=true):(Zdh1 n).DK.DI.PH≠0:=by
 obtain ⟨z,hz,hz'⟩:=Ztj1 hu;have hs:z.State=1:=by unfold untB Z2f1 at hz';rw [Bool.and_eq_true,decide_eq_true_eq] at hz';exact hz'.1
 have hb:busy (preN n).DK:=by
  refine ⟨?_,z,by rw [Zmj1];exact Zkj1 hz,hs⟩;rw [Zoj1];split
  ·omega
  ·rename_i hc;intro e;exact hc (by rw [DT e,Bool.true_and];exact List.any_eq_true.2 ⟨z,Zkj1 hz,hz'⟩)
 exact (Zvi1 hb).1
theorem Z2k1 {n:Node} (h:eats n.DK):eats (preN n).DK:=by obtain ⟨h1,x,hx,h2⟩:=h;refine ⟨?_,x,by rw [Zmj1];exact Zkj1 hx,h2⟩;rw [Zoj1,DN (by omega)];exact h1
theorem Z3k1 {n:Node} (hp:n.DK.DI.PH=2):untN (Zdh1 n)=false:=by
 cases hu:untN (Zdh1 n) with
 | false=>rfl
 | true=>
   exfalso;obtain ⟨x,hx,h6⟩:=List.any_eq_true.1 hu;obtain ⟨z,hz,hz'⟩:=Ztj1 hu;have hs:z.State=1:=by unfold untB Z2f1 at hz';rw [Bool.and_eq_true,decide_eq_true_eq] at hz';exact hz'.1
   have he:=Zxi1 (Z2k1 (n:=n) ⟨hp,z,hz,hs⟩);unfold untB Z2f1 at h6;simp only [Bool.and_eq_true,decide_eq_true_eq,Bool.not_eq_true',decide_eq_false_iff_not] at h6;refine h6.2 ?_;refine (Z4j1 (graN (midN n)) x.Peer).2 (.inr ⟨he.1,?_⟩);obtain ⟨y,hy,hq⟩:=Z5j1 hx;rcases hq with ⟨rfl,_⟩ | ⟨_,_,rfl⟩
   ·exact ⟨_,hy,h6.1,rfl⟩
   ·exact absurd h6.1 (by show ¬(3:Int)=1;omega)
theorem Z4k1 {n:Node} (h:OkN n):Quiet n∨meas (Zdh1 n)<meas n:=by
 have a1:bn (!(Zdh1 n).AK.isEmpty)≤bn (!n.AK.isEmpty):=by
  rw [Zwj1];split
  ·exact Nat.le_refl _
  ·simp [bn]
 have a2:=Zyj1 n h;have a3:bn (decide ((Zdh1 n).DK.DI.PH=0)&&untN (Zdh1 n))=0:=bn_f (by
  cases hu:untN (Zdh1 n) with
  | false=>simp
  | true=>rw [DN (Z1k1 hu)];rfl)
 have a4:bn (untN (Zdh1 n))≤bn (untN n):=Zvj1 fun hu=>by obtain ⟨z,hz,hz'⟩:=Ztj1 hu;exact List.any_eq_true.2 ⟨z,hz,hz'⟩
 have a5:bn (gosN (Zdh1 n))=0:=bn_f (Zxj1 n);have a6:=Zuj1 (!decide (Zvd1 (Zdh1 n).DK=(Zdh1 n).DK));have a7:gosN n=false→bn (!decide (Zvd1 (Zdh1 n).DK=(Zdh1 n).DK))=0:=fun hg=>bn_f (by rw [DT (Z0k1 h hg)];rfl);unfold meas;cases hg:gosN n with
 | true=>right;rw [show bn true=1 from rfl,a3,a5];omega
 | false=>
   rw [a7 hg,a3,a5,show bn false=0 from rfl];by_cases c1:n.DK.DI.PH=2∨n.AK=[]
   ·by_cases c2:Zbh1 n=none∨n.DK.TH≠0
    ·cases c3:decide (n.DK.DI.PH=0)&&untN n with
     | true=>right;rw [show bn true=1 from rfl];omega
     | false=>
       by_cases c4:Zvd1 n.DK=n.DK
       ·by_cases c5:n.DK.DI.PH=2∧untN n=true
        ·right;rw [bn_t c5.2,bn_f (Z3k1 c5.1)];omega
        ·left;refine ⟨c1,c2,?_,c4,?_,hg⟩
         ·rw [Bool.and_eq_false_iff,decide_eq_false_iff_not] at c3;exact c3
         ·by_cases hp:n.DK.DI.PH=2
          ·right;cases hu:n.DK.DI.SD.any (untB n.Told) with
           | false=>rfl
           | true=>exact absurd ⟨hp,hu⟩ c5
          ·exact .inl hp
       ·right;rw [DN c4,show bn (!false)=1 from rfl];omega
    ·right;rcases a2.2 with q | q
     ·exact absurd q c2
     ·omega
   ·right;have c1:=not_or.1 c1;rw [Zwj1,if_neg c1.1];have:bn (!n.AK.isEmpty)=1:=bn_t (by cases he:n.AK with
     | nil=>exact absurd he c1.2
     | cons a l=>rfl)
    rw [this];have:bn (!([]:List KE).isEmpty)=0:=rfl;omega
theorem Z5k1 (n:Node):meas n≤8:=by
 have b1:=Zuj1 (!n.AK.isEmpty);have b2:=Zuj1 (decide (n.DK.DI.PH=0)&&untN n);have b3:=Zuj1 (!decide (Zvd1 n.DK=n.DK));have b4:=Zuj1 (untN n);have b5:=Zuj1 (gosN n);have:thM n.DK.TH≤2:=by unfold thM;(repeat' split)<;>omega
 unfold meas;omega
theorem Z6k1 {n:Node} (h:OkN n):Quiet n↔Zdh1 n=n:=by
 constructor
 ·exact fun q=>(q.once h).1
 ·intro e;rcases Z4k1 h with q | q
  ·exact q
  ·rw [e] at q;omega
def Z7k1:Nat→Node→List Mail→List Event→Node×List Mail×List Event
 | 0,n,E,V=>(n,E,V)
 | k+1,n,E,V=>if Zdh1 n=n then (n,E,V) else Z7k1 k (Zdh1 n) (E++Zeh1 n) (V++Zfh1 n)
def Z8k1 (n:Node) (E:List Mail) (V:List Event):Node×List Mail×List Event:=Z7k1 9 n E V
theorem Z9k1 {n:Node} (h:OkN n):(Zeh1 n).length≤500:=by
 have h1:=h.askedL;have h2:=Zqh1 ((Z1i1 _).2 h.pre.dr);have hm:OkN (graN (midN n)):=h.pre.firgra;have h3:=hm.dr.din.len;have h4:(telT (graN (midN n))).2.length≤64:=by
  unfold telT;split
  ·have:=Zhh1 (graN (midN n)).DK.DI.ID (graN (midN n)).DK.DI.SD (graN (midN n)).Told [];simp only [List.length_nil] at this;omega
  ·simp
 have h5:(Zch1 (telN (graN (midN n)))).length≤64:=by have:=Z5h1 (graN (midN n)).DK.DI.ID (graN (midN n)).DK.TH (graN (midN n)).DK.Need (graN (midN n)).DK.DI.SD;unfold Zch1;show (Z0h1 (graN (midN n)).DK.DI.ID (graN (midN n)).DK.TH (graN (midN n)).DK.Need (graN (midN n)).DK.DI.SD).length≤64;omega
 have h6:(Z9h1 n).length≤64:=by
  unfold Z9h1;split
  ·simp
  ·unfold ansM;rw [List.length_map];omega
 unfold Zeh1;simp only [List.length_append];omega
theorem Zak1 {n:Node} (h:OkN n):(Zfh1 n).length≤500:=by
 have h1:=h.askedL;have h6:(Zah1 n).length≤64:=by
  unfold Zah1;split
  ·simp
  ·unfold ansV;rw [List.length_map];omega
 have:(graV (midN n)).length≤1:=by rcases Zyi1 (midN n) with ⟨_,e⟩ | ⟨s,l,_,_,_,_,e⟩<;>rw [e]<;>simp
 unfold Zfh1;rw [List.length_append];omega
def tupS (r:Node×List Mail×List Event):Int×Int×Int×Int×List Sess×List Int×Int×List Side×List Int×List KE×List KE×List Mail×List Event:=(r.1.DK.DI.ID,r.1.DK.DI.PH,r.1.DK.TH,r.1.Book.Last,r.1.Book.Sess,r.1.Told,0,r.1.DK.DI.SD,r.1.DK.Need,r.1.KN,r.1.AK,r.2.1,r.2.2)
theorem Zbk1 (body:Int×Int×Int×Int×List Sess×List Int×List Mail×List KE×List Event×List KE×List Int×List Side→Option ((Int×Int×Int×Int×List Sess×List Int×List Mail×List KE×List Event×List KE×List Int×List Side) ⊕ (Int×Int×Int×Int×List Sess×List Int×Int×List Side×List Int×List KE×List KE×List Mail×List Event)))
  (hb:∀(n:Node) E V,OkN n→E.length≤600000→V.length≤600000→body (n.DK.DI.ID,n.DK.DI.PH,n.DK.TH,n.Book.Last,n.Book.Sess,n.Told,E,n.KN,V,n.AK,n.DK.Need,n.DK.DI.SD) =
    if n=Zdh1 n then some (.inr (tupS (Zdh1 n,E++Zeh1 n,V++Zfh1 n))) else some (.inl ((Zdh1 n).DK.DI.ID,(Zdh1 n).DK.DI.PH,(Zdh1 n).DK.TH,(Zdh1 n).Book.Last,(Zdh1 n).Book.Sess,(Zdh1 n).Told,E++Zeh1 n,(Zdh1 n).KN,V++Zfh1 n,(Zdh1 n).AK,(Zdh1 n).DK.Need,(Zdh1 n).DK.DI.SD))):
  ∀(k:Nat) (n:Node) (E:List Mail) (V:List Event),OkN n→meas n<k→E.length+500*k≤500000→V.length+500*k≤500000→
   loop body (n.DK.DI.ID,n.DK.DI.PH,n.DK.TH,n.Book.Last,n.Book.Sess,n.Told,E,n.KN,V,n.AK,n.DK.Need,n.DK.DI.SD)=some (tupS (Z7k1 k n E V))
 | 0,_,_,_,_,h,_,_=>by omega
 | k+1,n,E,V,hn,hm,hE,hV=>by
   have l1:=Z9k1 hn;have l2:=Zak1 hn;rw [Zcc,hb n E V hn (by omega) (by omega)];unfold Z7k1;by_cases hq:Zdh1 n=n
   ·obtain ⟨q1,q2,q3⟩:=((Z6k1 hn).2 hq).once hn;rw [if_pos hq.symm,if_pos hq,q2,q3,List.append_nil,List.append_nil,hq]
   ·rw [if_neg fun e=>hq e.symm,if_neg hq];refine Zbk1 body hb k (Zdh1 n) _ _ hn.once ?_ (by rw [List.length_append];omega) (by rw [List.length_append];omega);rcases Z4k1 hn with q | q
    ·exact absurd (q.once hn).1 hq
    ·omega
theorem Zck1 (f:Int) (n:Node) (E:List Mail) (V:List Event) (J:OkN n) (U:E.length≤600000) (Y:V.length≤600000):
  (Zvx n.DK.DI.ID n.DK.DI.PH n.DK.TH n.Book.Last n.Book.Sess n.Told n.DK.DI.SD n.DK.Need n.KN n.AK)=some (n.DK.DI.SD,n.DK.Need,n.KN,n.Told,n.AK,n.Book.Sess)
  ∧Za81 n.DK.DI.ID n.DK.DI.PH n.DK.TH n.Book.Last n.Book.Sess n.Told f n.DK.DI.SD n.DK.Need n.KN n.AK E V=some (tupN (Zdh1 n) (E++Zeh1 n) (V++Zfh1 n))
  ∧Za01 n (Zdh1 n)=some (decide (n=Zdh1 n)):=
 ⟨Zfj1 n _ _ _ _ J.few,Zuh1 f n J.go E V U Y,Zdj1 n _ J.few⟩
theorem Zdk1 (n:Node) (h:OkN n) (V:List Event) (J:V.length≤100000):
  Zn81 n.DK.DI.ID n.DK.DI.PH n.DK.TH n.Book.Last n.Book.Sess n.Told 0 n.DK.DI.SD n.DK.Need n.KN n.AK V=some (tupS (Z8k1 n [] V)):=by
 dsimp only [Zn81];rw [DT rfl,Bool.not_true,Z1a1];refine Zbk1 _ (fun m E V hm hE J=>?_) 9 n [] V h (by have:=Z5k1 n;omega) (by simp) (by omega);obtain ⟨e1,e2,e3⟩:=Zck1 0 m E V hm hE J;dsimp only [Zm81];rw [e1,OB,e2,OB];have e3':Za01 m (Zdh1 m)=some (decide (m=Zdh1 m)):=e3;dsimp only [tupN];rw [e3',OB];by_cases hq:m=Zdh1 m
 ·rw [if_pos hq,DT hq];rfl
 ·rw [if_neg hq,DN hq];rfl
theorem Zek1 (a b c d e:Int) (B:List Sess) (he:e≠0) (V:List Event) (N:List Int) (S:List Side) (T:List Int) (A K:List KE):
  Zn81 a b c d B T e S N K A V=some (0,0,0,0,[],[],e,[],[],[],[],[],[]):=by
 dsimp only [Zn81];rw [DN he,Bool.not_false,Z0a1]
def Zfk1 (p:Int) (s:Sess):Bool:=decide (s.State=0)&&decide (p∈s.Need)
def Zgk1 (p:Int) (l:List Sess):List Int:=(l.filter (Zfk1 p)).map (·.ID)
theorem Zhk1 (s:Sess) (p:Int) (ids:List Int) (hs:s.Need.length≤1000000) (hi:ids.length≤1000000):Z621 s p ids=some (Zfk1 p s,if Zfk1 p s then ids++[s.ID] else ids):=by simp only [Z621,Z521,Z421,Zmb1 s.Need p hs,OB];rw [Z6a1 _ _ (by omega) (by simp;omega),OB];unfold Zfk1;cases decide (s.State=0)<;>cases decide (p∈s.Need)<;>rfl
theorem Zik1 (p:Int) (l:List Sess) (s:Sess):Zgk1 p (l++[s])=if Zfk1 p s then Zgk1 p l++[s.ID] else Zgk1 p l:=by unfold Zgk1;rw [List.filter_append,List.map_append];cases h:Zfk1 p s<;>simp [h]
theorem Zjk1 (p:Int) (l:List Sess):(Zgk1 p l).length≤l.length:=by unfold Zgk1;rw [List.length_map];exact List.length_filter_le _ _
theorem Zkk1 (p:Int) (l:List Sess) (hl:l.length≤100000) (E:∀s∈l,s.Need.length≤1000000):
  Z041 p l=some (match l.findIdx? (Zfk1 p) with | some i=>((i:Int),Zgk1 p (l.take (i+1))) | none=>(-1,[])):=by
 unfold Z041;have key:∀(post pre:List Sess),l=pre++post→(∀s∈pre,Zfk1 p s=false)→loop (Zz31 p l) ((pre.length:Int),([]:List Int))=some (match l.findIdx? (Zfk1 p) with | some i=>((i:Int),Zgk1 p (l.take (i+1))) | none=>(-1,[])):=by
  intro post;induction post with
  | nil=>
    intro pre h hp;have h:pre=l:=by simpa using h.symm
    subst h;have:pre.findIdx? (Zfk1 p)=none:=by rw [List.findIdx?_eq_none_iff];exact hp
    rw [this,Zcc];dsimp only [Zz31];rw [Z8a1,Z1a1];rfl
  | cons x post ih=>
    intro pre h hp;have hx:=Zpa1 h;have hm:=Zqa1 h;rw [Zcc];dsimp only [Zz31];rw [Z7a1 hx,Z0a1,Z4a1 hx,OB,Zhk1 x p [] (E x (Zra1 h)) (by simp),OB];cases hg:Zfk1 p x with
    | true=>
      have hf:l.findIdx? (Zfk1 p)=some pre.length:=by
       rw [List.findIdx?_eq_some_iff_getElem];refine ⟨by omega,?_,fun j hj=>?_⟩
       ·have:l[pre.length]'(by omega)=x:=(List.getElem?_eq_some_iff.1 hx).2;rw [this];exact hg
       ·have h6:l[j]?=pre[j]?:=by rw [h,List.getElem?_append_left hj]
        have:l[j]'(by omega)∈pre:=by have e:l[j]?=some (l[j]'(by omega)):=List.getElem?_eq_getElem _;rw [h6] at e;exact List.mem_of_getElem? e
        simpa using hp _ this
      rw [hf];have ht:l.take (pre.length+1)=pre++[x]:=by rw [h,show pre++x::post=(pre++[x])++post by simp,List.take_left' (by simp)]
      have hz:Zgk1 p pre=[]:=by unfold Zgk1;rw [List.filter_eq_nil_iff.2 fun s hs=>by rw [hp s hs];simp];rfl
      dsimp only;rw [ht,Zik1,hg,hz];rfl
    | false=>
      have:=ih (pre++[x]) (by simpa using h) fun s hs=>by
       rcases List.mem_append.1 hs with hs | hs
       ·exact hp s hs
       ·simp at hs;subst hs;exact hg
      rw [Zua1] at this;rw [←this];dsimp only;rw [if_neg (by simp),Z1a1,Z9a1 (by omega)]
 exact key l [] rfl (by simp)
theorem Zlk1 (p:Int) (l:List Sess) (hl:l.length≤100000) (E:∀s∈l,s.Need.length≤1000000):
  Z951 p l=some (Zgk1 p l,l.filter fun s=>!Zfk1 p s):=by
 simp only [Z951,Zkk1 p l hl E,OB];cases hf:l.findIdx? (Zfk1 p) with
 | none=>
   rw [List.findIdx?_eq_none_iff] at hf;dsimp only;rw [DT rfl,Z0a1,List.filter_eq_self.2 (fun x hx=>by rw [hf x hx];rfl)];have:Zgk1 p l=[]:=by unfold Zgk1;rw [List.filter_eq_nil_iff.2 fun s hs=>by rw [hf s hs];simp];rfl
   rw [this]
 | some i=>
   obtain ⟨hi,hq,hw⟩:=List.findIdx?_eq_some_iff_getElem.1 hf;dsimp only;rw [DN (by omega),Z1a1,Z9a1 (by omega)]
   let F:List Sess→List Sess:=fun pre=>pre.filter fun x=>!Zfk1 p x
   have hF:∀pre post,l=pre++post→(F pre).length≤pre.length:=fun pre post _=>List.length_filter_le _ _;have key:=Zla1 l (Z851 p) (fun pre=>(((F pre).length:Int),(pre.length:Int),F pre++l.drop (F pre).length,Zgk1 p pre)) (fun _ _=>some (Zgk1 p l,F l)) (fun pre x post h=>?_) ?_ (l.drop (i+1)) (l.take (i+1)) (by simp)
   ·have e1:F (l.take (i+1))=l.take i:=by
     show (l.take (i+1)).filter _=_;rw [List.take_succ_eq_append_getElem hi,List.filter_append];have a1:(l.take i).filter (fun x=>!Zfk1 p x)=l.take i:=by rw [List.filter_eq_self];intro x hx;obtain ⟨j,hj,rfl⟩:=List.mem_iff_getElem.1 hx;rw [List.getElem_take];have:=hw j (by simp at hj;omega);simpa using this
     have a2: [l[i]].filter (fun x=>!Zfk1 p x)=[]:=by simp [hq]
     rw [a1,a2,List.append_nil]
    rw [e1] at key;have e2:(l.take i).length=i:=by simp;omega
    have e3:(l.take (i+1)).length=i+1:=by simp;omega
    rw [e2,e3,List.take_append_drop] at key;exact key
   ·left;refine ⟨?_,rfl⟩;have hx:=Zpa1 h;have hm:=Zqa1 h;have h8:=hF pre (x::post) h;have hC:=Zjk1 p pre;have h6:(F pre++l.drop (F pre).length).length=l.length:=by simp;omega
    have h9:(F pre++l.drop (F pre).length)[pre.length]?=some x:=by rw [List.getElem?_append_right h8,List.getElem?_drop,show (F pre).length+(pre.length-(F pre).length)=pre.length by omega];exact hx
    dsimp only [Z851];rw [Z7a1 h9,Z0a1,Z4a1 h9,OB,Zhk1 x p _ (E x (Zra1 h)) (by omega),OB];have hc:F (pre++[x])=F pre++(if Zfk1 p x then [] else [x]):=by show (pre++[x]).filter _=_;rw [List.filter_append];congr 1;cases hA:Zfk1 p x<;>simp [hA]
    rw [←Zik1];cases ho:Zfk1 p x with
    | true=>rw [Bool.not_true,Z1a1];dsimp only [Z751];rw [Z9a1 (by omega),hc,ho,if_pos rfl,List.append_nil,Zua1]
    | false=>
      rw [Bool.not_false,Z0a1];obtain ⟨d,hd⟩:=Zrb1 (fun x=>!Zfk1 p x) pre post x;rw [←h] at hd;have hd':l.drop (F pre).length=d::l.drop ((F pre).length+1):=hd;have hB:(F pre++l.drop (F pre).length)[(F pre).length]?=some d:=by rw [hd'];simp
      rw [Z4a1 hB,OB];dsimp only [Z751];rw [Z9a1 (by omega),Z9a1 (by omega),hc,ho,if_neg (by simp),Zua1,hd',Int.toNat_natCast,Zua1];simp
   ·dsimp only [Z851];have h8:=hF l [] (by simp);have h6:(F l++l.drop (F l).length).length=l.length:=by simp;omega
    rw [show ((l.length:Int))=((F l++l.drop (F l).length).length:Int) by rw [h6],Z8a1,Z1a1];dsimp only [Z651];unfold vw_;rw [ln_eq,h6,if_pos ⟨by omega,by omega,by omega,by omega⟩,OB];unfold Zsg;rw [h6,if_pos ⟨by omega,by simp;omega⟩,OB];unfold Z8c;rw [if_pos ⟨by omega,by omega,by simp;omega⟩,OB];simp [Int.toNat_natCast,List.append_assoc]
theorem Zmk1 (b:Book) (p:Int) (hk:okBk b=true):Z461 b p=some (⟨b.Last,b.Sess.filter fun s=>!Zfk1 p s⟩,Zgk1 p b.Sess,0):=by have h:=(Z8i1 b).1 hk;have hf:=h.few;have hl:=h.len;simp only [Z461,Z7c1 b hf,hk,if_true,OB,Zbc1 b hf,Zlk1 p b.Sess (by omega) (fun s hs=>hf.2 s hs),decide_true,Bool.not_true,Z1a1]
theorem BkOK.sub {b:Book} (h:BkOK b) {l:List Sess} (hs:l.Sublist b.Sess):BkOK ⟨b.Last,l⟩:=⟨h.last,Nat.le_trans hs.length_le h.len,h.up.sublist hs,fun s hm=>h.ok s (hs.subset hm),fun s hm=>h.tl s (hs.tail.subset hm)⟩
theorem Znk1 {α:Type} (l:List α) (i:Nat):(l.take i++l.drop (i+1)).Sublist l:=by
 conv=>rhs;rw [←List.take_append_drop i l]
 refine List.Sublist.append (List.Sublist.refl _) ?_;rw [←List.drop_drop];exact List.drop_sublist _ _
def Zok1 (s:Sess):Sess:=⟨s.ID,s.Need,s.State,max s.Age (min s.Age 4611686018427387903+1)⟩
def Zpk1 (b:Book) (hold:Int):Book×Int:=match b.Sess with
 | []=>(b,0)
 | s::l=>if s.State=1 then (if (Zok1 s).Age<hold then (⟨b.Last,Zok1 s::l⟩,0) else (⟨b.Last,l⟩,s.ID)) else (b,0)
theorem Zqk1 (b:Book) (hold:Int) (hk:okBk b=true):Zx11 b hold=some ((Zpk1 b hold).1,(Zpk1 b hold).2,0):=by
 have h:=(Z8i1 b).1 hk;have hf:=h.few;have hl:=h.len;simp only [Zx11,Z7c1 b hf,hk,if_true,OB,Zbc1 b hf,decide_true,Bool.not_true,Z1a1,ln_eq];unfold Zpk1;cases hb:b.Sess with
 | nil=>dsimp only;rw [show decide (((([]:List Sess).length:Nat):Int)=0)=true from rfl,Z0a1];dsimp only [Zw11];rw [Z0a1,←hb]
 | cons s l=>
   have hs:=h.ok s (by rw [hb];simp);have h0:at_ (s::l) 0=some s:=rfl;dsimp only;rw [DN (by simp;omega),Z1a1,h0,OB];dsimp only [Zw11];by_cases h1:s.State=1
   ·have h8:=hs.age;have h6:wr (min s.Age 4611686018427387903+1)=min s.Age 4611686018427387903+1:=Z3a1 (by omega) (by omega);rw [DT h1,Bool.not_true,Z1a1,h0,OB,h6,if_pos h1];have e:(⟨s.ID,s.Need,s.State,max s.Age (min s.Age 4611686018427387903+1)⟩:Sess)=Zok1 s:=rfl;rw [e];have es:(s::l).set (Int.toNat 0) (Zok1 s)=Zok1 s::l:=rfl;rw [es];by_cases hh:(Zok1 s).Age<hold
    ·rw [if_pos hh,show decide (max s.Age (min s.Age 4611686018427387903+1)<hold)=true from DT hh,Z0a1]
    ·rw [if_neg hh,show decide (max s.Age (min s.Age 4611686018427387903+1)<hold)=false from DN hh,Z1a1];have hd:=Zec1 (Zok1 s::l) 0 (by simp) (by rw [hb] at hl;simp at hl ⊢;omega);have hd:Z6s 0 1 (Zok1 s::l)=some l:=hd;rw [hd,OB]
   ·rw [DN h1,Bool.not_false,Z0a1,if_neg h1,←hb]
theorem BkOK.tick {b:Book} (h:BkOK b) (hold:Int):BkOK (Zpk1 b hold).1:=by
 unfold Zpk1;cases hb:b.Sess with
 | nil=>exact h
 | cons s l=>
   dsimp only;split
   ·rename_i h1;split
    ·have hu:=h.up;have hl:=h.len;have ht:=h.tl;have hs:=h.ok s (by rw [hb];simp);rw [hb] at hu hl ht;refine ⟨h.last,hl,?_,fun t ht'=>?_,ht⟩
     ·rw [List.pairwise_cons] at hu ⊢;exact hu
     ·rcases List.mem_cons.1 ht' with rfl | ht'
      ·have:=hs.age;exact {hs with age:=by show 0≤max s.Age _;omega,st:=.inl h1}
      ·exact h.ok t (by rw [hb];exact List.mem_cons_of_mem _ ht')
    ·exact h.sub (by rw [hb];exact List.sublist_cons_self _ _)
   ·exact h
def Zrk1 (is:Bool) (c e:Int):Int:=if decide (e=0)&&!is then c else e
theorem Zsk1 (is:Bool) (c a b d f:Int) (B:List Sess) (e:Int) (S:List Side) (N:List Int) (K:List KE) (T:List Int) (A:List KE):Zrs is c a b d f B e S N K T A=some (decide (Zrk1 is c e=0),Zrk1 is c e):=by simp only [Zrs,Zqs,Zps,Zrk1];by_cases h:e=0<;>cases is<;>simp [h,ifb]
theorem Ztk1 (is:Bool) (c a b d f e:Int) (S:List Side) (N:List Int) (B:List Sess) (K:List KE) (T:List Int) (A:List KE):Z6t is c a b d f e S N B K T A=some (decide (Zrk1 is c e=0),Zrk1 is c e):=by simp only [Z6t,Z5t,Z4t,Zrk1];by_cases h:e=0<;>cases is<;>simp [h,ifb]
theorem Zuk1 (c a b d f e:Int) (S:List Side) (N:List Int) (B:List Sess) (K:List KE) (T:List Int) (A:List KE):Zat c a b d f e S N B K T A=some (decide (Zrk1 false c e=0),Zrk1 false c e):=by simp only [Zat,Z9t,Z8t,Zrk1];by_cases h:e=0<;>simp [h,ifb]
theorem Zvk1 {c e:Int} (is:Bool) (h:e≠0):Zrk1 is c e=e:=by unfold Zrk1;rw [DN h];rfl
theorem Zwk1 (c e:Int):Zrk1 true c e=e:=by unfold Zrk1;simp
theorem Zxk1 (c:Int):Zrk1 false c 0=c:=rfl
def Zyk1 (S:List Side) (p:Int):Option Nat:=S.findIdx? fun x=>decide (x.Peer=p)
theorem Zzk1 (x:node_node) (p:Int) (h:x.Node.DK.DI.SD.length≤1000000):Zct x p=some (plc (Zyk1 x.Node.DK.DI.SD p)):=by simp only [Zct,Z1b1 x.Node.DK.DI.SD (fun z=>Zjn z p) (fun x=>decide (x.Peer=p)) (by omega) (fun _ _=>rfl),OB];rfl
theorem Z0l1 {S:List Side} {p:Int} {j:Nat} (h:Zyk1 S p=some j):∃x,S[j]?=some x∧x.Peer=p:=by obtain ⟨hi,hq,_⟩:=List.findIdx?_eq_some_iff_getElem.1 h;exact ⟨_,List.getElem?_eq_getElem hi,by simpa using hq⟩
theorem Z1l1 {S:List Side} {p:Int} (h:Zyk1 S p=none):∀x∈S,x.Peer≠p:=by unfold Zyk1 at h;rw [List.findIdx?_eq_none_iff] at h;intro x hx;simpa using h x hx
theorem Z2l1 (d:DK) (h:DrOK d) (E:d.Need.length≤1000000) (K A:List KE) (T:List Int) (V:List Event) (x:Int) (B:List Sess) (e:Int):
  Zw61 d.DI.ID d.DI.PH d.TH x B e d.DI.SD d.Need K T A V=some (d.DI.ID,d.DI.PH,0,d.DI.SD,[]):=by
 simp only [Zw61,Zv61,Zve1 d ((Z1i1 d).2 h) E,OB];by_cases h0:d.TH=0
 ·rw [if_pos h0,h.nz h0,h0];rfl
 ·rw [if_neg h0];rfl
theorem Z3l1 (r:Book×Int) (b c d L:Int) (l:List Sess) (S:List Side) (N:List Int) (K:List KE) (T:List Int) (A:List KE):Zhx r.1 r.2 b c d L l 0 S N K T A=some (if r.2=0 then (true,r.1.Last,r.1.Sess,0) else (false,L,l,r.2)):=by
 simp only [Zhx,Zgx,Zsk1,OB];by_cases h:r.2=0
 ·rw [if_pos h,h];rfl
 ·rw [if_neg h,DN h,Zxk1,DN h];rfl
theorem Z4l1 (k i a b c d:Int) (B:List Sess) (e:Int) (S:List Side) (N:List Int) (K:List KE) (T:List Int) (A:List KE):Zys k i a b c d B e S N K T A=some [⟨k,a,i,0,[]⟩]:=by simp only [Zys];rw [Z6a1 _ _ (by omega) (by simp),OB];rfl
theorem Z5l1 (n:Node) (E:FewN n) (a b c d:Int) (N:List Int) (B:List Sess) (K:List KE) (T:List Int) (A:List KE):Zex a b c d B n.DK.DI.SD N K T A=some (Zze1 n Z1f1):=by
 have hl:=E.sides;simp only [Zex,Zws];have:loop (Zvs n.DK.DI.SD fun z=>Zzm z) (0,([]:List Int))=some (Zze1 n Z1f1):=by
  refine Zoa1 n.DK.DI.SD _ (fun pre=>((pre.length:Int),(pre.filter Z1f1).map (·.Peer))) _ (fun pre x post h=>?_) ?_
  ·have hx:=Zpa1 h;have hm:=Zqa1 h;have hf:=List.length_filter_le Z1f1 pre;dsimp only [Zvs];rw [Z7a1 hx,Z0a1,Z4a1 hx,OB,show Zzm x=some (Z1f1 x) from rfl,OB];cases hq:Z1f1 x with
   | true=>rw [Z0a1,Z6a1 _ _ (by omega) (by simp;omega),OB];dsimp only [Zus];rw [Z9a1 (by omega),Zua1];simp [hq]
   | false=>rw [Z1a1];dsimp only [Zus];rw [Z9a1 (by omega),Zua1];simp [hq]
  ·dsimp only [Zvs];rw [Z8a1,Z1a1];rfl
 rw [this];rfl
def Z6l1 (n:Node) (b:Book):Node:=⟨n.DK,b,n.KN,n.Told,n.AK⟩
def Z7l1 (n:Node) (b:Book):Node:=⟨⟨n.DK.DI,0,[]⟩,b,n.KN,n.Told,n.AK⟩
def Z8l1 (n:Node) (a:Do):Int×Node×List Event:=
 if a.Kind=0 then
  (if (Zfc1 n.Book a.ID a.Need).2=0 then (if (a.Need.all fun z=>decide (z∈Zze1 n Z1f1))=true then (0,Z6l1 n (Zfc1 n.Book a.ID a.Need).1,[⟨0,n.DK.DI.ID,a.ID,0,setL a.Need⟩]) else (181,n,[])) else ((Zfc1 n.Book a.ID a.Need).2,n,[]))
 else if a.Kind=1 then
  (if (endP n.Book a.ID 1).2=0 then (0,Z7l1 n (endP n.Book a.ID 1).1,[⟨2,n.DK.DI.ID,a.ID,0,[]⟩]) else ((endP n.Book a.ID 1).2,n,[]))
 else if a.Kind=2 then
  (if (endP n.Book a.ID 0).2=0 then (0,if (Zjh1 n).1.ID=a.ID∧n.DK.TH=1 then Z7l1 n (endP n.Book a.ID 0).1 else Z6l1 n (endP n.Book a.ID 0).1,[⟨3,n.DK.DI.ID,a.ID,0,[]⟩]) else ((endP n.Book a.ID 0).2,n,[]))
 else if a.Kind=3 then
  (if (Zpk1 n.Book a.Hold).2=0 then (0,Z6l1 n (Zpk1 n.Book a.Hold).1,[]) else (0,Z7l1 n (Zpk1 n.Book a.Hold).1,[⟨4,n.DK.DI.ID,(Zpk1 n.Book a.Hold).2,0,[]⟩]))
 else (0,n,[])
def tupA (e:Int) (m:Node) (V:List Event):Int×Int×Int×Int×List Sess×Int×List Event×List Side×List Int:=(m.DK.DI.ID,m.DK.DI.PH,m.DK.TH,m.Book.Last,m.Book.Sess,e,V,m.DK.DI.SD,m.DK.Need)
theorem Z9l1 (n:Node) (a b c d:Int) (S:List Side) (N:List Int) (K:List KE) (T:List Int) (A:List KE):Z2t a b c d S N n.Book.Sess K T A=some (Zjh1 n):=by
 simp only [Z2t,ln_eq];unfold Zjh1;cases h:n.Book.Sess with
 | nil=>rfl
 | cons s l=>rw [DN (by simp;omega),Z1a1];rfl
theorem Zal1 (n:Node) (a b c d:Int) (S:List Side) (N:List Int) (K:List KE) (T:List Int) (A:List KE):Zht a b c d n.Book.Sess S N K T A=some (Zjh1 n):=by
 simp only [Zht,ln_eq];unfold Zjh1;cases h:n.Book.Sess with
 | nil=>rfl
 | cons s l=>rw [DN (by simp;omega),Z1a1];rfl
theorem Zbl1 (n:Node) (a:Do) (h:OkN n) (ha:a.Need.length≤1000):
  Ze71 a n.DK.DI.ID n.DK.DI.PH n.DK.TH n.Book.Last 0 n.DK.DI.SD n.DK.Need n.Book.Sess n.KN n.Told n.AK=some (tupA (Z8l1 n a).1 (Z8l1 n a).2.1 (Z8l1 n a).2.2):=by
 have hf:=h.few;have hb:=hf.bk;have hN:=hf.need;have hS:=hf.sides;have hp:=Zif1 n Z1f1;have h6:∀(x:Int) (B:List Sess) (e:Int) (K A:List KE) (T:List Int) (V:List Event),Zw61 n.DK.DI.ID n.DK.DI.PH n.DK.TH x B e n.DK.DI.SD n.DK.Need K T A V=some (n.DK.DI.ID,n.DK.DI.PH,0,n.DK.DI.SD,[]):=fun x B e K A T V=>Z2l1 n.DK h.dr (by omega) K A T V x B e;unfold Ze71 Z8l1;have eb:(⟨n.Book.Last,n.Book.Sess⟩:Book)=n.Book:=rfl;rw [eb];by_cases k0:a.Kind=0
 ·rw [DT k0,Z0a1,if_pos k0,Zgc1 n.Book a.ID a.Need hb (by omega),OB];dsimp only [Za71];rw [Zsk1,OB];by_cases e0:(Zfc1 n.Book a.ID a.Need).2=0
  ·rw [if_pos e0,e0,DT rfl,Zwk1];dsimp only;rw [DT rfl,Z0a1,Z5l1 n hf,OB,Zxb1 a.Need (Zze1 n Z1f1) (by omega) (by omega),OB,Zsk1,OB];dsimp only [Z971];cases hw:(a.Need.all fun z=>decide (z∈Zze1 n Z1f1)) with
   | true=>rw [Zwk1,DT rfl,Z0a1,Zgb1 a.Need (by omega),OB,Z6a1 _ _ (by omega) (by simp),OB];rfl
   | false=>rfl
  ·rw [if_neg e0,DN e0,Zxk1];dsimp only;rw [DN e0,Z1a1];rfl
 ·rw [DN k0,Z1a1,if_neg k0];by_cases k1:a.Kind=1
  ·rw [DT k1,Z0a1,if_pos k1,Zlc1 n.Book a.ID hb,OB,Z3l1,OB];by_cases e0:(endP n.Book a.ID 1).2=0
   ·rw [if_pos e0,if_pos e0];dsimp only;rw [Z0a1,Z4l1,OB,h6,OB];rfl
   ·rw [if_neg e0,if_neg e0];rfl
  ·rw [DN k1,Z1a1,if_neg k1];by_cases k2:a.Kind=2
   ·rw [DT k2,Z0a1,if_pos k2,Z9l1 n,OB,Zmc1 n.Book a.ID hb,OB,Z3l1,OB];by_cases e0:(endP n.Book a.ID 0).2=0
    ·rw [if_pos e0,if_pos e0];dsimp only;rw [Z0a1,Z4l1,OB];dsimp only [Zb71];rw [h6,OB];by_cases c1:(Zjh1 n).1.ID=a.ID
     ·rw [DT c1];by_cases c2:n.DK.TH=1
      ·rw [DT c2,if_pos ⟨c1,c2⟩];rfl
      ·rw [DN c2,if_neg fun c=>c2 c.2];rfl
     ·rw [DN c1,if_neg fun c=>c1 c.1];rfl
    ·rw [if_neg e0,if_neg e0];rfl
   ·rw [DN k2,Z1a1,if_neg k2];by_cases k3:a.Kind=3
    ·rw [DT k3,Z0a1,if_pos k3,Zqk1 n.Book a.Hold h.bk,OB];dsimp only [Zd71,Zc71];have:=Z3l1 ((Zpk1 n.Book a.Hold).1,0) n.DK.DI.ID n.DK.DI.PH n.DK.TH n.Book.Last n.Book.Sess n.DK.DI.SD n.DK.Need n.KN n.Told n.AK;dsimp only at this;rw [this,OB,if_pos rfl];dsimp only;rw [Z0a1];by_cases e0:(Zpk1 n.Book a.Hold).2=0
     ·rw [if_pos e0,DT e0];rfl
     ·rw [if_neg e0,DN e0,Bool.not_false,Z0a1,Z4l1,OB,h6,OB];rfl
    ·rw [DN k3,Z1a1,if_neg k3];rfl
theorem Zcl1 {α:Type} {S:List α} {j:Nat} {x:α} (h:S[j]?=some x) (y:α):S=S.take j++x::S.drop (j+1)∧S.set j y=S.take j++y::S.drop (j+1):=by
 obtain ⟨hj,hx⟩:=List.getElem?_eq_some_iff.1 h;have e1:S=S.take j++x::S.drop (j+1):=by rw [←hx];simp
 refine ⟨e1,?_⟩;have hl:(S.take j).length=j:=by simp;omega
 conv=>lhs;rw [e1]
 rw [List.set_append_right _ _ (by omega),hl,Nat.sub_self];rfl
theorem Zdl1 {S:List Side} (hu:S.Pairwise fun x y=>x.Peer<y.Peer) {j:Nat} {x:Side} (h:S[j]?=some x) (y:Side) {z:Side}:z∈S.set j y↔z=y∨z∈S∧z.Peer≠x.Peer:=by
 obtain ⟨e1,e2⟩:=Zcl1 h y;have hu':=hu;rw [e1,List.pairwise_append,List.pairwise_cons] at hu';obtain ⟨_,⟨u2,_⟩,u3⟩:=hu';rw [e2,List.mem_append,List.mem_cons];constructor
 ·rintro (hz | hz | hz)
  ·have:=u3 z hz x (by simp);exact .inr ⟨by rw [e1];simp [hz],by omega⟩
  ·exact .inl hz
  ·have:=u2 z hz;exact .inr ⟨by rw [e1];simp [hz],by omega⟩
 ·rintro (hz | ⟨hz,hn⟩)
  ·exact .inr (.inl hz)
  ·rw [e1,List.mem_append,List.mem_cons] at hz;rcases hz with hz | hz | hz
   ·exact .inl hz
   ·rw [hz] at hn;exact absurd rfl hn
   ·exact .inr (.inr hz)
theorem Zel1 {S:List Side} {j:Nat} {x y:Side} (h:S[j]?=some x) (hp:y.Peer=x.Peer):(S.set j y).map (·.Peer)=S.map (·.Peer):=by
 obtain ⟨e1,e2⟩:=Zcl1 h y;rw [e2]
 conv=>rhs;rw [e1]
 simp [hp]
theorem DrOK.state {d:DK} (h:DrOK d) {j:Nat} {x:Side} (hx:d.DI.SD[j]?=some x) {s:Int} (hs:0≤s∧s≤3):DrOK ⟨⟨d.DI.ID,d.DI.PH,d.DI.SD.set j {x with State:=s}⟩,d.TH,d.Need⟩:=by
 have h6:=h.din.up;have hm:=fun {z:Side}=>Zdl1 (z:=z) h6 hx {x with State:=s};have h8:=List.mem_of_getElem? hx;refine ⟨⟨h.din.id0,h.din.p0,h.din.p2,by rw [List.length_set];exact h.din.len,Zoh1 (Zel1 hx rfl) h6,fun z hz=>?_⟩,h.t0,h.t2,h.up,h.nz,fun p hp=>?_⟩
 ·rcases hm.1 hz with rfl | ⟨hz,_⟩
  ·have:=h.din.side x h8;exact ⟨this.lo,this.ne,this.e0,this.e1,hs.1,hs.2,this.df⟩
  ·exact h.din.side z hz
 ·obtain ⟨y,hy,e⟩:=h.has p hp;by_cases hq:y.Peer=x.Peer
  ·exact ⟨_,hm.2 (.inl rfl),by show x.Peer=p;omega⟩
  ·exact ⟨y,hm.2 (.inr ⟨hy,hq⟩),e⟩
def Zfl1 (n:Node) (p:Int):Bool:=(Zjh1 n).2&&(decide (n.DK.TH=1)&&decide ((Zjh1 n).1.ID∈Zgk1 p n.Book.Sess))
def Zgl1 (n:Node) (p:Int):Book:=⟨n.Book.Last,n.Book.Sess.filter fun s=>!Zfk1 p s⟩
def Zhl1 (n:Node) (j:Nat) (x:Side):DI:=⟨n.DK.DI.ID,n.DK.DI.PH,n.DK.DI.SD.set j {x with State:=2}⟩
def Zil1 (n:Node) (j:Nat) (x:Side):Node:=⟨if Zfl1 n x.Peer then ⟨Zhl1 n j x,0,[]⟩ else ⟨Zhl1 n j x,n.DK.TH,n.DK.Need⟩,Zgl1 n x.Peer,n.KN,n.Told,n.AK⟩
def Zjl1 (id:Int) (l:List Int):List Event:=l.map fun i=>⟨5,id,i,0,[]⟩
def Zkl1 (n:Node) (p:Int):List Event:=⟨7,n.DK.DI.ID,0,p,[]⟩::Zjl1 n.DK.DI.ID (Zgk1 p n.Book.Sess)
theorem Zll1 (n:Node) (h:OkN n) (p:Int) (j:Nat) (x:Side) (hp:Zyk1 n.DK.DI.SD p=some j) (hx:n.DK.DI.SD[j]?=some x) (h8:x.Peer=p) (e:Int):
  Zl71 p n.DK.DI.ID n.DK.DI.PH n.DK.TH n.Book.Last e n.DK.DI.SD n.DK.Need n.Book.Sess n.KN n.Told n.AK =
   some ((Zil1 n j x).DK.DI.ID,(Zil1 n j x).DK.DI.PH,(Zil1 n j x).DK.TH,(Zil1 n j x).Book.Last,(Zil1 n j x).Book.Sess,Zkl1 n p,(Zil1 n j x).DK.DI.SD,(Zil1 n j x).DK.Need):=by
 subst h8;have hf:=h.few;have hS:=hf.sides;have hN:=hf.need;have hB:=hf.book;have hg:=Zjk1 x.Peer n.Book.Sess;have h9:=h.dr.state hx (s:=2) (by omega);unfold Zl71;rw [Zzk1 _ _ (show _≤_ by dsimp only;omega),OB];dsimp only;rw [hp];dsimp only [plc];rw [Z4a1 hx,OB,Int.toNat_natCast];have hc:(⟨x.Peer,x.Epoch,2,x.Fork,x.DY,x.Token,x.BO,x.Ask⟩:Side)={x with State:=2}:=rfl;rw [hc];dsimp only [Zk71];have h6:∀(S:List Side),Zft 7 x.Peer n.DK.DI.ID n.DK.DI.PH n.DK.TH n.Book.Last e S n.DK.Need n.Book.Sess n.KN n.Told n.AK=some [⟨7,n.DK.DI.ID,0,x.Peer,[]⟩]:=fun S=>by simp only [Zft];rw [Z6a1 _ _ (by omega) (by simp),OB];rfl
 rw [h6,OB,show (⟨n.Book.Last,n.Book.Sess⟩:Book)=n.Book from rfl,Zmk1 n.Book x.Peer h.bk,OB,Zal1 n,OB];have j3:∀(d:DK),d.DI.ID=n.DK.DI.ID→Zi71 e n.KN n.Told n.AK [⟨7,n.DK.DI.ID,0,x.Peer,[]⟩] (⟨n.Book.Last,n.Book.Sess.filter fun s=>!Zfk1 x.Peer s⟩,Zgk1 x.Peer n.Book.Sess,0) (d.DI.ID,d.DI.PH,d.TH,d.DI.SD,d.Need) =
   some (d.DI.ID,d.DI.PH,d.TH,(Zgl1 n x.Peer).Last,(Zgl1 n x.Peer).Sess,Zkl1 n x.Peer,d.DI.SD,d.Need):=fun d hd=>by
  dsimp only [Zi71];refine Zoa1 (Zgk1 x.Peer n.Book.Sess) _ (fun pre=>((pre.length:Int),⟨7,n.DK.DI.ID,0,x.Peer,[]⟩::Zjl1 n.DK.DI.ID pre)) _ (fun pre y post h0=>?_) ?_
  ·have hy:=Zpa1 h0;have hm:=Zqa1 h0;have ho:(Zjl1 n.DK.DI.ID pre).length=pre.length:=by unfold Zjl1;rw [List.length_map]
   dsimp only [Zh71,Zjt];rw [Z7a1 hy,Z0a1,Z4a1 hy,OB,Z6a1 _ _ (by omega) (by simp;omega),OB,OB,Z9a1 (by omega),Zua1,hd];simp [Zjl1]
  ·dsimp only [Zh71,Zg71];rw [Z8a1,Z1a1];rfl
 have hn:∀(x':Int) (B:List Sess) (e:Int) (K A:List KE) (T:List Int) (V:List Event),Zw61 n.DK.DI.ID n.DK.DI.PH n.DK.TH x' B e (n.DK.DI.SD.set j {x with State:=2}) n.DK.Need K T A V=some (n.DK.DI.ID,n.DK.DI.PH,0,n.DK.DI.SD.set j {x with State:=2},[]):=fun x' B e K A T V=>Z2l1 _ h9 (by show n.DK.Need.length≤_;omega) K A T V x' B e;have j2:∀z,z=Zfl1 n x.Peer→Zj71 n.DK.DI.ID n.DK.DI.PH n.DK.TH n.Book.Last e n.DK.Need n.Book.Sess n.KN n.Told n.AK (n.DK.DI.SD.set j {x with State:=2}) [⟨7,n.DK.DI.ID,0,x.Peer,[]⟩] (⟨n.Book.Last,n.Book.Sess.filter fun s=>!Zfk1 x.Peer s⟩,Zgk1 x.Peer n.Book.Sess,0) z=some ((Zil1 n j x).DK.DI.ID,(Zil1 n j x).DK.DI.PH,(Zil1 n j x).DK.TH,(Zil1 n j x).Book.Last,(Zil1 n j x).Book.Sess,Zkl1 n x.Peer,(Zil1 n j x).DK.DI.SD,(Zil1 n j x).DK.Need):=fun z hz=>by
  dsimp only [Zj71];cases z with
  | true=>rw [Z0a1,hn,OB];have:=j3 ⟨Zhl1 n j x,0,[]⟩ rfl;refine Eq.trans this ?_;unfold Zil1;rw [←hz];rfl
  | false=>rw [Z1a1];have:=j3 ⟨Zhl1 n j x,n.DK.TH,n.DK.Need⟩ rfl;refine Eq.trans this ?_;unfold Zil1;rw [←hz];rfl
 unfold Zfl1 at j2;cases h1:(Zjh1 n).2 with
 | false=>rw [Z1a1];exact j2 false (by rw [h1];rfl)
 | true=>
   rw [Z0a1];by_cases h2:n.DK.TH=1
   ·rw [DT h2,Z0a1,Zlb1 _ _ (by dsimp only;omega),OB];exact j2 _ (by rw [h1,DT h2];rfl)
   ·rw [DN h2,Z1a1];exact j2 false (by rw [h1,DN h2];rfl)
theorem Zml1 {n:Node} {s:Sess} {l:List Sess} (h:n.Book.Sess=s::l):Zjh1 n=(s,true):=by unfold Zjh1;rw [h]
theorem OkN.shut {n:Node} (h:OkN n) {j:Nat} {x:Side} (hx:n.DK.DI.SD[j]?=some x) (h0:x.State=0):OkN (Zil1 n j x):=by
 have hw:=(Z8i1 _).1 h.bk;have h9:=List.mem_of_getElem? hx;have hA:=h.dr.state hx (s:=2) (by omega);have hm:∀ {z:Side},z∈(Zhl1 n j x).SD↔z={x with State:=2}∨z∈n.DK.DI.SD∧z.Peer≠x.Peer:=fun {z}=>Zdl1 (z:=z) h.rowS.up hx {x with State:=2};have h6:(Zil1 n j x).DK.DI=Zhl1 n j x:=by unfold Zil1;dsimp only;split<;>rfl
 have ho:∀p∈(Zil1 n j x).DK.Need,p∈n.DK.Need:=by
  unfold Zil1;dsimp only;split
  ·intro p hp;simp at hp
  ·exact fun p hp=>hp
 have hD:∀s∈n.Book.Sess,s.State=1→Zfk1 x.Peer s=false:=fun s _ e=>by unfold Zfk1;rw [DN (by omega)];rfl
 refine ⟨?_,(Z8i1 _).2 (hw.sub List.filter_sublist),fun k hk=>?_,h.dis,?_,h.kup,h.kr,fun z hz=>?_,h.told,fun p hp=>?_,?_,?_,fun z hz hn=>?_,fun s hs hd p hp=>?_⟩
 ·unfold Zil1;dsimp only;split
  ·exact ⟨hA.din,by show (0:Int)≤0;omega,by show (0:Int)≤2;omega,.nil,fun _=>rfl,by simp⟩
  ·exact hA
 ·have:=h.may k hk;rw [h6];exact ⟨fun z hz=>by
   rcases hm.1 hz with rfl | ⟨hz,_⟩
   ·exact this.1 x h9
   ·exact this.1 z hz,this.2⟩
 ·rw [h6];exact h.id
 ·rw [h6] at hz ⊢;rcases hm.1 hz with rfl | ⟨hz,_⟩
  ·have:=h.sd x h9;exact ⟨this.1,this.2.1,this.2.2.1,fun e=>by have e:(2:Int)=1∨(2:Int)=3:=e;omega⟩
  ·exact h.sd z hz
 ·obtain ⟨z,hz,e1,e⟩:=h.tin p hp;rw [h6];refine ⟨z,hm.2 (.inr ⟨hz,fun q=>?_⟩),e1,e⟩;have:=Zei1 h.rowS.up hz h9 q;subst this;omega
 ·rw [Z0j1];constructor
  ·intro e;have h2:n.DK.TH=2:=by
    unfold Zil1 at e;dsimp only at e;split at e
    ·have e:(0:Int)=2:=e;omega
    ·exact e
   obtain ⟨s,l,hb,h8,_⟩:=h.drinks h2;refine ⟨s,l.filter fun s=>!Zfk1 x.Peer s,?_,h8⟩;show (n.Book.Sess.filter _)=_;rw [hb,List.filter_cons,hD s (by rw [hb];simp) h8];simp
  ·rintro ⟨s,l,hb,h8⟩;have hb:n.Book.Sess.filter (fun s=>!Zfk1 x.Peer s)=s::l:=hb;have hsm:s∈n.Book.Sess:=(List.mem_filter.1 (by rw [hb];simp)).1;cases hB:n.Book.Sess with
   | nil=>rw [hB] at hsm;simp at hsm
   | cons t r=>
     have hC:=hw.tl;rw [hB] at hC hsm;rcases List.mem_cons.1 hsm with rfl | hsm
     ·have h2:=h.th.2 ((Z0j1 n).2 ⟨s,r,hB,h8⟩);unfold Zil1 Zfl1;dsimp only;rw [DN (show ¬n.DK.TH=1 by omega)];simp [h2]
     ·have:=hC s hsm;omega
 ·cases hc:Zfl1 n x.Peer with
  | true=>left;unfold Zil1;dsimp only;rw [hc];rfl
  | false=>
    rcases h.hq with q | q
    ·left;unfold Zil1;dsimp only;rw [hc];exact q
    ·by_cases hz:n.DK.TH=0
     ·left;unfold Zil1;dsimp only;rw [hc];exact hz
     ·right;obtain ⟨s,l,hb,hn⟩:=(Zzi1 n).1 q;have hsm:s∈n.Book.Sess:=by rw [hb];simp
      have hg:Zfk1 x.Peer s=false:=by
       cases hg:Zfk1 x.Peer s with
       | false=>rfl
       | true=>
         exfalso;have hd:s.State=0:=by unfold Zfk1 at hg;rw [Bool.and_eq_true,decide_eq_true_eq] at hg;exact hg.1
         have ht:n.DK.TH=1:=by
          have:=h.dr.t0;have:=h.dr.t2;by_cases e2:n.DK.TH=2
          ·obtain ⟨s',l',hb',hs',_⟩:=h.drinks e2;rw [hb] at hb';simp only [List.cons.injEq] at hb';rw [←hb'.1] at hs';omega
          ·omega
         unfold Zfl1 at hc;rw [Zml1 hb,DT ht,DT (show (s,true).1.ID∈Zgk1 x.Peer n.Book.Sess from List.mem_map.2 ⟨s,List.mem_filter.2 ⟨hsm,hg⟩,rfl⟩)] at hc;simp at hc
      rw [Zzi1];refine ⟨s,l.filter fun s=>!Zfk1 x.Peer s,?_,?_⟩
      ·show (n.Book.Sess.filter _)=_;rw [hb,List.filter_cons,hg];simp
      ·unfold Zil1;dsimp only;rw [hc];exact hn
 ·rw [h6] at hz;rcases hm.1 hz with rfl | ⟨hz,_⟩
  ·show (2:Int)≠3;omega
  ·exact h.nl z hz (ho _ hn)
 ·have hs:s∈n.Book.Sess.filter fun s=>!Zfk1 x.Peer s:=hs;obtain ⟨h8,hf⟩:=List.mem_filter.1 hs;obtain ⟨y,hy,e0,e⟩:=h.wt s h8 hd p hp;rw [h6];refine ⟨y,hm.2 (.inr ⟨hy,fun q=>?_⟩),e0,e⟩;unfold Zfk1 at hf;rw [DT hd,DT (show x.Peer∈s.Need by rw [←q,e];exact hp)] at hf;simp at hf
def Znl1:Node:=⟨⟨⟨0,0,[]⟩,0,[]⟩,⟨0,[]⟩,[],[],[]⟩
def outA (e:Int) (m:Node) (V:List Event):Node×List Mail×List Event×Int:=if e=0 then ((Z8k1 m [] V).1,(Z8k1 m [] V).2.1,(Z8k1 m [] V).2.2,0) else (Znl1,[],[],e)
def addS (n:Node) (p:Int):Side:=⟨p,Z5f1 n.KN p+1,1,true,true,false,true,false⟩
def actN (n:Node) (a:Do):Int×Node×List Event:=
 if a.Kind=0∨a.Kind=1∨a.Kind=2∨a.Kind=3 then Z8l1 n a
 else if a.Kind=4 then
  (if n.DK.DI.ID<a.Peer∧a.Peer<64 then (match Zyk1 n.DK.DI.SD a.Peer with
    | some _=>(183,n,[])
    | none=>if Z5f1 n.KN a.Peer<65535 then (0,putN n (addS n a.Peer) n.AK,[]) else (186,n,[])) else (182,n,[]))
 else if a.Kind=5 then
  (if n.DK.DI.ID<a.Peer∧a.Peer<64 then (match Zyk1 n.DK.DI.SD a.Peer with
    | none=>(184,n,[])
    | some j=>match n.DK.DI.SD[j]? with
      | none=>(184,n,[])
      | some x=>if x.State=0 then (0,Zil1 n j x,Zkl1 n a.Peer) else (185,n,[])) else (182,n,[]))
 else (188,n,[])
theorem Zol1 (m:Node) (V:List Event) (e:Int) (x3:List Side×List Int×List KE×List Int×List KE×List Sess) (J:x3.2.2.2.1=m.Told) (E:x3.2.2.2.2.1=m.AK) (h:e=0→OkN m) (U:V.length≤100000):
  Zt81 x3 (m.DK.DI.ID,m.DK.DI.PH,m.DK.TH,m.Book.Last,m.Book.Sess,e,m.DK.DI.SD,m.DK.Need,m.KN,V)=some (outA e m V):=by
 dsimp only [Zt81];rw [J,E];unfold outA;by_cases he:e=0
 ·subst he;rw [Zdk1 m (h rfl) V U,OB,if_pos rfl];rfl
 ·rw [Zek1 _ _ _ _ e _ he,OB,if_neg he];rfl
theorem OkN.book {n:Node} (h:OkN n) {b:Book} (hb:BkOK b) (hg:n.DK.TH=2↔∃s l,b.Sess=s::l∧s.State=1) (hq:n.DK.TH=0∨∃s l,b.Sess=s::l∧s.Need=n.DK.Need)
  (E:∀s∈b.Sess,s.State=0→∀p∈s.Need,∃x∈n.DK.DI.SD,x.State=0∧x.Peer=p):OkN (Z6l1 n b):=
 {h with bk:=(Z8i1 _).2 hb,th:=by rw [Z0j1];exact hg,hq:=by rw [Zzi1];exact hq,wt:=E}
theorem OkN.calm {n:Node} (h:OkN n) {b:Book} (hb:BkOK b) (h0:∀s∈b.Sess,s.State=0) (E:∀s∈b.Sess,s.State=0→∀p∈s.Need,∃x∈n.DK.DI.SD,x.State=0∧x.Peer=p):OkN (Z7l1 n b):=
 {h with
  dr:=⟨h.dr.din,by show (0:Int)≤0;omega,by show (0:Int)≤2;omega,.nil,fun _=>rfl,fun p hp=>by have:p∈([]:List Int):=hp;simp at this⟩
  bk:=(Z8i1 _).2 hb
  th:=by
   rw [Z0j1];constructor
   ·intro e;have:(0:Int)=2:=e;omega
   ·rintro ⟨s,l,e,hs⟩;have e:b.Sess=s::l:=e;have:=h0 s (by rw [e];simp);omega
  hq:=.inl rfl
  nl:=fun x _ hx=>by have:x.Peer∈([]:List Int):=hx;simp at this
  wt:=E}
theorem Zpl1 {b:Book} {id w:Int} (h:(endP b id w).2=0):∃i s,b.Sess[i]?=some s∧s.ID=id∧s.State=w∧(endP b id w).1=⟨b.Last,b.Sess.take i++b.Sess.drop (i+1)⟩:=by
 unfold endP at h ⊢;split at h
 ·rename_i hk;rw [if_pos hk];cases hf:Zcc1 b id with
  | none=>rw [hf] at h;simp at h
  | some i=>
    obtain ⟨s,hs,h6⟩:=Zjc1 hf;rw [hf] at h;dsimp only at h ⊢;rw [hs] at h;dsimp only at h;rw [hs];split at h
    ·rename_i hw;exact ⟨i,s,hs,h6,hw,by dsimp only;rw [if_pos hw]⟩
    ·simp at h
 ·simp at h
theorem Zql1 {α:Type} {l:List α} {i:Nat} {x:α} (h:x∈l.take i++l.drop (i+1)):x∈l:=(Znk1 l i).subset h
structure EvOK (id:Int) (v:Event):Prop where
 node:v.Node=id
 edge:6≤v.Kind→v.ID=0
 sess:v.Kind<6→v.Peer=0
 need:v.Kind≠0→v.Need=[]
theorem Zrl1 {n:Node} {a:Do} (h:OkN n) (he:(Z8l1 n a).1=0):OkN (Z8l1 n a).2.1∧(Z8l1 n a).2.1.DK.DI=n.DK.DI∧(Z8l1 n a).2.1.Told=n.Told∧(Z8l1 n a).2.1.AK=n.AK∧(Z8l1 n a).2.1.KN=n.KN∧(∀v∈(Z8l1 n a).2.2,EvOK n.DK.DI.ID v∧v.Kind≠1)∧(Z8l1 n a).2.2.length≤1:=by
 have h6:=(Z8i1 _).1 h.bk;have hf:n.DK.TH≠2→∀s∈n.Book.Sess,s.State=0:=fun h2 s hs=>by
  cases hb:n.Book.Sess with
  | nil=>rw [hb] at hs;simp at hs
  | cons t r=>
    have h8:=h6.tl;rw [hb] at h8 hs;rcases List.mem_cons.1 hs with rfl | hs
    ·rcases Zfi1 h6 hb with e | e
     ·exact absurd (h.th.2 ((Z0j1 n).2 ⟨s,r,hb,e⟩)) h2
     ·exact e
    ·exact h8 s hs
 revert he;unfold Z8l1;split
 ·split
  ·rename_i k0 e0;split
   ·rename_i hw;intro _;refine ⟨?_,rfl,rfl,rfl,rfl,?_,by simp⟩
    ·have hC:n.Book.Last<a.ID∧Zzb1 (setL a.Need)=true∧n.Book.Sess.length≠8∧Zfc1 n.Book a.ID a.Need=(⟨a.ID,n.Book.Sess++[⟨a.ID,setL a.Need,0,0⟩]⟩,0):=by
      unfold Zfc1 at e0 ⊢;rw [if_pos h.bk] at e0 ⊢;by_cases c1:a.ID≤n.Book.Last
      ·rw [if_pos c1] at e0;simp at e0
      ·rw [if_neg c1] at e0 ⊢;cases c2:Zzb1 (setL a.Need) with
       | false=>rw [c2] at e0;simp at e0
       | true=>
         rw [c2,if_pos rfl] at e0;rw [if_pos rfl];by_cases c3:n.Book.Sess.length=8
         ·rw [if_pos c3] at e0;simp at e0
         ·rw [if_neg c3];exact ⟨by omega,rfl,c3,rfl⟩
     obtain ⟨o1,o2,o3,o4⟩:=hC;have ho:=Zob1 a.Need;have hI:=h6.last;have hJ:=h6.len;rw [o4];refine h.book ⟨by show 0≤a.ID;omega,by show (n.Book.Sess++[_]).length≤8;rw [Zua1];omega,?_,fun s hs=>?_,fun s hs=>?_⟩ ?_ ?_ fun s hs hD p hp=>?_
     ·show (n.Book.Sess++[_]).Pairwise _;rw [List.pairwise_append];refine ⟨h6.up,by simp,fun s hs t ht=>?_⟩;simp at ht;subst ht;have:=(h6.ok s hs).hi;show s.ID<a.ID;omega
     ·have hs:s∈n.Book.Sess++[⟨a.ID,setL a.Need,0,0⟩]:=hs;rcases List.mem_append.1 hs with hs | hs
      ·have:=h6.ok s hs;exact {this with hi:=by have:=this.hi;show s.ID≤a.ID;omega}
      ·simp at hs;subst hs;exact ⟨by show 0<a.ID;omega,by show a.ID≤a.ID;omega,o2,ho.1,by show (0:Int)≤0;omega,.inr ⟨rfl,rfl⟩⟩
     ·have hs:s∈(n.Book.Sess++[(⟨a.ID,setL a.Need,0,0⟩:Sess)]).tail:=hs;cases hb:n.Book.Sess with
      | nil=>rw [hb] at hs;simp at hs
      | cons t r=>
        have h8:=h6.tl;rw [hb] at h8 hs;have hs:s∈r++[⟨a.ID,setL a.Need,0,0⟩]:=hs;rcases List.mem_append.1 hs with hs | hs
        ·exact h8 s hs
        ·simp at hs;subst hs;rfl
     ·rw [h.th,Z0j1];show (∃s l,n.Book.Sess=s::l∧s.State=1)↔∃s l,n.Book.Sess++[⟨a.ID,setL a.Need,0,0⟩]=s::l∧s.State=1;cases hb:n.Book.Sess with
      | nil=>simp
      | cons t r=>simp
     ·rcases h.hq with q | q
      ·exact .inl q
      ·right;obtain ⟨s,l,hb,hn⟩:=(Zzi1 n).1 q;exact ⟨s,l++[⟨a.ID,setL a.Need,0,0⟩],by show n.Book.Sess++_=_;rw [hb];rfl,hn⟩
     ·have hs:s∈n.Book.Sess++[⟨a.ID,setL a.Need,0,0⟩]:=hs;rcases List.mem_append.1 hs with hs | hs
      ·exact h.wt s hs hD p hp
      ·simp at hs;subst hs;have:=List.all_eq_true.1 hw p ((ho.2 p).1 hp);rw [decide_eq_true_eq,Z4i1] at this;obtain ⟨x,hx,hl,e⟩:=this;exact ⟨x,hx,by simpa [Z1f1] using hl,e⟩
    ·intro v hv;simp at hv;subst hv;exact ⟨⟨rfl,fun q=>by have q:(6:Int)≤0:=q;omega,fun _=>rfl,fun q=>absurd rfl q⟩,by show (0:Int)≠1;omega⟩
   ·intro he;simp at he
  ·rename_i e0;exact fun he=>absurd he e0
 ·split
  ·split
   ·rename_i e0;intro _;obtain ⟨i,s,hs,hA,hE,eb⟩:=Zpl1 e0;refine ⟨?_,rfl,rfl,rfl,rfl,?_,by simp⟩
    ·rw [eb];have hz:∀t∈n.Book.Sess.take i++n.Book.Sess.drop (i+1),t.State=0:=by
      intro t ht;cases hb:n.Book.Sess with
      | nil=>rw [hb] at hs;simp at hs
      | cons u r=>
        have h8:=h6.tl;rw [hb] at h8 hs ht;cases i with
        | zero=>exact h8 t (by simpa using ht)
        | succ i=>have:s∈r:=List.mem_of_getElem? (by simpa using hs);have:=h8 s this;omega
     exact h.calm (h6.sub (Znk1 _ _)) hz fun t ht h0 p hp=>h.wt t (Zql1 ht) h0 p hp
    ·intro v hv;simp at hv;subst hv;exact ⟨⟨rfl,fun q=>by have q:(6:Int)≤2:=q;omega,fun _=>rfl,fun _=>rfl⟩,by show (2:Int)≠1;omega⟩
   ·rename_i e0;exact fun he=>absurd he e0
  ·split
   ·split
    ·rename_i e0;intro _;obtain ⟨i,s,hs,hA,hE,eb⟩:=Zpl1 e0;have hB:∀v∈ [(⟨3,n.DK.DI.ID,a.ID,0,[]⟩:Event)],EvOK n.DK.DI.ID v∧v.Kind≠1:=fun v hv=>by simp at hv;subst hv;exact ⟨⟨rfl,fun q=>by have q:(6:Int)≤3:=q;omega,fun _=>rfl,fun _=>rfl⟩,by show (3:Int)≠1;omega⟩
     have hw:∀t∈n.Book.Sess.take i++n.Book.Sess.drop (i+1),t.State=0→∀p∈t.Need,∃x∈n.DK.DI.SD,x.State=0∧x.Peer=p:=fun t ht h0 p hp=>h.wt t (Zql1 ht) h0 p hp;split
     ·rename_i hc;refine ⟨?_,rfl,rfl,rfl,rfl,hB,by simp⟩;rw [eb];exact h.calm (h6.sub (Znk1 _ _)) (fun t ht=>hf (by omega) t (Zql1 ht)) hw
     ·rename_i hc;refine ⟨?_,rfl,rfl,rfl,rfl,hB,by simp⟩;rw [eb];have hd:n.DK.TH≠0→∃t r,n.Book.Sess=t::r∧t.Need=n.DK.Need∧∃r',n.Book.Sess.take i++n.Book.Sess.drop (i+1)=t::r':=fun hz=>by
       obtain ⟨t,r,hb,hn⟩:=(Zzi1 n).1 (by rcases h.hq with q | q;exact absurd q hz;exact q);refine ⟨t,r,hb,hn,?_⟩;cases i with
       | succ i=>rw [hb];exact ⟨_,rfl⟩
       | zero=>
         exfalso;rw [hb] at hs;simp at hs;subst hs;have h0:=h.dr.t0;have h2:=h.dr.t2;by_cases e1:n.DK.TH=1
         ·exact hc ⟨by rw [Zml1 hb];exact hA,e1⟩
         ·obtain ⟨t',r',hb',hs',_⟩:=h.drinks (by omega);rw [hb] at hb';simp only [List.cons.injEq] at hb';rw [←hb'.1] at hs';omega
      refine h.book (h6.sub (Znk1 n.Book.Sess i)) ?_ ?_ hw
      ·constructor
       ·intro h2;obtain ⟨t,r,hb,_,r',e⟩:=hd (by omega);obtain ⟨t',r2,hb',hs',_⟩:=h.drinks h2;rw [hb] at hb';simp only [List.cons.injEq] at hb';exact ⟨t,r',e,by rw [hb'.1];exact hs'⟩
       ·rintro ⟨t,r',e,ht⟩;have hG:t∈n.Book.Sess:=Zql1 (i:=i) (by rw [show n.Book.Sess.take i++n.Book.Sess.drop (i+1)=t::r' from e];simp);by_cases h2:n.DK.TH=2
        ·exact h2
        ·have:=hf h2 t hG;omega
      ·by_cases hz:n.DK.TH=0
       ·exact .inl hz
       ·obtain ⟨t,r,hb,hn,r',e⟩:=hd hz;exact .inr ⟨t,r',e,hn⟩
    ·rename_i e0;exact fun he=>absurd he e0
   ·split
    ·have h9:=h6.tick a.Hold;split
     ·rename_i e0;intro _;refine ⟨?_,rfl,rfl,rfl,rfl,by simp,by simp⟩;unfold Zpk1 at e0 h9 ⊢;cases hb:n.Book.Sess with
      | nil=>exact h
      | cons s l=>
        rw [hb] at e0 h9;dsimp only at e0 h9 ⊢;by_cases h1:s.State=1
        ·rw [if_pos h1] at e0 h9 ⊢;by_cases hh:(Zok1 s).Age<a.Hold
         ·rw [if_pos hh] at h9 ⊢;refine h.book h9 ?_ ?_ fun t ht h0 p hp=>?_
          ·constructor
           ·intro _;exact ⟨Zok1 s,l,rfl,h1⟩
           ·intro _;exact h.th.2 ((Z0j1 n).2 ⟨s,l,hb,h1⟩)
          ·rcases h.hq with q | q
           ·exact .inl q
           ·obtain ⟨t,r,hb',hn⟩:=(Zzi1 n).1 q;rw [hb] at hb';simp only [List.cons.injEq] at hb';exact .inr ⟨Zok1 s,l,rfl,by rw [←hn,←hb'.1];rfl⟩
          ·have ht:t∈Zok1 s::l:=ht;rcases List.mem_cons.1 ht with rfl | ht
           ·have h0:s.State=0:=h0;omega
           ·exact h.wt t (by rw [hb];exact List.mem_cons_of_mem _ ht) h0 p hp
         ·rw [if_neg hh] at e0;have:=(h6.ok s (by rw [hb];simp)).lo;have e0:s.ID=0:=e0;omega
        ·rw [if_neg h1];exact h
     ·rename_i e0;intro _;refine ⟨?_,rfl,rfl,rfl,rfl,?_,by simp⟩
      ·unfold Zpk1 at e0 h9 ⊢;cases hb:n.Book.Sess with
       | nil=>rw [hb] at e0;exact absurd rfl e0
       | cons s l=>
         rw [hb] at e0 h9;dsimp only at e0 h9 ⊢;by_cases h1:s.State=1
         ·rw [if_pos h1] at e0 h9 ⊢;by_cases hh:(Zok1 s).Age<a.Hold
          ·rw [if_pos hh] at e0;exact absurd rfl e0
          ·rw [if_neg hh] at h9 ⊢;have h8:=h6.tl;rw [hb] at h8;exact h.calm h9 (fun t ht=>h8 t ht) fun t ht h0 p hp=>h.wt t (by rw [hb];exact List.mem_cons_of_mem _ ht) h0 p hp
         ·rw [if_neg h1] at e0;exact absurd rfl e0
      ·intro v hv;simp at hv;subst hv;exact ⟨⟨rfl,fun q=>by have q:(6:Int)≤4:=q;omega,fun _=>rfl,fun _=>rfl⟩,by show (4:Int)≠1;omega⟩
    ·intro _;exact ⟨h,rfl,rfl,rfl,rfl,by simp,by simp⟩
def ownT (n:Node):List Side×List Int×List KE×List Int×List KE×List Sess:=(n.DK.DI.SD,n.DK.Need,n.KN,n.Told,n.AK,n.Book.Sess)
def k03 (a:Do):Bool:=decide (a.Kind=0∨a.Kind=1∨a.Kind=2∨a.Kind=3)
theorem Zsl1 (n:Node) (a:Do) (E:FewN n):Zy81 n a=Zx81 n a (ownT n) (if okN n then 0 else 180) (plc (Zyk1 n.DK.DI.SD a.Peer)) (Z5f1 n.KN a.Peer) (k03 a):=by
 have hS:=E.sides;unfold Zy81;rw [Zgj1 n E,OB,Zsf1 n E,OB,Zzk1 _ _ (show _≤_ by dsimp only;omega),OB,Z6f1 n E,OB];unfold k03 ownT;by_cases c0:a.Kind=0
 ·simp [c0,ifb]
 ·by_cases c1:a.Kind=1
  ·simp [c1,ifb]
  ·by_cases c2:a.Kind=2
   ·simp [c2,ifb]
   ·by_cases c3:a.Kind=3
    ·simp [c3,ifb]
    ·simp [c0,c1,c2,c3,ifb]
theorem Ztl1 {n:Node} {a:Do} (h:OkN n) (he:(actN n a).1=0):OkN (actN n a).2.1∧(actN n a).2.1.DK.DI.ID=n.DK.DI.ID∧(actN n a).2.1.Told=n.Told∧(actN n a).2.1.AK=n.AK∧(∀v∈(actN n a).2.2,EvOK n.DK.DI.ID v∧v.Kind≠1)∧(actN n a).2.2.length≤1000:=by
 revert he;unfold actN;split
 ·intro he;obtain ⟨h1,h2,h3,h4,h5,h6,h7⟩:=Zrl1 h he;exact ⟨h1,by rw [h2],h3,h4,h6,by omega⟩
 ·split
  ·split
   ·rename_i hp;cases h8:Zyk1 n.DK.DI.SD a.Peer with
    | some j=>intro he;simp at he
    | none=>
      dsimp only;split
      ·rename_i hq;intro _;have h0:=Zdi1 h.kup (fun k hk=>(h.kr k hk).2.2) a.Peer;have hc:=h.dr.din.id0;refine ⟨h.put (x:=addS n a.Peer) ⟨by show 0≤a.Peer;omega,hp.2,by show a.Peer≠_;omega⟩ (Z1l1 h8) ⟨by show 1≤Z5f1 n.KN a.Peer+1;omega,by show Z5f1 n.KN a.Peer+1≤65535;omega⟩ (.inr ⟨rfl,by show n.DK.DI.ID≤a.Peer;omega⟩) (fun _=>rfl) (fun k hk=>⟨hk,by have:=h.may k hk;show k.Peer≠a.Peer;omega⟩) h.dis,rfl,rfl,rfl,by simp,by simp⟩
      ·intro he;simp at he
   ·intro he;simp at he
  ·split
   ·split
    ·cases h8:Zyk1 n.DK.DI.SD a.Peer with
     | none=>intro he;simp at he
     | some j=>
       dsimp only;obtain ⟨x,hx,hd⟩:=Z0l1 h8;rw [hx];dsimp only;split
       ·rename_i h0;intro _;have hg:=Zjk1 a.Peer n.Book.Sess;have hb:=((Z8i1 _).1 h.bk).len;have h9:(Zil1 n j x).DK.DI.ID=n.DK.DI.ID:=by unfold Zil1;dsimp only;split<;>rfl
        refine ⟨h.shut hx h0,h9,rfl,rfl,fun v hv=>?_,by unfold Zkl1 Zjl1;simp only [List.length_cons,List.length_map];omega⟩;rcases List.mem_cons.1 hv with rfl | hv
        ·exact ⟨⟨rfl,fun _=>rfl,fun q=>by have q:(7:Int)<6:=q;omega,fun _=>rfl⟩,by show (7:Int)≠1;omega⟩
        ·obtain ⟨i,_,rfl⟩:=List.mem_map.1 hv;exact ⟨⟨rfl,fun q=>by have q:(6:Int)≤5:=q;omega,fun _=>rfl,fun _=>rfl⟩,by show (5:Int)≠1;omega⟩
       ·intro he;simp at he
    ·intro he;simp at he
   ·intro he;simp at he
theorem s_Act (n:Node) (a:Do) (h:OkN n) (ha:a.Need.length≤1000):Zy81 n a=some (outA (actN n a).1 (actN n a).2.1 (actN n a).2.2):=by
 have hf:=h.few;have hok:=fun he=>Ztl1 (a:=a) h he;have bad:∀e:Int,e≠0→Zt81 (ownT n) (n.DK.DI.ID,n.DK.DI.PH,n.DK.TH,n.Book.Last,n.Book.Sess,e,n.DK.DI.SD,n.DK.Need,n.KN,[])=some (outA e n []):=fun e he=>Zol1 n [] e (ownT n) rfl rfl (fun q=>absurd q he) (by simp);have n2:∀(is:Bool) (c e:Int),Z6t is c n.DK.DI.ID n.DK.DI.PH n.DK.TH n.Book.Last e (ownT n).1 (ownT n).2.1 (ownT n).2.2.2.2.2 (ownT n).2.2.1 (ownT n).2.2.2.1 (ownT n).2.2.2.2.1=some (decide (Zrk1 is c e=0),Zrk1 is c e):=fun is c e=>Ztk1 _ _ _ _ _ _ _ _ _ _ _ _ _;have n3:∀c e,Zat c n.DK.DI.ID n.DK.DI.PH n.DK.TH n.Book.Last e (ownT n).1 (ownT n).2.1 (ownT n).2.2.2.2.2 (ownT n).2.2.1 (ownT n).2.2.2.1 (ownT n).2.2.2.2.1=some (decide (Zrk1 false c e=0),Zrk1 false c e):=fun c e=>Zuk1 _ _ _ _ _ _ _ _ _ _ _ _;rw [Zsl1 n a hf,(Z6i1 n).2 h,if_pos rfl];dsimp only [Zx81];unfold k03;by_cases hk:a.Kind=0∨a.Kind=1∨a.Kind=2∨a.Kind=3
 ·have eA:actN n a=Z8l1 n a:=by unfold actN;rw [if_pos hk]
  rw [eA] at hok ⊢;rw [DT hk,Z0a1,DT rfl,Z0a1];have hs:=Zbl1 n a h ha;have hs:Ze71 a n.DK.DI.ID n.DK.DI.PH n.DK.TH n.Book.Last 0 (ownT n).1 (ownT n).2.1 (ownT n).2.2.2.2.2 (ownT n).2.2.1 (ownT n).2.2.2.1 (ownT n).2.2.2.2.1=_:=hs;rw [hs,OB];by_cases he:(Z8l1 n a).1=0
  ·obtain ⟨h1,_,h3,h4,h5,h6⟩:=hok he;obtain ⟨_,_,_,_,q5,_⟩:=Zrl1 h he;have:=Zol1 (Z8l1 n a).2.1 (Z8l1 n a).2.2 (Z8l1 n a).1 (ownT n) h3.symm h4.symm (fun _=>h1) (by omega);rw [q5] at this;exact this
  ·have e:(Z8l1 n a).2.1=n∧(Z8l1 n a).2.2=[]:=by
    revert he;unfold Z8l1;split
    ·split
     ·split
      ·intro he;exact absurd rfl he
      ·intro _;exact ⟨rfl,rfl⟩
     ·intro _;exact ⟨rfl,rfl⟩
    ·split
     ·split
      ·intro he;exact absurd rfl he
      ·intro _;exact ⟨rfl,rfl⟩
     ·split
      ·split
       ·intro he;exact absurd rfl he
       ·intro _;exact ⟨rfl,rfl⟩
      ·split
       ·split
        ·intro he;exact absurd rfl he
        ·intro he;exact absurd rfl he
       ·intro he;exact absurd rfl he
   have:=bad (Z8l1 n a).1 he;rw [e.1,e.2];exact this
 ·rw [DN hk,Z1a1];unfold actN;rw [if_neg hk];by_cases k4:a.Kind=4
  ·rw [DT k4,Z0a1,if_pos k4];have j3b:∀e:Int,e≠0→Zu81 n a (ownT n) (plc (Zyk1 n.DK.DI.SD a.Peer)) (Z5f1 n.KN a.Peer) e=some (outA e n []):=fun e he=>by dsimp only [Zu81];rw [n2,OB,Zvk1 _ he,n2,OB,Zvk1 _ he,DN he];exact bad e he
   by_cases c1:n.DK.DI.ID<a.Peer
   ·rw [DT c1,Z0a1,n2,OB];by_cases c2:a.Peer<64
    ·rw [DT c2,Zwk1,if_pos ⟨c1,c2⟩];dsimp only [Zu81];rw [n2,OB];cases h8:Zyk1 n.DK.DI.SD a.Peer with
     | some j=>rw [show plc (some j)=(j:Int) from rfl,DN (show ¬(j:Int)<0 by omega),Zxk1];dsimp only;rw [n2,OB,Zvk1 _ (by omega)];exact bad 183 (by omega)
     | none=>
       rw [show plc none = -1 from rfl,DT (show (-1:Int)<0 by omega),Zwk1];dsimp only;rw [n2,OB];by_cases c3:Z5f1 n.KN a.Peer<65535
       ·have eA:actN n a=(0,putN n (addS n a.Peer) n.AK,[]):=by unfold actN;rw [if_neg hk,if_pos k4,if_pos ⟨c1,c2⟩,h8];dsimp only;rw [if_pos c3]
        rw [if_pos c3];rw [DT c3,Zwk1,DT rfl,Z0a1];have h0:=Zdi1 h.kup (fun k hk=>(h.kr k hk).2.2) a.Peer;have hc:Z451 (addS n a.Peer) n.DK.DI.ID n.DK.DI.PH n.DK.TH n.Book.Last 0 (ownT n).1 (ownT n).2.1 (ownT n).2.2.2.2.2 (ownT n).2.2.1 (ownT n).2.2.2.1 (ownT n).2.2.2.2.1=some (putS n.DK.DI.SD (addS n a.Peer),Zyf1 n.KN (addS n a.Peer).Peer (addS n a.Peer).Epoch):=Z3g1 (addS n a.Peer) _ _ _ _ _ _ _ _ _ _ _ h.rowS h.rowK (by have:=h.dr.din.id0;show -100000≤a.Peer∧a.Peer≤100000;omega);rw [show (⟨a.Peer,wr (Z5f1 n.KN a.Peer+1),1,true,true,false,true,false⟩:Side)=addS n a.Peer by unfold addS;rw [Z3a1 (by omega) (by omega)],hc,OB];obtain ⟨h1,_,h3,h4,h5,h6⟩:=hok (by rw [eA]);rw [eA] at h1;exact Zol1 (putN n (addS n a.Peer) n.AK) [] 0 (ownT n) rfl rfl (fun _=>h1) (by simp)
       ·rw [if_neg c3,DN c3,Zxk1];dsimp only;rw [DN (show ¬(186:Int)=0 by omega),Z1a1];exact bad 186 (by omega)
    ·rw [DN c2,Zxk1,if_neg fun q=>c2 q.2];exact j3b 182 (by omega)
   ·rw [DN c1,Z1a1,n3,OB,Zxk1,if_neg fun q=>c1 q.1];exact j3b 182 (by omega)
  ·rw [DN k4,Z1a1,if_neg k4];by_cases k5:a.Kind=5
   ·rw [DT k5,Z0a1,if_pos k5];have j4b:∀e:Int,e≠0→Zw81 n a (ownT n) (plc (Zyk1 n.DK.DI.SD a.Peer)) e=some (outA e n []):=fun e he=>by dsimp only [Zw81];rw [n2,OB,Zvk1 _ he,DN he];exact bad e he
    by_cases c1:n.DK.DI.ID<a.Peer
    ·rw [DT c1,Z0a1,n2,OB];by_cases c2:a.Peer<64
     ·rw [DT c2,Zwk1,if_pos ⟨c1,c2⟩];dsimp only [Zw81];rw [n2,OB];cases h8:Zyk1 n.DK.DI.SD a.Peer with
      | none=>rw [show plc none = -1 from rfl,DN (show ¬(0:Int)≤ -1 by omega),Zxk1];exact bad 184 (by omega)
      | some j=>
        obtain ⟨x,hx,hd⟩:=Z0l1 h8;rw [show plc (some j)=(j:Int) from rfl,DT (show (0:Int)≤j by omega),Zwk1];dsimp only;rw [DT rfl,Z0a1,show (ownT n).1=n.DK.DI.SD from rfl,Z4a1 hx,OB,hx];dsimp only;have hn:Zzm x=some (decide (x.State=0)):=rfl;rw [hn,OB,Ztk1,OB];dsimp only [Zv81];by_cases h0:x.State=0
        ·rw [if_pos h0,DT h0,Zwk1,DT rfl,Z0a1];have h9:=Zll1 n h a.Peer j x h8 hx hd 0;have h9:Zl71 a.Peer n.DK.DI.ID n.DK.DI.PH n.DK.TH n.Book.Last 0 (ownT n).1 (ownT n).2.1 (ownT n).2.2.2.2.2 (ownT n).2.2.1 (ownT n).2.2.2.1 (ownT n).2.2.2.2.1=_:=h9;rw [h9,OB];have hg:=Zjk1 a.Peer n.Book.Sess;have hb:=((Z8i1 _).1 h.bk).len;exact Zol1 (Zil1 n j x) (Zkl1 n a.Peer) 0 (ownT n) rfl rfl (fun _=>h.shut hx h0) (by unfold Zkl1 Zjl1;simp only [List.length_cons,List.length_map];omega)
        ·rw [if_neg h0,DN h0,Zxk1,DN (show ¬(185:Int)=0 by omega),Z1a1];exact bad 185 (by omega)
     ·rw [DN c2,Zxk1,if_neg fun q=>c2 q.2];exact j4b 182 (by omega)
    ·rw [DN c1,Z1a1,n3,OB,Zxk1,if_neg fun q=>c1 q.1];exact j4b 182 (by omega)
   ·rw [DN k5,Z1a1,if_neg k5,n3,OB,Zxk1];exact bad 188 (by omega)
theorem OkN.sides {n:Node} (h:OkN n) {S:List Side} (E:S.map Zii1=n.DK.DI.SD.map Zii1) (J:∀x∈S,x.DY=true→x.Fork=true):OkN ⟨⟨⟨n.DK.DI.ID,n.DK.DI.PH,S⟩,n.DK.TH,n.DK.Need⟩,n.Book,n.KN,n.Told,n.AK⟩:=by
 have side:∀ {x:Side},x∈S→∃y∈n.DK.DI.SD,y.Peer=x.Peer∧y.Epoch=x.Epoch∧y.State=x.State:=fun hx=>Zpi1 E hx;have edis:∀ {x:Side},x∈n.DK.DI.SD→∃y∈S,y.Peer=x.Peer∧y.Epoch=x.Epoch∧y.State=x.State:=fun hx=>Zpi1 E.symm hx;have hl:S.length=n.DK.DI.SD.length:=by have:=congrArg List.length E;rwa [List.length_map,List.length_map] at this
 refine {h with
  dr:=⟨⟨h.dr.din.id0,h.dr.din.p0,h.dr.din.p2,by show S.length<64;rw [hl];exact h.dr.din.len,Zoh1 (Zqi1 E) h.dr.din.up,fun x hx=>?_⟩,h.dr.t0,h.dr.t2,h.dr.up,h.dr.nz,fun p hp=>?_⟩
  may:=fun k hk=>⟨fun x hx=>?_,(h.may k hk).2⟩
  sd:=fun x hx=>?_
  tin:=fun p hp=>?_
  nl:=fun x hx hn=>?_
  wt:=fun s hs h0 p hp=>?_}
 ·obtain ⟨y,hy,e1,e2,e3⟩:=side hx;have:=h.dr.din.side y hy;exact ⟨by rw [←e1];exact this.lo,by rw [←e1];exact this.ne,by rw [←e2];exact this.e0,by rw [←e2];exact this.e1,by rw [←e3];exact this.s0,by rw [←e3];exact this.s3,J x hx⟩
 ·obtain ⟨x,hx,e⟩:=h.dr.has p hp;obtain ⟨y,hy,e1,_⟩:=edis hx;exact ⟨y,hy,by omega⟩
 ·obtain ⟨y,hy,e1,_⟩:=side hx;rw [←e1];exact (h.may k hk).1 y hy
 ·obtain ⟨y,hy,e1,e2,e3⟩:=side hx;have:=h.sd y hy;rw [←e1,←e2,←e3];exact this
 ·obtain ⟨x,hx,e,e'⟩:=h.tin p hp;obtain ⟨y,hy,e1,_,e3⟩:=edis hx;exact ⟨y,hy,by omega,by omega⟩
 ·obtain ⟨y,hy,e1,_,e3⟩:=side hx;rw [←e3];exact h.nl y hy (by rw [e1];exact hn)
 ·obtain ⟨x,hx,e,e'⟩:=h.wt s hs h0 p hp;obtain ⟨y,hy,e1,_,e3⟩:=edis hx;exact ⟨y,hy,by omega,by omega⟩
theorem Zul1 (k:Int) (x:Side):Zii1 (layK k x)=Zii1 x:=by
 unfold layK;split
 ·rfl
 ·split
  ·rfl
  ·split<;>rfl
theorem Zvl1 (k:Int) (x:Side) (h:x.DY=true→x.Fork=true):(layK k x).DY=true→(layK k x).Fork=true:=by
 unfold layK;split
 ·exact fun _=>rfl
 ·split
  ·exact h
  ·split<;>exact h
theorem Zwl1 {S:List Side} {j:Nat} {x y:Side} (h:S[j]?=some x) (E:Zii1 y=Zii1 x):(S.set j y).map Zii1=S.map Zii1:=by
 obtain ⟨e1,e2⟩:=Zcl1 h y;rw [e2]
 conv=>rhs;rw [e1]
 simp [E]
def layN (n:Node) (j:Nat) (x:Side) (k:Int):Node:=⟨⟨⟨n.DK.DI.ID,n.DK.DI.PH,n.DK.DI.SD.set j (layK k x)⟩,n.DK.TH,n.DK.Need⟩,n.Book,n.KN,n.Told,n.AK⟩
theorem OkN.lay {n:Node} (h:OkN n) {j:Nat} {x:Side} (hx:n.DK.DI.SD[j]?=some x) (k:Int):OkN (layN n j x k):=by
 refine h.sides (Zwl1 hx (Zul1 k x)) fun z hz=>?_;rcases (Zdl1 h.rowS.up hx _).1 hz with rfl | ⟨hz,_⟩
 ·exact Zvl1 k x (h.dr.din.side x (List.mem_of_getElem? hx)).df
 ·exact (h.dr.din.side z hz).df
def askN (n:Node) (k:KE):Node:=⟨n.DK,n.Book,n.KN,n.Told,n.AK++[k]⟩
theorem OkN.ask {n:Node} (h:OkN n) {k:KE} (hm:mayB n k=true) (E:Z8f1 (n.AK++[k])=true):OkN (askN n k):=
 {h with
  may:=fun q hq=>by
   have hq:q∈n.AK++[k]:=hq;rcases List.mem_append.1 hq with hq | hq
   ·exact h.may q hq
   ·simp at hq;subst hq;exact (Z2i1 n _).1 hm
  dis:=by unfold Z8f1 at E;rw [decide_eq_true_eq] at E;exact E}
def Zxl1 (n:Node) (j:Nat) (x:Side):Node:=⟨⟨⟨n.DK.DI.ID,n.DK.DI.PH,n.DK.DI.SD.set j {x with State:=0}⟩,n.DK.TH,n.DK.Need⟩,n.Book,n.KN,(setL n.Told).filter fun z=>!decide (z∈ [x.Peer]),n.AK⟩
theorem OkN.live {n:Node} (h:OkN n) {j:Nat} {x:Side} (hx:n.DK.DI.SD[j]?=some x):OkN (Zxl1 n j x):=by
 have h6:=List.mem_of_getElem? hx;have hm:∀ {z:Side},z∈(Zxl1 n j x).DK.DI.SD↔z={x with State:=0}∨z∈n.DK.DI.SD∧z.Peer≠x.Peer:=fun {z}=>Zdl1 (z:=z) h.rowS.up hx {x with State:=0};refine {h with
  dr:=h.dr.state hx (by omega)
  may:=fun k hk=>⟨fun z hz=>?_,(h.may k hk).2⟩
  sd:=fun z hz=>?_
  told:=(Zob1 n.Told).1.filter _
  tin:=fun p hp=>?_
  nl:=fun z hz hn=>?_
  wt:=fun s hs h0 p hp=>?_}
 ·rcases hm.1 hz with rfl | ⟨hz,_⟩
  ·exact (h.may k hk).1 x h6
  ·exact (h.may k hk).1 z hz
 ·rcases hm.1 hz with rfl | ⟨hz,_⟩
  ·have:=h.sd x h6;exact ⟨this.1,this.2.1,this.2.2.1,fun e=>by have e:(0:Int)=1∨(0:Int)=3:=e;omega⟩
  ·exact h.sd z hz
 ·obtain ⟨h1,h2⟩:=List.mem_filter.1 hp;obtain ⟨z,hz,e1,e⟩:=h.tin p (((Zob1 n.Told).2 p).1 h1);refine ⟨z,hm.2 (.inr ⟨hz,fun q=>?_⟩),e1,e⟩;rw [DT (show p∈ [x.Peer] by rw [←e,q];simp)] at h2;simp at h2
 ·rcases hm.1 hz with rfl | ⟨hz,_⟩
  ·show (0:Int)≠3;omega
  ·exact h.nl z hz hn
 ·obtain ⟨z,hz,e0,e⟩:=h.wt s hs h0 p hp;by_cases q:z.Peer=x.Peer
  ·exact ⟨_,hm.2 (.inl rfl),rfl,by show x.Peer=p;omega⟩
  ·exact ⟨z,hm.2 (.inr ⟨hz,q⟩),e0,e⟩
def Zyl1 (n:Node) (p:Int):Node:=⟨⟨⟨n.DK.DI.ID,n.DK.DI.PH,n.DK.DI.SD.filter fun x=>!decide (x.Peer=p)⟩,n.DK.TH,n.DK.Need⟩,n.Book,n.KN,n.Told,n.AK⟩
theorem OkN.drop {n:Node} (h:OkN n) {x:Side} (hx:x∈n.DK.DI.SD) (h3:x.State=3):OkN (Zyl1 n x.Peer):=by
 have hm:∀ {z:Side},z∈(Zyl1 n x.Peer).DK.DI.SD↔z∈n.DK.DI.SD∧z.Peer≠x.Peer:=fun {z}=>by show z∈n.DK.DI.SD.filter _↔_;rw [List.mem_filter];simp
 have hne:∀ {z:Side},z∈n.DK.DI.SD→z.State≠3→z.Peer≠x.Peer:=fun hz hs q=>by have:=Zei1 h.rowS.up hz hx q;subst this;exact hs h3
 refine {h with
  dr:=⟨⟨h.dr.din.id0,h.dr.din.p0,h.dr.din.p2,Nat.lt_of_le_of_lt (List.length_filter_le _ _) h.dr.din.len,h.dr.din.up.filter _,fun z hz=>h.dr.din.side z (hm.1 hz).1⟩,h.dr.t0,h.dr.t2,h.dr.up,h.dr.nz,fun p hp=>?_⟩
  may:=fun k hk=>⟨fun z hz=>(h.may k hk).1 z (hm.1 hz).1,(h.may k hk).2⟩
  sd:=fun z hz=>h.sd z (hm.1 hz).1
  tin:=fun p hp=>?_
  nl:=fun z hz hn=>h.nl z (hm.1 hz).1 hn
  wt:=fun s hs h0 p hp=>?_}
 ·obtain ⟨z,hz,e⟩:=h.dr.has p hp;exact ⟨z,hm.2 ⟨hz,hne hz (h.nl z hz (by rw [e];exact hp))⟩,e⟩
 ·obtain ⟨z,hz,e1,e⟩:=h.tin p hp;exact ⟨z,hm.2 ⟨hz,hne hz (by omega)⟩,e1,e⟩
 ·obtain ⟨z,hz,e0,e⟩:=h.wt s hs h0 p hp;exact ⟨z,hm.2 ⟨hz,hne hz (by omega)⟩,e0,e⟩
def Zzl1 (n:Node) (p:Int):Option (Nat×Side):=match Zyk1 n.DK.DI.SD p with | none=>none | some j=>(n.DK.DI.SD[j]?).map fun x=>(j,x)
def isB (o:Option (Nat×Side)) (m:Msg) (s:Int):Bool:=match o with | none=>false | some (_,x)=>decide (x.Epoch=m.Epoch)&&decide (x.State=s)
def jO (o:Option (Nat×Side)):Nat:=match o with | none=>0 | some (j,_)=>j
def xO (o:Option (Nat×Side)):Side:=match o with | none=>side0 | some (_,x)=>x
def fitB (o:Option (Nat×Side)) (m:Msg):Bool:=match o with | none=>false | some (_,x)=>decide (x.Epoch=m.Epoch)
def k14 (m:Msg):Bool:=decide (m.Kind=1∨m.Kind=2∨m.Kind=3∨m.Kind=4)
def getN (n:Node) (p:Int) (m:Msg):Int×Node×List Event:=
 if m.Num≠0 then (187,n,[])
 else if k14 m=true then
  (if fitB (Zzl1 n p) m=true then (if Zwe1 m.Kind (xO (Zzl1 n p))=true then (187,n,[]) else (0,layN n (jO (Zzl1 n p)) (xO (Zzl1 n p)) m.Kind,[])) else (0,n,[]))
 else if m.Kind=5 then (if mayB n ⟨p,m.Epoch⟩=true∧Z8f1 (n.AK++[⟨p,m.Epoch⟩])=true then (0,askN n ⟨p,m.Epoch⟩,[]) else (187,n,[]))
 else if m.Kind=6 then (if isB (Zzl1 n p) m 1=true∧p∈n.Told then (0,Zxl1 n (jO (Zzl1 n p)) (xO (Zzl1 n p)),[⟨6,n.DK.DI.ID,0,p,[]⟩]) else (187,n,[]))
 else if m.Kind=7 then (if isB (Zzl1 n p) m 0=true∧p<n.DK.DI.ID then (0,Zil1 n (jO (Zzl1 n p)) (xO (Zzl1 n p)),Zkl1 n p) else (187,n,[]))
 else if m.Kind=8 then (if isB (Zzl1 n p) m 3=true then (0,Zyl1 n p,[⟨8,n.DK.DI.ID,0,p,[]⟩]) else (187,n,[]))
 else (187,n,[])
theorem Z0m1 {n:Node} {p:Int} {j:Nat} {x:Side} (h:Zzl1 n p=some (j,x)):Zyk1 n.DK.DI.SD p=some j∧n.DK.DI.SD[j]?=some x∧x.Peer=p:=by
 unfold Zzl1 at h;cases hp:Zyk1 n.DK.DI.SD p with
 | none=>rw [hp] at h;simp at h
 | some i=>obtain ⟨y,hy,e⟩:=Z0l1 hp;rw [hp] at h;dsimp only at h;rw [hy] at h;simp only [Option.map_some,Option.some.injEq,Prod.mk.injEq] at h;obtain ⟨rfl,rfl⟩:=h;exact ⟨rfl,hy,e⟩
theorem Z1m1 {n:Node} {p:Int} (h:Zzl1 n p=none):Zyk1 n.DK.DI.SD p=none:=by
 unfold Zzl1 at h;cases hp:Zyk1 n.DK.DI.SD p with
 | none=>rfl
 | some i=>obtain ⟨y,hy,e⟩:=Z0l1 hp;rw [hp] at h;dsimp only at h;rw [hy] at h;simp at h
theorem Z2m1 {n:Node} {p s:Int} {m:Msg} (h:isB (Zzl1 n p) m s=true):∃j x,Zzl1 n p=some (j,x)∧x.Epoch=m.Epoch∧x.State=s∧n.DK.DI.SD[j]?=some x∧x.Peer=p∧Zyk1 n.DK.DI.SD p=some j:=by
 cases hs:Zzl1 n p with
 | none=>rw [hs] at h;simp [isB] at h
 | some q=>obtain ⟨j,x⟩:=q;rw [hs] at h;unfold isB at h;simp only [Bool.and_eq_true,decide_eq_true_eq] at h;obtain ⟨h1,h2,h3⟩:=Z0m1 hs;exact ⟨j,x,rfl,h.1,h.2,h2,h3,h1⟩
theorem Z3m1 {n:Node} {p:Int} {m:Msg} (h:OkN n) (he:(getN n p m).1=0):OkN (getN n p m).2.1∧(getN n p m).2.1.DK.DI.ID=n.DK.DI.ID∧(∀v∈(getN n p m).2.2,EvOK n.DK.DI.ID v∧v.Kind≠1)∧(getN n p m).2.2.length≤1000:=by
 revert he;unfold getN;split
 ·intro he;simp at he
 ·split
  ·split
   ·rename_i hs;split
    ·intro he;simp at he
    ·intro _;refine ⟨?_,rfl,by simp,by simp⟩;cases hq:Zzl1 n p with
     | none=>rw [hq] at hs;simp [fitB] at hs
     | some q=>obtain ⟨j,x⟩:=q;exact h.lay (Z0m1 hq).2.1 _
   ·intro _;exact ⟨h,rfl,by simp,by simp⟩
  ·split
   ·split
    ·rename_i hc;intro _;exact ⟨h.ask hc.1 hc.2,rfl,by simp,by simp⟩
    ·intro he;simp at he
   ·split
    ·split
     ·rename_i hc;intro _;obtain ⟨j,x,hq,_,_,hx,_,_⟩:=Z2m1 hc.1;rw [hq];refine ⟨h.live hx,rfl,fun v hv=>?_,by simp⟩;simp at hv;subst hv;exact ⟨⟨rfl,fun _=>rfl,fun q=>by have q:(6:Int)<6:=q;omega,fun _=>rfl⟩,by show (6:Int)≠1;omega⟩
     ·intro he;simp at he
    ·split
     ·split
      ·rename_i hc;intro _;obtain ⟨j,x,hq,_,h0,hx,h6,_⟩:=Z2m1 hc.1;rw [hq];have hg:=Zjk1 p n.Book.Sess;have hb:=((Z8i1 _).1 h.bk).len;have h8:(Zil1 n j x).DK.DI.ID=n.DK.DI.ID:=by unfold Zil1;dsimp only;split<;>rfl
       refine ⟨h.shut hx h0,h8,fun v hv=>?_,by unfold Zkl1 Zjl1;simp only [List.length_cons,List.length_map];omega⟩;rcases List.mem_cons.1 hv with rfl | hv
       ·exact ⟨⟨rfl,fun _=>rfl,fun q=>by have q:(7:Int)<6:=q;omega,fun _=>rfl⟩,by show (7:Int)≠1;omega⟩
       ·obtain ⟨i,_,rfl⟩:=List.mem_map.1 hv;exact ⟨⟨rfl,fun q=>by have q:(6:Int)≤5:=q;omega,fun _=>rfl,fun _=>rfl⟩,by show (5:Int)≠1;omega⟩
      ·intro he;simp at he
     ·split
      ·split
       ·rename_i hc;intro _;obtain ⟨j,x,hq,_,h3,hx,h6,_⟩:=Z2m1 hc;have:=h.drop (List.mem_of_getElem? hx) h3;rw [h6] at this;refine ⟨this,rfl,fun v hv=>?_,by simp⟩;simp at hv;subst hv;exact ⟨⟨rfl,fun _=>rfl,fun q=>by have q:(8:Int)<6:=q;omega,fun _=>rfl⟩,by show (8:Int)≠1;omega⟩
       ·intro he;simp at he
      ·intro he;simp at he
theorem Z4m1 (m:Node) (V:List Event) (e:Int) (K:List KE) (E:K=m.KN) (h:e=0→OkN m) (J:V.length≤100000):
  Z091 K (m.DK.DI.ID,m.DK.DI.PH,m.DK.TH,m.Book.Last,m.Book.Sess,m.Told,e,m.DK.DI.SD,m.DK.Need,m.AK,V)=some (outA e m V):=by
 subst E;dsimp only [Z091];unfold outA;by_cases he:e=0
 ·subst he;rw [Zdk1 m (h rfl) V J,OB,if_pos rfl];rfl
 ·rw [Zek1 _ _ _ _ e _ he,OB,if_neg he];rfl
theorem s_is (n:Node) (s:Int) (p:Int) (m:Msg) (x:node_node) (hx:x.Node.DK.DI.SD=n.DK.DI.SD):Zfo s (plc (Zyk1 n.DK.DI.SD p)) x m=some (isB (Zzl1 n p) m s):=by
 simp only [Zfo,Zeo,hx];cases hq:Zzl1 n p with
 | none=>rw [Z1m1 hq];rfl
 | some q=>obtain ⟨j,y⟩:=q;obtain ⟨h1,h2,h3⟩:=Z0m1 hq;rw [h1,show plc (some j)=(j:Int) from rfl,DT (show (0:Int)≤j by omega),Z0a1,Z4a1 h2,OB,OB];unfold isB;dsimp only;cases decide (y.Epoch=m.Epoch)<;>rfl
theorem Z5m1 (n:Node) (p:Int) (m:Msg) (E:FewN n):Z791 n p m=Z591 n p m n.DK.DI.SD n.DK.Need n.KN n.Told n.AK n.Book.Sess (decide (Zrk1 (decide (m.Num=0)) 187 (if okN n then 0 else 180)=0),Zrk1 (decide (m.Num=0)) 187 (if okN n then 0 else 180)) (plc (Zyk1 n.DK.DI.SD p)) (k14 m):=by
 have hS:=E.sides;unfold Z791;rw [Zgj1 n E,OB,Zsf1 n E,OB];dsimp only [Z691];rw [Ztk1,OB,Zzk1 _ _ (show _≤_ by dsimp only;omega),OB];unfold k14;by_cases c1:m.Kind=1
 ·simp [c1,ifb]
 ·by_cases c2:m.Kind=2
  ·simp [c2,ifb]
  ·by_cases c3:m.Kind=3
   ·simp [c3,ifb]
   ·by_cases c4:m.Kind=4
    ·simp [c4,ifb]
    ·simp [c1,c2,c3,c4,ifb]
theorem Z6m1 (n:Node) (p:Int) (m:Msg) (E:FewN n) (e:Int) (he:e≠0) (z:Bool):Z591 n p m n.DK.DI.SD n.DK.Need n.KN n.Told n.AK n.Book.Sess (decide (e=0),e) (plc (Zyk1 n.DK.DI.SD p)) z=some (Znl1,[],[],e):=by
 have hA:=E.asked;have hT:=E.told;have h6:Z091 n.KN (n.DK.DI.ID,n.DK.DI.PH,n.DK.TH,n.Book.Last,n.Book.Sess,n.Told,e,n.DK.DI.SD,n.DK.Need,n.AK,[])=some (Znl1,[],[],e):=by have:=Z4m1 n [] e n.KN rfl (fun q=>absurd q he) (by simp);unfold outA at this;rw [if_neg he] at this;exact this
 have n2:∀(is:Bool) (c:Int),Z6t is c n.DK.DI.ID n.DK.DI.PH n.DK.TH n.Book.Last e n.DK.DI.SD n.DK.Need n.Book.Sess n.KN n.Told n.AK=some (false,e):=fun is c=>by rw [Ztk1,Zvk1 is he,DN he]
 have n3:∀c,Zat c n.DK.DI.ID n.DK.DI.PH n.DK.TH n.Book.Last e n.DK.DI.SD n.DK.Need n.Book.Sess n.KN n.Told n.AK=some (false,e):=fun c=>by rw [Zuk1,Zvk1 _ he,DN he]
 dsimp only [Z591];cases z with
 | true=>rw [Z0a1,DN he,Z1a1];dsimp only [Z191];rw [Z1a1];exact h6
 | false=>
   rw [Z1a1];cases decide (m.Kind=5) with
   | true=>rw [Z0a1,Z7f1 n E,OB,Zej1 _ (by omega),OB,Z6a1 _ _ (by omega) (by simp;omega),OB,Z9f1 _ (by simp;omega),OB,n2,n3,OB];dsimp only [Z291];rw [Z1a1,h6];cases mayB n ⟨p,m.Epoch⟩<;>rfl
   | false=>
     rw [Z1a1];cases decide (m.Kind=6) with
     | true=>rw [Z0a1,s_is n 1 p m _ rfl,OB,Zmb1 _ _ (by omega),OB,n2,n3,OB];dsimp only [Z391];rw [Z1a1,h6];cases isB (Zzl1 n p) m 1<;>rfl
     | false=>
       rw [Z1a1];cases decide (m.Kind=7) with
       | true=>rw [Z0a1,s_is n 0 p m _ rfl,OB,n2,n3,OB];dsimp only [Z491];rw [Z1a1,h6];cases isB (Zzl1 n p) m 0<;>rfl
       | false=>
         rw [Z1a1];cases decide (m.Kind=8) with
         | true=>rw [Z0a1,s_is n 3 p m _ rfl,OB,n2,OB];exact h6
         | false=>rw [Z1a1,n3,OB];exact h6
theorem Z7m1 (n:Node) (p:Int) (m:Msg) (h:OkN n):Z791 n p m=some (outA (getN n p m).1 (getN n p m).2.1 (getN n p m).2.2):=by
 have hf:=h.few;have hA:=hf.asked;have hT:=hf.told;have hS:=hf.sides;have hN:=hf.need;rw [Z5m1 n p m hf,(Z6i1 n).2 h,if_pos rfl];have hok:=fun he=>Z3m1 (p:=p) (m:=m) h he;by_cases hn:m.Num=0
 ·have eG:getN n p m=_:=rfl;have h6:∀(r:Node) (V:List Event) (e:Int),n.KN=r.KN→r.DK.DI.ID=r.DK.DI.ID→(e=0→OkN r)→V.length≤100000→Z091 n.KN (r.DK.DI.ID,r.DK.DI.PH,r.DK.TH,r.Book.Last,r.Book.Sess,r.Told,e,r.DK.DI.SD,r.DK.Need,r.AK,V)=some (outA e r V):=fun r V e hK _ h1 hV=>Z4m1 r V e n.KN hK h1 hV;have bad:∀e:Int,e≠0→Z091 n.KN (n.DK.DI.ID,n.DK.DI.PH,n.DK.TH,n.Book.Last,n.Book.Sess,n.Told,e,n.DK.DI.SD,n.DK.Need,n.AK,[])=some (outA e n []):=fun e he=>h6 n [] e rfl rfl (fun q=>absurd q he) (by simp);have n2:∀(is:Bool) (c:Int),Z6t is c n.DK.DI.ID n.DK.DI.PH n.DK.TH n.Book.Last 0 n.DK.DI.SD n.DK.Need n.Book.Sess n.KN n.Told n.AK=some (decide (Zrk1 is c 0=0),Zrk1 is c 0):=fun is c=>Ztk1 _ _ _ _ _ _ _ _ _ _ _ _ _;have n3:∀c,Zat c n.DK.DI.ID n.DK.DI.PH n.DK.TH n.Book.Last 0 n.DK.DI.SD n.DK.Need n.Book.Sess n.KN n.Told n.AK=some (decide (c=0),c):=fun c=>Zuk1 _ _ _ _ _ _ _ _ _ _ _ _;rw [DT hn,Zwk1,DT rfl];unfold getN at hok ⊢;rw [if_neg fun q=>q hn] at hok ⊢;dsimp only [Z591];cases hk:k14 m with
  | true=>
    rw [Z0a1,DT rfl,Z0a1,if_pos rfl];rw [hk,if_pos rfl] at hok;have j4f:Z191 n p m n.DK.DI.SD n.DK.Need n.KN n.Told n.AK n.Book.Sess (true,0) false=some (outA 0 n []):=by dsimp only [Z191];rw [Z1a1];exact h6 n [] 0 rfl rfl (fun _=>h) (by simp)
    cases hq:Zzl1 n p with
    | none=>rw [Z1m1 hq,show plc none = -1 from rfl,DN (show ¬(0:Int)≤ -1 by omega),Z1a1,if_neg (by simp [fitB])];exact j4f
    | some q=>
      obtain ⟨j,x⟩:=q;obtain ⟨h1,h2,h3⟩:=Z0m1 hq;rw [h1,show plc (some j)=(j:Int) from rfl,DT (show (0:Int)≤j by omega),Z0a1,Z4a1 h2,OB];have ex:xO (some (j,x))=x:=rfl;have ej:jO (some (j,x))=j:=rfl;rw [ex,ej];rw [hq,ex,ej] at hok;by_cases h8:x.Epoch=m.Epoch
      ·rw [DT h8,if_pos (show fitB (some (j,x)) m=true from DT h8)];rw [if_pos (show fitB (some (j,x)) m=true from DT h8)] at hok;have hw:n.DK.DI.SD.findIdx? (fun x=>decide (x.Peer=p)&&decide (x.Epoch=m.Epoch))=some j:=by
        obtain ⟨g1,g2,g3⟩:=List.findIdx?_eq_some_iff_getElem.1 h1;obtain ⟨_,hB⟩:=List.getElem?_eq_some_iff.1 h2;rw [List.findIdx?_eq_some_iff_getElem];refine ⟨g1,?_,fun i hi=>?_⟩
        ·rw [hB,DT h3,DT h8];rfl
        ·have:=g3 i hi;simp only [decide_eq_true_eq] at this;rw [DN this];simp
       have hC:1≤m.Kind∧m.Kind≤4:=by unfold k14 at hk;rw [decide_eq_true_eq] at hk;omega
       have hg:=Zye1 n.DK p m ((Z1i1 _).2 h.dr) (by omega) hw h2 hn hC;dsimp only [Z191,Zy71];rw [Z0a1,hg,OB];dsimp only [Zx71,Zw71];by_cases hl:Zwe1 m.Kind x=true
       ·simp only [if_pos hl];rw [n2,OB];exact bad 187 (by omega)
       ·rw [if_neg hl] at hok;simp only [if_neg hl];rw [n2,OB];exact h6 (layN n j x m.Kind) [] 0 rfl rfl (fun _=>(hok rfl).1) (by simp)
      ·rw [DN h8,if_neg (show ¬fitB (some (j,x)) m=true from fun q=>h8 (of_decide_eq_true q))];exact j4f
  | false=>
    rw [Z1a1,if_neg (by simp)];rw [hk,if_neg (by simp)] at hok;by_cases k5:m.Kind=5
    ·rw [DT k5,Z0a1,if_pos k5,Z7f1 n hf,OB];rw [if_pos k5] at hok;have j5f:Z291 n p m n.DK.DI.SD n.DK.Need n.KN n.Told n.AK n.Book.Sess (false,187)=some (outA 187 n []):=by dsimp only [Z291];rw [Z1a1];exact bad 187 (by omega)
     cases hm:mayB n ⟨p,m.Epoch⟩ with
     | false=>rw [Z1a1,n3,OB,if_neg (by simp),DN (show ¬(187:Int)=0 by omega)];exact j5f
     | true=>
       rw [Z0a1,Zej1 _ (by omega),OB,Z6a1 _ _ (by omega) (by simp;omega),OB,Z9f1 _ (by simp;omega),OB,n2,OB];cases hd:Z8f1 (n.AK++[⟨p,m.Epoch⟩]) with
       | false=>rw [Zxk1,DN (show ¬(187:Int)=0 by omega),if_neg (by simp)];exact j5f
       | true=>rw [Zwk1,DT rfl,if_pos ⟨rfl,rfl⟩];dsimp only [Z291];rw [Z0a1,Z6a1 _ _ (by omega) (by simp;omega),OB];exact h6 (askN n ⟨p,m.Epoch⟩) [] 0 rfl rfl (fun _=>h.ask hm hd) (by simp)
    ·rw [DN k5,Z1a1,if_neg k5];rw [if_neg k5] at hok;by_cases k6:m.Kind=6
     ·rw [DT k6,Z0a1,if_pos k6,s_is n 1 p m _ rfl,OB];have j6f:Z391 n p n.DK.DI.SD n.DK.Need n.KN n.Told n.AK n.Book.Sess (plc (Zyk1 n.DK.DI.SD p)) (false,187)=some (outA 187 n []):=by dsimp only [Z391];rw [Z1a1];exact bad 187 (by omega)
      cases hi:isB (Zzl1 n p) m 1 with
      | false=>rw [Z1a1,n3,OB,if_neg (by simp),DN (show ¬(187:Int)=0 by omega)];exact j6f
      | true=>
        rw [Z0a1,Zmb1 _ _ (by omega),OB,n2,OB];by_cases ht:p∈n.Told
        ·obtain ⟨j,x,hq,_,_,hx,hc,ho⟩:=Z2m1 hi;rw [DT ht,Zwk1,DT rfl,if_pos ⟨rfl,ht⟩,hq,ho];dsimp only [Z391,xO,jO];rw [Z0a1,show plc (some j)=(j:Int) from rfl,Z4a1 hx,OB,s_Del _ _ (by omega),OB,Int.toNat_natCast];have h9:∀(S:List Side) (T:List Int) (e:Int),Z7u 6 p n.DK.DI.ID n.DK.DI.PH n.DK.TH n.Book.Last T e S n.DK.Need n.Book.Sess n.KN n.AK=some [⟨6,n.DK.DI.ID,0,p,[]⟩]:=fun S T e=>by simp only [Z7u];rw [Z6a1 _ _ (by omega) (by simp),OB];rfl
         rw [h9,OB];have:=h6 (Zxl1 n j x) [⟨6,n.DK.DI.ID,0,p,[]⟩] 0 rfl rfl (fun _=>h.live hx) (by simp);subst hc;exact this
        ·rw [DN ht,Zxk1,DN (show ¬(187:Int)=0 by omega),if_neg fun q=>ht q.2];exact j6f
     ·rw [DN k6,Z1a1,if_neg k6];rw [if_neg k6] at hok;by_cases k7:m.Kind=7
      ·rw [DT k7,Z0a1,if_pos k7,s_is n 0 p m _ rfl,OB];have j7f:Z491 n p n.DK.DI.SD n.DK.Need n.KN n.Told n.AK n.Book.Sess (false,187)=some (outA 187 n []):=by dsimp only [Z491];rw [Z1a1];exact bad 187 (by omega)
       cases hi:isB (Zzl1 n p) m 0 with
       | false=>rw [Z1a1,n3,OB,if_neg (by simp),DN (show ¬(187:Int)=0 by omega)];exact j7f
       | true=>
         rw [Z0a1,n2,OB];by_cases hp:p<n.DK.DI.ID
         ·obtain ⟨j,x,hq,_,h0,hx,hc,ho⟩:=Z2m1 hi;have hg:=Zjk1 p n.Book.Sess;have hb:=((Z8i1 _).1 h.bk).len;rw [DT hp,Zwk1,DT rfl,if_pos ⟨rfl,hp⟩,hq];dsimp only [Z491,xO,jO];rw [Z0a1,Zll1 n h p j x ho hx hc 0,OB];exact h6 (Zil1 n j x) (Zkl1 n p) 0 rfl rfl (fun _=>h.shut hx h0) (by unfold Zkl1 Zjl1;simp only [List.length_cons,List.length_map];omega)
         ·rw [DN hp,Zxk1,DN (show ¬(187:Int)=0 by omega),if_neg fun q=>hp q.2];exact j7f
      ·rw [DN k7,Z1a1,if_neg k7];rw [if_neg k7] at hok;by_cases k8:m.Kind=8
       ·rw [DT k8,Z0a1,if_pos k8,s_is n 3 p m _ rfl,OB,n2,OB];cases hi:isB (Zzl1 n p) m 3 with
        | false=>rw [Zxk1];dsimp only;rw [DN (show ¬(187:Int)=0 by omega),Z1a1,if_neg (by simp)];exact bad 187 (by omega)
        | true=>
          obtain ⟨j,x,hq,_,h3,hx,hc,ho⟩:=Z2m1 hi;rw [Zwk1];dsimp only;rw [DT rfl,Z0a1,if_pos rfl];have hD:Zk01 p n.DK.DI.ID n.DK.DI.PH n.DK.TH n.Book.Last 0 n.DK.DI.SD n.DK.Need n.Book.Sess n.KN n.Told n.AK=some (n.DK.DI.SD.filter fun x=>!decide (x.Peer=p)):=by simp only [Zk01,Zug1 n.DK.DI.SD (fun z=>Zpn z p) (fun x=>decide (x.Peer=p)) (by omega) (fun _ _=>rfl),OB]
          have h9:∀(S:List Side),Zft 8 p n.DK.DI.ID n.DK.DI.PH n.DK.TH n.Book.Last 0 S n.DK.Need n.Book.Sess n.KN n.Told n.AK=some [⟨8,n.DK.DI.ID,0,p,[]⟩]:=fun S=>by simp only [Zft];rw [Z6a1 _ _ (by omega) (by simp),OB];rfl
          rw [hD,OB,h9,OB];have:=h.drop (List.mem_of_getElem? hx) h3;rw [hc] at this;exact h6 (Zyl1 n p) [⟨8,n.DK.DI.ID,0,p,[]⟩] 0 rfl rfl (fun _=>this) (by simp)
       ·rw [DN k8,Z1a1,if_neg k8,n3,OB];exact bad 187 (by omega)
 ·rw [DN hn,Zxk1];have:=Z6m1 n p m hf 187 (by omega) (k14 m);rw [this];unfold getN;rw [if_pos hn];rfl
end NX
end Go.Proofs.YtgamgemlekpepaaGreat
