/-
  The program's data. No statement of the seat is proved here.
-/
import Derived.Shelf.Sort.Plain
import Derived.Shelf.Slices.In.SortNone
import Derived.Sort.OwnSortedInts
import Derived.Shelf.Slices.CompactI
import Derived.Lib.RowBridge
import Derived.Test.YtgamgemlekpepaaGreatK21
set_option maxRecDepth 100000
set_option maxHeartbeats 40000000
namespace Go.Proofs.YtgamgemlekpepaaGreat
namespace NX
open Go
structure SX where
 PE:Int
 EP:Int
 SS:Int
 FK:Bool
 DY:Bool
 TO:Bool
 BO:Bool
 Ask:Bool
 deriving DecidableEq,Inhabited
def SX.row (x:SX):List AV:=[.iv x.PE,.iv x.EP,.iv x.SS,.bv x.FK,.bv x.DY,.bv x.TO,.bv x.BO,.bv x.Ask]
attribute [go_sem] SX.row
structure DI where
 ID:Int
 PH:Int
 SD:(List SX)
 deriving DecidableEq,Inhabited
def DI.row (x:DI):List AV:=[.iv x.ID,.iv x.PH,.sl 8 (List.map SX.row x.SD)]
attribute [go_sem] DI.row
structure DK where
 DI:DI
 TH:Int
 NE:(List Int)
 deriving DecidableEq,Inhabited
def DK.row (x:DK):List AV:=[.iv x.DI.ID,.iv x.DI.PH,.sl 8 (List.map SX.row x.DI.SD),.iv x.TH,.sl 1 (List.map Z4d x.NE)]
attribute [go_sem] DK.row
structure SE where
 ID:Int
 NE:(List Int)
 SS:Int
 Age:Int
 deriving DecidableEq,Inhabited
def SE.row (x:SE):List AV:=[.iv x.ID,.sl 1 (List.map Z4d x.NE),.iv x.SS,.iv x.Age]
attribute [go_sem] SE.row
structure BK where
 LA:Int
 SE:(List SE)
 deriving DecidableEq,Inhabited
def BK.row (x:BK):List AV:=[.iv x.LA,.sl 4 (List.map SE.row x.SE)]
attribute [go_sem] BK.row
structure KE where
 PE:Int
 EP:Int
 deriving DecidableEq,Inhabited
def KE.row (x:KE):List AV:=[.iv x.PE,.iv x.EP]
attribute [go_sem] KE.row
structure NO where
 DK:DK
 BK:BK
 KN:(List KE)
 TL:(List Int)
 AK:(List KE)
 deriving DecidableEq,Inhabited
def NO.row (x:NO):List AV:=[.iv x.DK.DI.ID,.iv x.DK.DI.PH,.sl 8 (List.map SX.row x.DK.DI.SD),.iv x.DK.TH,.sl 1 (List.map Z4d x.DK.NE),.iv x.BK.LA,.sl 4 (List.map SE.row x.BK.SE),.sl 2 (List.map KE.row x.KN),.sl 1 (List.map Z4d x.TL),.sl 2 (List.map KE.row x.AK)]
attribute [go_sem] NO.row
structure Msg where
 KI:Int
 EP:Int
 Num:Int
 deriving DecidableEq,Inhabited
def Msg.row (x:Msg):List AV:=[.iv x.KI,.iv x.EP,.iv x.Num]
attribute [go_sem] Msg.row
structure ML where
 From:Int
 To:Int
 Msg:Msg
 deriving DecidableEq,Inhabited
def ML.row (x:ML):List AV:=[.iv x.From,.iv x.To,.iv x.Msg.KI,.iv x.Msg.EP,.iv x.Msg.Num]
attribute [go_sem] ML.row
structure EV where
 KI:Int
 NO:Int
 ID:Int
 PE:Int
 NE:(List Int)
 deriving DecidableEq,Inhabited
def EV.row (x:EV):List AV:=[.iv x.KI,.iv x.NO,.iv x.ID,.iv x.PE,.sl 1 (List.map Z4d x.NE)]
attribute [go_sem] EV.row
structure node_node where
 NO:NO
 out:(List ML)
 seen:(List EV)
 e:Int
 deriving DecidableEq,Inhabited
def node_node.row (x:node_node):List AV:=[.iv x.NO.DK.DI.ID,.iv x.NO.DK.DI.PH,.sl 8 (List.map SX.row x.NO.DK.DI.SD),.iv x.NO.DK.TH,.sl 1 (List.map Z4d x.NO.DK.NE),.iv x.NO.BK.LA,.sl 4 (List.map SE.row x.NO.BK.SE),.sl 2 (List.map KE.row x.NO.KN),.sl 1 (List.map Z4d x.NO.TL),.sl 2 (List.map KE.row x.NO.AK),.sl 5 (List.map ML.row x.out),.sl 5 (List.map EV.row x.seen),.iv x.e]
attribute [go_sem] node_node.row
structure drink_drinker where
 DK:DK
 out:(List ML)
 deriving DecidableEq,Inhabited
def drink_drinker.row (x:drink_drinker):List AV:=[.iv x.DK.DI.ID,.iv x.DK.DI.PH,.sl 8 (List.map SX.row x.DK.DI.SD),.iv x.DK.TH,.sl 1 (List.map Z4d x.DK.NE),.sl 5 (List.map ML.row x.out)]
attribute [go_sem] drink_drinker.row
structure Do where
 KI:Int
 ID:Int
 PE:Int
 Hold:Int
 NE:(List Int)
 deriving DecidableEq,Inhabited
def Do.row (x:Do):List AV:=[.iv x.KI,.iv x.ID,.iv x.PE,.iv x.Hold,.sl 1 (List.map Z4d x.NE)]
attribute [go_sem] Do.row
structure HL where
 NS:(List NO)
 ML:(List ML)
 deriving DecidableEq,Inhabited
def HL.row (x:HL):List AV:=[.sl 10 (List.map NO.row x.NS),.sl 5 (List.map ML.row x.ML)]
attribute [go_sem] HL.row
structure narthexlaw19_Step where
 ML:Bool
 A:Int
 B:Int
 Do:Do
 deriving DecidableEq,Inhabited
def narthexlaw19_Step.row (x:narthexlaw19_Step):List AV:=[.bv x.ML,.iv x.A,.iv x.B,.iv x.Do.KI,.iv x.Do.ID,.iv x.Do.PE,.iv x.Do.Hold,.sl 1 (List.map Z4d x.Do.NE)]
attribute [go_sem] narthexlaw19_Step.row
structure Bar where
 DS:(List DK)
 ML:(List ML)
 deriving DecidableEq,Inhabited
def Bar.row (x:Bar):List AV:=[.sl 5 (List.map DK.row x.DS),.sl 5 (List.map ML.row x.ML)]
attribute [go_sem] Bar.row
structure SN where
 DZ:(List DI)
 ML:(List ML)
 deriving DecidableEq,Inhabited
def SN.row (x:SN):List AV:=[.sl 3 (List.map DI.row x.DZ),.sl 5 (List.map ML.row x.ML)]
attribute [go_sem] SN.row
structure Edge where
 A:Int
 B:Int
 deriving DecidableEq,Inhabited
def Edge.row (x:Edge):List AV:=[.iv x.A,.iv x.B]
attribute [go_sem] Edge.row
structure Graph where
 N:Int
 Edges:(List Edge)
 deriving DecidableEq,Inhabited
def Graph.row (x:Graph):List AV:=[.iv x.N,.sl 2 (List.map Edge.row x.Edges)]
attribute [go_sem] Graph.row
@[go_sem,reducible] def Sq0 (x:List NO):Option Sl:=some ⟨67,10,List.map NO.row x⟩
@[go_sem,reducible] def Sp1 (x:List Int):AV:=.sl 1 (List.map Z4d x)
@[go_sem,reducible] def Sp2 (x:List KE):AV:=.sl 2 (List.map KE.row x)
@[go_sem,reducible] def Sp3 (x:List SX):AV:=.sl 8 (List.map SX.row x)
@[go_sem,reducible] def Sq4 (x:List Int):Option Sl:=some ⟨3,1,List.map Z4d x⟩
@[go_sem,reducible] def Sp5 (x:List SE):AV:=.sl 4 (List.map SE.row x)
@[go_sem,reducible] def Sq6 (x:List ML):Option Sl:=some ⟨53,5,List.map ML.row x⟩
@[go_sem,reducible] def Sp7 (x:List EV):AV:=.sl 5 (List.map EV.row x)
@[go_sem,reducible] def Sp8 (x:List Edge):AV:=.sl 2 (List.map Edge.row x)
@[go_sem,reducible] def Sp9 (x:List ML):AV:=.sl 5 (List.map ML.row x)
@[go_sem,reducible] def Z3k (x:List SE):Option Sl:=some ⟨131,4,List.map SE.row x⟩
@[go_sem,reducible] def Z4k (x:List DK):Option Sl:=some ⟨61,5,List.map DK.row x⟩
@[go_sem,reducible] def Z5k (x:List SX):Option Sl:=some ⟨112,8,List.map SX.row x⟩
@[go_sem,reducible] def Z6k (x:List KE):Option Sl:=some ⟨121,2,List.map KE.row x⟩
@[go_sem,reducible] def Z7k (x:List NO):AV:=.sl 10 (List.map NO.row x)
@[go_sem,reducible] def Z8k (x:List EV):Option Sl:=some ⟨77,5,List.map EV.row x⟩
@[go_sem,reducible] def Z9k (x:List DI):AV:=.sl 3 (List.map DI.row x)
@[go_sem,reducible] def Zak (x:List DI):Option Sl:=some ⟨58,3,List.map DI.row x⟩
abbrev FPx:=Zz6 Tryz.prog
abbrev FTx:=Z1f Tryz.prog
abbrev FOx:=Zqd Tryz.prog
end NX
end Go.Proofs.YtgamgemlekpepaaGreat
namespace Go.Proofs.YtgamgemlekpepaaGreat
namespace NX
open Go Go.RowKit
section
variable {c:Ctx} {M:Mem} {S S':St} {a:Act} {w:World} {fn:Func} {K:AV→List (Option Blk)→List (Option Sl)→Prop} {k:List It} {bs:List (Option Blk)} {ss:List (Option Sl)}
theorem Zbk {M:Mem} {J:List Int} {vss:List (List Value)} (h:AV.isLL M 1 (J.map Z4d) vss):vss.flatten=J.map (Value.int .i64):=by
 induction J generalizing vss with
 | nil=>simp [AV.isLL] at h;subst h;rfl
 | cons z J ih=>obtain ⟨v,r,rfl,h1,h2,h3⟩:=h;obtain ⟨u,q,rfl,h4,h5⟩:=h2;simp only [AV.isL] at h5;simp only [AV.is] at h4;subst h5;subst h4;simp [ih h3]
theorem Zck {M:Mem}:∀(J:List Int),∃vss,AV.isLL M 1 (J.map Z4d) vss∧vss.flatten=J.map (Value.int .i64)
 | []=>⟨[],rfl,rfl⟩
 | z::J=>by obtain ⟨vss,h1,h2⟩:=Zck (M:=M) J;exact ⟨[.int .i64 z]::vss,⟨_,_,rfl,rfl,⟨_,_,rfl,rfl,rfl⟩,h1⟩,by simp [h2]⟩
theorem Zdk {ρ:Shelf.Ren} (U:Lays.n189 c.P ρ) {j T:Nat} {x:X} {J:List Int} (hx:S.x x = .osl j) (hj:Zp S.ss j=some ⟨T,1,J.map Z4d⟩) (hd:J.length<4611686018427387904):
  Z77 c S (.call (ρ.f 189) [x]) (.tup []) ⟨S.tm,S.bs,Zq S.ss j (some ⟨T,1,(J.mergeSort fun x y=>decide (x≤y)).map Z4d⟩)⟩:=by
 intro ro ho M a w hT next Q hn
 obtain ⟨dst,op,ty,pos,af,gd⟩:=ro;dsimp only at ho;obtain ⟨cargs,argTypes,rfl,hw,h8⟩:=Zb7 ho;obtain ⟨q,rfl⟩:∃q,cargs = #[q]:=by
  have:cargs.toList.length=1:=by have:=congrArg List.length h8;simpa using this
  obtain ⟨l⟩:=cargs
  match l,this with
  | [q],_=>exact ⟨q,rfl⟩
 have hA:cX q=x:=by simpa using h8
 have hq:=Z34 hT q;rw [hA,hx] at hq;obtain ⟨hD,hq⟩:=hq;obtain ⟨g0,vss,h1,h2,h3,h4⟩:=hT.st.slc j _ hj;dsimp only at h1 h3 g0;have hB:=Zbk h1;have h6:(execOp a.eval ⟨dst,.call ⟨.value (.func (ρ.f 189)), #[q],argTypes⟩,ty,pos,af,gd⟩).run c.P w = .ok (.enter (ρ.f 189) (#[q].map a.eval)) w:=by have he:a.eval (.func (ρ.f 189)) = .func (.func (ρ.f 189)) #[] #[]:=rfl;generalize a.eval=ρ' at *;simp [execOp,resolve,Deferred.ofValue,invoke,he,Za7 hw]
 have e1:(#[q].map a.eval) = #[M.σ j]:=by apply Array.ext';simp;exact hq
 rw [e1] at h6;unfold Oper.wp;rw [h6];show Calls c.P (ρ.f 189) #[M.σ j] w _;obtain ⟨rs,hC,h9⟩:=Zck (M:=M.sl) (J.mergeSort fun x y=>decide (x≤y));have hf:∀v∈rs.flatten,v.oneCell'=true:=by rw [h9];intro v hv;obtain ⟨z,_,rfl⟩:=List.mem_map.1 hv;rfl
 have hc:(J.mergeSort fun x y=>decide (x≤y)).length=J.length:=by simp
 rcases h3.2 with ⟨e2,e3⟩ | ⟨g,cap,cur,e2,hb,e3,e4,e5,e6,e7⟩
 ·have hz:J=[]:=by simpa using e3
  subst hz;rw [e2];refine (Any.slices_Sort_int_none U none 0 w).mono ?_;rintro e w' ⟨rfl,rfl⟩;refine hn M _ _ (.refl M) ?_ ⟨[],rfl,rfl⟩;have:Zq S.ss j (some (⟨T,1,([].mergeSort fun (x y:Int)=>decide (x≤y)).map Z4d⟩:Sl))=S.ss:=by
   have hj':=hj;simp only [List.map_nil] at hj';have:∀(l:List (Option Sl)) (j:Nat) (L:Sl),Zp l j=some L→Zq l j (some L)=l:=by
    intro l;induction l with
    | nil=>intro j L h;simp [Zp] at h
    | cons x l ih=>intro j L h;cases j with
      | zero=>simp [Zp] at h;subst h;rfl
      | succ j=>simp only [Zq];rw [ih j L (by simpa [Zp] using h)]
   simpa using this _ _ _ hj'
  rw [this];exact hT.st
 ·have e4':J.length≤cap:=by simpa using e4
  rw [e2];simp only [List.length_map];rw [Nat.mul_one,List.length_map] at e7;rw [hB] at e7;refine (Any.slices_Sort_int U g 0 cap J w (holds_of_blockI e3 e7) (Array.getElem?_eq_some_iff.1 e3).1 hd).mono ?_;rintro e w' ⟨rfl,n,os,rfl⟩;refine hn M _ _ (.refl M) ?_ ⟨[],rfl,rfl⟩;refine hT.st.rewrite hj (g:=g) (by rw [e2];rfl) (grownBy_sortedI _) (vss':=rs) hC hf ?_;rw [h9,List.length_map,hc,e2,List.length_map];exact ownsRow_sortedI (ss:=J) hc hb e3 e4' e5 e6
theorem Zek {ρ:Shelf.Ren} (U:Lays.n189 c.P ρ) {d:Option Nat} {g:Option (Nat×Bool)} {l:List EOp} {j T f:Nat} {x:X} (J:List Int) (hg:gm S g) (Y:f=ρ.f 189) (hx:S.x x = .osl j) (hj:Zp S.ss j=some ⟨T,1,J.map Z4d⟩) (h6:J.length<4611686018427387904)
  (h:V c fn K (.ops l::k) ((⟨S.tm,S.bs,Zq S.ss j (some ⟨T,1,(J.mergeSort fun x y=>decide (x≤y)).map Z4d⟩)⟩:St).put d (.tup []))):V c fn K (.ops (⟨d,g,.call f [x]⟩::l)::k) S:=by
 subst Y;exact Z87 hg (Zdk U hx hj h6) rfl h
theorem Zfk {ρ:Shelf.Ren} (U:Lays2.n20 c.P ρ) {j T:Nat} {x:X} {J:List Int} (hx:S.x x = .osl j) (hj:Zp S.ss j=some ⟨T,1,J.map Z4d⟩) (hI:J.length<4611686018427387904):
  Z77 c S (.call (ρ.f 20) [x]) (.osl (Zw S.ss)) ⟨S.tm,S.bs,Zq S.ss j none++[some ⟨T,1,(Lib.compact J).map Z4d⟩]⟩:=by
 intro ro ho M a w hT next Q hn
 obtain ⟨dst,op,ty,pos,af,gd⟩:=ro;dsimp only at ho;obtain ⟨cargs,argTypes,rfl,hB,h9⟩:=Zb7 ho;obtain ⟨q,rfl⟩:∃q,cargs = #[q]:=by
  have:cargs.toList.length=1:=by have:=congrArg List.length h9;simpa using this
  obtain ⟨l⟩:=cargs
  match l,this with
  | [q],_=>exact ⟨q,rfl⟩
 have hC:cX q=x:=by simpa using h9
 have hq:=Z34 hT q;rw [hC,hx] at hq;obtain ⟨hJ,hq⟩:=hq;have hS:=hT.st;obtain ⟨g0,vss,h1,h2,h3,h4⟩:=hS.slc j _ hj;dsimp only at h1 h3 g0;have hD:=Zbk h1;have h8:(execOp a.eval ⟨dst,.call ⟨.value (.func (ρ.f 20)), #[q],argTypes⟩,ty,pos,af,gd⟩).run c.P w = .ok (.enter (ρ.f 20) (#[q].map a.eval)) w:=by have he:a.eval (.func (ρ.f 20)) = .func (.func (ρ.f 20)) #[] #[]:=rfl;generalize a.eval=ρ' at *;simp [execOp,resolve,Deferred.ofValue,invoke,he,Za7 hB]
 have e1:(#[q].map a.eval) = #[M.σ j]:=by apply Array.ext';simp;exact hq
 rw [e1] at h8;unfold Oper.wp;rw [h8];show Calls c.P (ρ.f 20) #[M.σ j] w _;obtain ⟨rs,hE,h6⟩:=Zck (M:=M.sl) (Lib.compact J);have hf:∀v∈rs.flatten,v.oneCell'=true:=by rw [h6];intro v hv;obtain ⟨z,_,rfl⟩:=List.mem_map.1 hv;rfl
 have hK:=Lib.compact_length_le J;have hw:∀i N,Zp (Zq S.ss j none) i=some N→Zp S.ss i=some N∧∀g,(M.σ j).ownBlock=some g→(M.σ i).ownBlock≠some g:=by
  intro i N hi;rw [Z62] at hi;split at hi
  ·simp at hi
  ·rename_i e;refine ⟨hi,fun g hg e2=>e ⟨?_,Z82 hj⟩⟩;exact hS.d3 i j N _ g hi hj e2 hg
 have fin:∀v' w',w.grownBy w' (M.σ j).ownBlock→v'.ownBlock=(M.σ j).ownBlock→w'.ownsRow 0 T 1 v' (Lib.compact J).length rs.flatten→next (a.put dst v') w':=fun v' w' hg hv hA=>by have hr:RelS c (M.addS v') S.bs (Zq S.ss j none++[some (⟨T,1,(Lib.compact J).map Z4d⟩:Sl)]) w':=RelS.grown (v:=M.σ j) (vss:=rs) hS (Z72 _ _ _) hw (.inr fun i B hi=>hS.d2 i j B _ hi hj) h4 hg (.inl hv) g0 hE hf (by simpa using hA);refine hn (M.addS v') w' v' (Mem.le_addS M v') hr ?_;rw [Z12,←hS.ns];exact ⟨Nat.lt_succ_self _,by simp [Mem.addS]⟩
 rcases h3.2 with ⟨e2,e3⟩ | ⟨g,cap,cur,e2,hb,e3,e4,e5,e6,e7⟩
 ·have hz:J=[]:=by simpa using e3
  subst hz;rw [e2] at fin ⊢;refine (Any.slices_Compact_int_empty U none 0 w).mono ?_;rintro e w' ⟨rfl,rfl⟩;refine fin _ _ ⟨rfl,rfl,rfl,Nat.le_refl _,fun _ _ _=>rfl⟩ rfl ?_;rw [h6];exact World.ownsRow_nil _ _ _ _
 ·have e4':J.length≤cap:=by simpa using e4
  rw [e2] at fin ⊢;simp only [List.length_map];rw [Nat.mul_one,List.length_map] at e7;rw [hD] at e7;refine (Any.slices_Compact_int U g 0 cap J w (holds_of_blockI e3 e7) (by omega) e4').mono ?_;rintro e w' ⟨rfl,n,rfl⟩;have hc:=grownBy_sortedI (w:=w) (g:=g) (n:=n) (os:= #[]) (Lib.compact J++List.replicate (J.length-(Lib.compact J).length) 0).toArray;have hd:=heap_sortedI (w:=w) (g:=g) (n:=n) (os:= #[]) (Lib.compact J++List.replicate (J.length-(Lib.compact J).length) 0).toArray e3;rw [Sort.grow_empty] at hc hd;refine fin _ _ hc rfl ⟨by rw [h6];simp,.inr ⟨g,cap,_,rfl,hb,hd,by omega,e5,by simp [Sort.putCells,e6],?_⟩⟩;have hG:=take_putCellsI cur (Lib.compact J++List.replicate (J.length-(Lib.compact J).length) 0) (by simp;omega);rw [h6,Nat.mul_one];have:=congrArg (List.take (Lib.compact J).length) hG;rw [List.take_take,List.map_append,List.take_append_of_le_length (by simp)] at this;rw [Nat.min_eq_left (by simp)] at this;rw [this,List.take_of_length_le (by simp)]
theorem Zgk {ρ:Shelf.Ren} (U:Lays2.n20 c.P ρ) {d:Option Nat} {g:Option (Nat×Bool)} {l:List EOp} {j T f:Nat} {x:X} (J:List Int) (hg:gm S g) (Y:f=ρ.f 20) (hx:S.x x = .osl j) (hj:Zp S.ss j=some ⟨T,1,J.map Z4d⟩) (h6:J.length<4611686018427387904)
  (h:V c fn K (.ops l::k) ((⟨S.tm,S.bs,Zq S.ss j none++[some ⟨T,1,(Lib.compact J).map Z4d⟩]⟩:St).put d (.osl (Zw S.ss)))):V c fn K (.ops (⟨d,g,.call f [x]⟩::l)::k) S:=by
 subst Y;exact Z87 hg (Zfk U hx hj h6) rfl h
end
end NX
end Go.Proofs.YtgamgemlekpepaaGreat
/-
  The function slices.IndexFunc[[]narthex/api.Side,narthex/api.Side]: its code compiled, a model, and that the code answers as the model. Written by a program of ours (lb.py). No statement of the seat is proved here.
-/
namespace Go.Proofs.YtgamgemlekpepaaGreat
namespace NX
open Go
noncomputable section
@[go_sem] def e119:EC:=eQ Tryz.f119
theorem Zhk:FnOK Tryz.prog 119 Tryz.f119 e119 [.t 4] 2 17:=okA
def Zik:Unit→Option Int
| ()=>some (-1)
def Zjk (x1:List SX) (p1:(SX→Option Bool)):Int→Option (Int ⊕ Int)
| x5=>
 ifb (decide (x5<(ln SX.row x1))) (
 (at_ x1 x5).bind fun x6=>
 (p1 x6).bind fun x7=>
 ifb x7 (
 Option.map Sum.inr (some x5)) (
 some (.inl (wr (x5+1))))) (
 Option.map Sum.inr (Zik ()))
def Zkk (x1:List SX) (p1:(SX→Option Bool)):Option Int:=loop (Zjk x1 p1) 0
theorem Zlk {x1 g1 caps1 p1 r} (h:Zkk x1 p1=some r) (hc1:CloOK Tryz.prog g1 caps1 (fun z=>[.agg (SX.row z)]) p1 (fun z=>.bv z)):FPx 119 [Sp3 x1,.clo g1 caps1] (.iv r):=by
 refine FP Zhk fun w0 H0=>?_;rw [Zkk] at h;refine Vg 11 ?_;refine Vk [] (fun _=>[]) Zik r ?_ fun J1=>?_
 ·rintro ⟨⟩ h;rw [Zik] at h;refine Vg 4 ?_;exact MD Zhk h
 ·refine Vg 1 ?_;refine Mk h [0,2,5,1] (fun x5=>[(8,.iv x5)]) ?_ (hok:=by intro x5;first | rfl | (simp [go_sem];done) | simp [go_sem,Zqb _ hc1.pu]);rintro n1 x5 y1 h hin1 hout1;rw [Zjk] at h;refine Vg 5 ?_;refine MI h (fun h=>?_) fun h=>?_
  ·refine Vg 13 ?_;have ⟨x6,ex6,h⟩:=Bs h;refine Zjc SX.row ex6 trivial rfl rfl rfl (Vg 1 ?_);have ⟨x7,ex7,h⟩:=Bs h;refine Z3d trivial rfl hc1 (x:=x6) ex7 (by first | exact Zrb _ | simp [go_sem]) (by first | rfl | simp [go_sem,hc1.pu]) (Vg 1 ?_);refine MI h (fun h=>?_) fun h=>?_
   ·refine Vg 5 ?_;exact MD Zhk (Zec h hout1)
   ·refine Vg 6 ?_;exact Zsc h hin1 (hok:=by first | rfl | simp [go_sem,Zqb _ hc1.pu])
  ·refine Vg 1 ?_;exact Ztc J1 (Zec h hout1) (hok:=by first | rfl | simp [go_sem,Zqb _ hc1.pu])
@[go_sem] def e160:EC:=eQ Tryz.f160
theorem Zmk:FnOK Tryz.prog 160 Tryz.f160 e160 [.t 4] 2 17:=okA
def Znk:Unit→Option Int
| ()=>some (-1)
def Zok (x1:List KE) (p1:(KE→Option Bool)):Int→Option (Int ⊕ Int)
| x5=>
 ifb (decide (x5<(ln KE.row x1))) (
 (at_ x1 x5).bind fun x6=>
 (p1 x6).bind fun x7=>
 ifb x7 (
 Option.map Sum.inr (some x5)) (
 some (.inl (wr (x5+1))))) (
 Option.map Sum.inr (Znk ()))
def Zpk (x1:List KE) (p1:(KE→Option Bool)):Option Int:=loop (Zok x1 p1) 0
theorem Zqk {x1 g1 caps1 p1 r} (h:Zpk x1 p1=some r) (hc1:CloOK Tryz.prog g1 caps1 (fun z=>[.agg (KE.row z)]) p1 (fun z=>.bv z)):FPx 160 [Sp2 x1,.clo g1 caps1] (.iv r):=by
 refine FP Zmk fun w0 H0=>?_;rw [Zpk] at h;refine Vg 11 ?_;refine Vk [] (fun _=>[]) Znk r ?_ fun J1=>?_
 ·rintro ⟨⟩ h;rw [Znk] at h;refine Vg 4 ?_;exact MD Zmk h
 ·refine Vg 1 ?_;refine Mk h [0,2,5,1] (fun x5=>[(8,.iv x5)]) ?_ (hok:=by intro x5;first | rfl | (simp [go_sem];done) | simp [go_sem,Zqb _ hc1.pu]);rintro n1 x5 y1 h hin1 hout1;rw [Zok] at h;refine Vg 5 ?_;refine MI h (fun h=>?_) fun h=>?_
  ·refine Vg 13 ?_;have ⟨x6,ex6,h⟩:=Bs h;refine Zjc KE.row ex6 trivial rfl rfl rfl (Vg 1 ?_);have ⟨x7,ex7,h⟩:=Bs h;refine Z3d trivial rfl hc1 (x:=x6) ex7 (by first | exact Zrb _ | simp [go_sem]) (by first | rfl | simp [go_sem,hc1.pu]) (Vg 1 ?_);refine MI h (fun h=>?_) fun h=>?_
   ·refine Vg 5 ?_;exact MD Zmk (Zec h hout1)
   ·refine Vg 6 ?_;exact Zsc h hin1 (hok:=by first | rfl | simp [go_sem,Zqb _ hc1.pu])
  ·refine Vg 1 ?_;exact Ztc J1 (Zec h hout1) (hok:=by first | rfl | simp [go_sem,Zqb _ hc1.pu])
@[go_sem] def e164:EC:=eQ Tryz.f164
theorem Zrk:FnOK Tryz.prog 164 Tryz.f164 e164 [.t 4] 2 17:=okA
def Zsk:Unit→Option Int
| ()=>some (-1)
def Ztk (x1:List SE) (p1:(SE→Option Bool)):Int→Option (Int ⊕ Int)
| x5=>
 ifb (decide (x5<(ln SE.row x1))) (
 (at_ x1 x5).bind fun x6=>
 (p1 x6).bind fun x7=>
 ifb x7 (
 Option.map Sum.inr (some x5)) (
 some (.inl (wr (x5+1))))) (
 Option.map Sum.inr (Zsk ()))
def Zuk (x1:List SE) (p1:(SE→Option Bool)):Option Int:=loop (Ztk x1 p1) 0
theorem Zvk {x1 g1 caps1 p1 r} (h:Zuk x1 p1=some r) (hc1:CloOK Tryz.prog g1 caps1 (fun z=>[.agg (SE.row z)]) p1 (fun z=>.bv z)):FPx 164 [Sp5 x1,.clo g1 caps1] (.iv r):=by
 refine FP Zrk fun w0 H0=>?_;rw [Zuk] at h;refine Vg 11 ?_;refine Vk [] (fun _=>[]) Zsk r ?_ fun J1=>?_
 ·rintro ⟨⟩ h;rw [Zsk] at h;refine Vg 4 ?_;exact MD Zrk h
 ·refine Vg 1 ?_;refine Mk h [0,2,5,1] (fun x5=>[(8,.iv x5)]) ?_ (hok:=by intro x5;first | rfl | (simp [go_sem];done) | simp [go_sem,Zqb _ hc1.pu]);rintro n1 x5 y1 h hin1 hout1;rw [Ztk] at h;refine Vg 5 ?_;refine MI h (fun h=>?_) fun h=>?_
  ·refine Vg 13 ?_;have ⟨x6,ex6,h⟩:=Bs h;refine Zjc SE.row ex6 trivial rfl rfl rfl (Vg 1 ?_);have ⟨x7,ex7,h⟩:=Bs h;refine Z3d trivial rfl hc1 (x:=x6) ex7 (by first | exact Zrb _ | simp [go_sem]) (by first | rfl | simp [go_sem,hc1.pu]) (Vg 1 ?_);refine MI h (fun h=>?_) fun h=>?_
   ·refine Vg 5 ?_;exact MD Zrk (Zec h hout1)
   ·refine Vg 6 ?_;exact Zsc h hin1 (hok:=by first | rfl | simp [go_sem,Zqb _ hc1.pu])
  ·refine Vg 1 ?_;exact Ztc J1 (Zec h hout1) (hok:=by first | rfl | simp [go_sem,Zqb _ hc1.pu])
def Zwk:Unit→Option Int
| ()=>some (-1)
def Zxk (x1:List Int) (p1:(Int→Option Bool)):Int→Option (Int ⊕ Int)
| x5=>
 ifb (decide (x5<(ln Z4d x1))) (
 (at_ x1 x5).bind fun x6=>
 (p1 x6).bind fun x7=>
 ifb x7 (
 Option.map Sum.inr (some x5)) (
 some (.inl (wr (x5+1))))) (
 Option.map Sum.inr (Zwk ()))
def Zyk (x1:List Int) (p1:(Int→Option Bool)):Option Int:=loop (Zxk x1 p1) 0
theorem Zzk {x1 g1 caps1 p1 r} (h:Zyk x1 p1=some r) (hc1:CloOK Tryz.prog g1 caps1 (fun z=>[.iv z]) p1 (fun z=>.bv z)):FPx 158 [Sp1 x1,.clo g1 caps1] (.iv r):=by
 have ok:=oJ 158 Tryz.f158 [.t 4] 2 17;refine FP ok fun w0 H0=>?_;rw [Zyk] at h;refine Vg 11 ?_;refine Vk [] (fun _=>[]) Zwk r ?_ fun J1=>?_
 ·rintro ⟨⟩ h;rw [Zwk] at h;refine Vg 4 ?_;exact MD ok h
 ·refine Vg 1 ?_;refine Mk h [0,2,5,1] (fun x5=>[(8,.iv x5)]) ?_ (hok:=by intro x5;first | rfl | (simp [go_sem];done) | simp [go_sem,Zqb _ hc1.pu]);rintro n1 x5 y1 h hin1 hout1;rw [Zxk] at h;refine Vg 5 ?_;refine MI h (fun h=>?_) fun h=>?_
  ·refine Vg 13 ?_;have ⟨x6,ex6,h⟩:=Bs h;refine Zjc Z4d ex6 trivial rfl rfl rfl (Vg 1 ?_);have ⟨x7,ex7,h⟩:=Bs h;refine Z3d trivial rfl hc1 (x:=x6) ex7 (by first | exact Zrb _ | simp [go_sem]) (by first | rfl | simp [go_sem,hc1.pu]) (Vg 1 ?_);refine MI h (fun h=>?_) fun h=>?_
   ·refine Vg 5 ?_;exact MD ok (Zec h hout1)
   ·refine Vg 6 ?_;exact Zsc h hin1 (hok:=by first | rfl | simp [go_sem,Zqb _ hc1.pu])
  ·refine Vg 1 ?_;exact Ztc J1 (Zec h hout1) (hok:=by first | rfl | simp [go_sem,Zqb _ hc1.pu])
def Z0l:Unit→Option Bool
| ()=>some false
def Z1l (x1:List Int) (x2:Int):Int→Option (Int ⊕ Bool)
| x5=>
 ifb (decide (x5<(ln Z4d x1))) (
 (at_ x1 x5).bind fun x6=>
 ifb (decide (x6=x2)) (
 Option.map Sum.inr (some true)) (
 some (.inl (wr (x5+1))))) (
 Option.map Sum.inr (Z0l ()))
def Z2l (x1:List Int) (x2:Int):Option Bool:=loop (Z1l x1 x2) 0
theorem Z3l {x1 x2 r} (h:Z2l x1 x2=some r):FPx 95 [Sp1 x1,.iv x2] (.bv r):=by
 have ok:=oJ 95 Tryz.f95 [.t 4] 2 16;refine FP ok fun w0 H0=>?_;rw [Z2l] at h;refine Vg 9 ?_;refine Vk [] (fun _=>[]) Z0l r ?_ fun J1=>?_
 ·rintro ⟨⟩ h;rw [Z0l] at h;exact W
 ·refine Vg 1 ?_;refine Mk h [0,2] (fun x5=>[(5,.iv x5)]) ?_;rintro n1 x5 y1 h hin1 hout1;rw [Z1l] at h;exact W
def Z4l:Unit→Option Bool
| ()=>some true
def Z5l (x1 x2:List Int):Int→Option (Int ⊕ Bool)
| x6=>
 ifb (decide (x6<(ln Z4d x1))) (
 (at_ x1 x6).bind fun x7=>
 (at_ x2 x6).bind fun x8=>
 ifb (!decide (x7=x8)) (
 Option.map Sum.inr (some false)) (
 some (.inl (wr (x6+1))))) (
 Option.map Sum.inr (Z4l ()))
def Z6l (x1 x2:List Int):Option Bool:=
 ifb (!decide ((ln Z4d x1)=(ln Z4d x2))) (
 some false) (
 loop (Z5l x1 x2) 0)
theorem Z7l {x1 x2 r} (h:Z6l x1 x2=some r):FPx 35 [Sp1 x1,Sp1 x2] (.bv r):=by
 have ok:=oJ 35 Tryz.f35 [.t 4] 2 24;refine FP ok fun w0 H0=>?_;rw [Z6l] at h;refine Vg 13 ?_;refine MI h (fun h=>?_) fun h=>?_
 ·exact W
 ·refine Vg 6 ?_;refine Vk [] (fun _=>[]) Z4l r ?_ fun J1=>?_
  ·rintro ⟨⟩ h;rw [Z4l] at h;exact W
  ·refine Vg 1 ?_;refine Mk h [0,2] (fun x6=>[(5,.iv x6)]) ?_;rintro n1 x6 y1 h hin1 hout1;rw [Z5l] at h;refine Vg 8 ?_;refine MI h (fun h=>?_) fun h=>?_
   ·refine Vg 4 ?_;have ⟨x7,ex7,h⟩:=Bs h;have ⟨x8,ex8,h⟩:=Bs h;refine Zgj fun all H=>Gs ?_;exact W
   ·exact W
@[go_sem] def e47:EC:=eQ Tryz.f47
theorem Z8l:FnOK Tryz.prog 47 Tryz.f47 e47 [.t 2] 1 7:=okA
def Z9l (x1:List Int):Option (List Int):=Z8c 8 [] x1
theorem Zal {x1 r} (h:Z9l x1=some r):FOx 47 [Sp1 x1] 3 1 (List.map Z4d r):=by
 refine Zrd Z8l rfl fun w0 H0=>?_;rw [Z9l] at h;refine Zg6 100 ?_;dsimp only [e47,go_sem];refine ⟨by simp,?_⟩;refine Zpd trivial rfl (fun hn=>?_) ?_
 ·refine Zg6 100 ?_;dsimp only[go_sem];refine ⟨by simp,?_⟩;refine Zcb 2 3 1 rfl rfl ?_;dsimp only[go_sem];have hn:x1=[]:=by simpa using hn
  subst hn;exact Zae Z4d (e:=[]) Z8l (by simpa [Z8c] using h) rfl rfl
 ·refine Zg6 100 ?_;dsimp only[go_sem];refine ⟨by simp,?_⟩;refine Zmc Z4d h trivial rfl rfl rfl ?_;refine Zg6 100 ?_;dsimp only[go_sem];refine ⟨by simp,?_⟩;exact Zae Z4d Z8l (rfl:some r=some r) rfl rfl
theorem Zbl {x1 r} (h:Z9l x1=some r):FPx 47 [Sp1 x1] (Sp1 r):=(Zal h).sealed
@[go_sem] def e246:EC:=eQ Tryz.f246
theorem Zcl:FnOK Tryz.prog 246 Tryz.f246 e246 [.t 4] 2 25:=okA
def Zdl:Unit→Option Int
| ()=>some (-1)
def Zel (x1:List Int) (x2:Int):Int→Option (Int ⊕ Int)
| x5=>
 ifb (decide (x5<(ln Z4d x1))) (
 (at_ x1 x5).bind fun x6=>
 ifb (decide (x2=x6)) (
 Option.map Sum.inr (some x5)) (
 some (.inl (wr (x5+1))))) (
 Option.map Sum.inr (Zdl ()))
def Zfl (x1:List Int) (x2:Int):Option Int:=loop (Zel x1 x2) 0
theorem Zgl {x1 x2 r} (h:Zfl x1 x2=some r):FPx 178 [Sp1 x1,.iv x2] (.iv r):=by
 have ok:=oJ 178 Tryz.f178 [.t 4] 2 17;refine FP ok fun w0 H0=>?_;rw [Zfl] at h;refine Vg 11 ?_;refine Vk [] (fun _=>[]) Zdl r ?_ fun J1=>?_
 ·rintro ⟨⟩ h;rw [Zdl] at h;exact W
 ·refine Vg 1 ?_;refine Mk h [0,2,5,1] (fun x5=>[(8,.iv x5)]) ?_;rintro n1 x5 y1 h hin1 hout1;rw [Zel] at h;exact W
end
end NX
end Go.Proofs.YtgamgemlekpepaaGreat
