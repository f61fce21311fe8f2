/-
  The symbolic machine: own slices of integers, sorted by the library. No statement of the seat is proved here.
-/
import Derived.Shelf.Sort.Plain
import Derived.Shelf.Slices.In.SortNone
import Derived.Sort.OwnSortedInts
import Derived.Shelf.Slices.CompactI
import Derived.Lib.RowBridge
import Derived.Test.YtdjkbodnjhgbcaaGreatP13
set_option maxRecDepth 100000
set_option maxHeartbeats 4000000
namespace Go.Proofs.YtdjkbodnjhgbcaaGreat
namespace NX
open Go Go.RowKit
section
variable {c:Ctx} {M:Mem} {S S':St} {a:Act} {w:World} {fn:Func} {K:AV→List (Option Blk)→List (Option Sl)→Prop} {k:List It} {bs:List (Option Blk)} {ss:List (Option Sl)}
theorem isLL_ints {M:Mem} {zs:List Int} {vss:List (List Value)} (h:AV.isLL M 1 (zs.map Z05) vss):vss.flatten=zs.map (Value.int .i64):=by
 induction zs generalizing vss with
 | nil=>simp [AV.isLL] at h;subst h;rfl
 | cons z zs ih=>
   obtain ⟨v,r,rfl,h1,h2,h3⟩:=h
   obtain ⟨u,q,rfl,h4,h5⟩:=h2
   simp only [AV.isL] at h5
   simp only [AV.is] at h4
   subst h5;subst h4
   simp [ih h3]
theorem Zb7 {M:Mem}:∀(zs:List Int),∃vss,AV.isLL M 1 (zs.map Z05) vss∧vss.flatten=zs.map (Value.int .i64)
 | []=>⟨[],rfl,rfl⟩
 | z::zs=>by
   obtain ⟨vss,h1,h2⟩:=Zb7 (M:=M) zs
   exact ⟨[.int .i64 z]::vss,⟨_,_,rfl,rfl,⟨_,_,rfl,rfl,rfl⟩,h1⟩,by simp [h2]⟩
theorem sem_sort {ρ:Shelf.Ren} (Ly:Lays.n189 c.P ρ) {j T:Nat} {x:X} {zs:List Int} (hx:S.x x = .osl j) (hj:Zf S.ss j=some ⟨T,1,zs.map Z05⟩) (hd:zs.length<4611686018427387904):
  Z43 c S (.call (ρ.f 189) [x]) (.tup []) ⟨S.tm,S.bs,Zg S.ss j (some ⟨T,1,(zs.mergeSort fun x y=>decide (x≤y)).map Z05⟩)⟩:=by
 intro ro ho M a w hT next Q hn
 obtain ⟨dst,op,ty,pos,af,gd⟩:=ro
 dsimp only at ho
 obtain ⟨cargs,argTypes,rfl,hw,h8⟩:=Z73 ho
 obtain ⟨q,rfl⟩:∃q,cargs = #[q]:=by
  have:cargs.toList.length=1:=by have:=congrArg List.length h8;simpa using this
  obtain ⟨l⟩:=cargs
  match l,this with
  | [q],_=>exact ⟨q,rfl⟩
 have hA:cX q=x:=by simpa using h8
 have hq:=Z22 hT q
 rw [hA,hx] at hq
 obtain ⟨hD,hq⟩:=hq
 obtain ⟨g0,vss,h1,h2,h3,h4⟩:=hT.st.slc j _ hj
 dsimp only at h1 h3 g0
 have hB:=isLL_ints h1
 have h6:(execOp a.eval ⟨dst,.call ⟨.value (.func (ρ.f 189)), #[q],argTypes⟩,ty,pos,af,gd⟩).run c.P w = .ok (.enter (ρ.f 189) (#[q].map a.eval)) w:=by
  have he:a.eval (.func (ρ.f 189)) = .func (.func (ρ.f 189)) #[] #[]:=rfl
  generalize a.eval=ρ' at *
  simp [execOp,resolve,Deferred.ofValue,invoke,he,Z63 hw]
 have e1:(#[q].map a.eval) = #[M.σ j]:=by
  apply Array.ext';simp;exact hq
 rw [e1] at h6
 unfold Oper.wp
 rw [h6]
 show Calls c.P (ρ.f 189) #[M.σ j] w _
 obtain ⟨rs,hC,h9⟩:=Zb7 (M:=M.sl) (zs.mergeSort fun x y=>decide (x≤y))
 have hf:∀v∈rs.flatten,v.oneCell'=true:=by
  rw [h9];intro v hv
  obtain ⟨z,_,rfl⟩:=List.mem_map.1 hv;rfl
 have hc:(zs.mergeSort fun x y=>decide (x≤y)).length=zs.length:=by simp
 rcases h3.2 with ⟨e2,e3⟩ | ⟨g,cap,cur,e2,hb,e3,e4,e5,e6,e7⟩
 ·have hz:zs=[]:=by simpa using e3
  subst hz
  rw [e2]
  refine (Any.slices_Sort_int_none Ly none 0 w).mono ?_
  rintro e w' ⟨rfl,rfl⟩
  refine hn M _ _ (.refl M) ?_ ⟨[],rfl,rfl⟩
  have:Zg S.ss j (some (⟨T,1,([].mergeSort fun (x y:Int)=>decide (x≤y)).map Z05⟩:Sl))=S.ss:=by
   have hj':=hj
   simp only [List.map_nil] at hj'
   have:∀(l:List (Option Sl)) (j:Nat) (L:Sl),Zf l j=some L→Zg l j (some L)=l:=by
    intro l
    induction l with
    | nil=>intro j L h;simp [Zf] at h
    | cons x l ih=>intro j L h;cases j with
      | zero=>simp [Zf] at h;subst h;rfl
      | succ j=>simp only [Zg];rw [ih j L (by simpa [Zf] using h)]
   simpa using this _ _ _ hj'
  rw [this];exact hT.st
 ·have e4':zs.length≤cap:=by simpa using e4
  rw [e2]
  simp only [List.length_map]
  rw [Nat.mul_one,List.length_map] at e7
  rw [hB] at e7
  refine (Any.slices_Sort_int Ly g 0 cap zs w (holds_of_blockI e3 e7) (Array.getElem?_eq_some_iff.1 e3).1 hd).mono ?_
  rintro e w' ⟨rfl,n,os,rfl⟩
  refine hn M _ _ (.refl M) ?_ ⟨[],rfl,rfl⟩
  refine hT.st.rewrite hj (g:=g) (by rw [e2];rfl) (grownBy_sortedI _) (vss':=rs) hC hf ?_
  rw [h9,List.length_map,hc,e2,List.length_map]
  exact ownsRow_sortedI (ss:=zs) hc hb e3 e4' e5 e6
theorem V_sort {ρ:Shelf.Ren} (Ly:Lays.n189 c.P ρ) {d:Option Nat} {g:Option (Nat×Bool)} {l:List EOp} {j T f:Nat} {x:X} (zs:List Int) (hg:gm S g) (hf:f=ρ.f 189) (hx:S.x x = .osl j) (hj:Zf S.ss j=some ⟨T,1,zs.map Z05⟩) (h6:zs.length<4611686018427387904)
  (h:V c fn K (.ops l::k) ((⟨S.tm,S.bs,Zg S.ss j (some ⟨T,1,(zs.mergeSort fun x y=>decide (x≤y)).map Z05⟩)⟩:St).put d (.tup []))):V c fn K (.ops (⟨d,g,.call f [x]⟩::l)::k) S:=by
 subst hf
 exact Z53 hg (sem_sort Ly hx hj h6) rfl h
theorem sem_compact {ρ:Shelf.Ren} (Ly:Lays2.n20 c.P ρ) {j T:Nat} {x:X} {zs:List Int} (hx:S.x x = .osl j) (hj:Zf S.ss j=some ⟨T,1,zs.map Z05⟩) (hI:zs.length<4611686018427387904):
  Z43 c S (.call (ρ.f 20) [x]) (.osl (Zj S.ss)) ⟨S.tm,S.bs,Zg S.ss j none++[some ⟨T,1,(Lib.compact zs).map Z05⟩]⟩:=by
 intro ro ho M a w hT next Q hn
 obtain ⟨dst,op,ty,pos,af,gd⟩:=ro
 dsimp only at ho
 obtain ⟨cargs,argTypes,rfl,hB,h9⟩:=Z73 ho
 obtain ⟨q,rfl⟩:∃q,cargs = #[q]:=by
  have:cargs.toList.length=1:=by have:=congrArg List.length h9;simpa using this
  obtain ⟨l⟩:=cargs
  match l,this with
  | [q],_=>exact ⟨q,rfl⟩
 have hC:cX q=x:=by simpa using h9
 have hq:=Z22 hT q
 rw [hC,hx] at hq
 obtain ⟨hJ,hq⟩:=hq
 have hS:=hT.st
 obtain ⟨g0,vss,h1,h2,h3,h4⟩:=hS.slc j _ hj
 dsimp only at h1 h3 g0
 have hD:=isLL_ints h1
 have h8:(execOp a.eval ⟨dst,.call ⟨.value (.func (ρ.f 20)), #[q],argTypes⟩,ty,pos,af,gd⟩).run c.P w = .ok (.enter (ρ.f 20) (#[q].map a.eval)) w:=by
  have he:a.eval (.func (ρ.f 20)) = .func (.func (ρ.f 20)) #[] #[]:=rfl
  generalize a.eval=ρ' at *
  simp [execOp,resolve,Deferred.ofValue,invoke,he,Z63 hB]
 have e1:(#[q].map a.eval) = #[M.σ j]:=by
  apply Array.ext';simp;exact hq
 rw [e1] at h8
 unfold Oper.wp
 rw [h8]
 show Calls c.P (ρ.f 20) #[M.σ j] w _
 obtain ⟨rs,hE,h6⟩:=Zb7 (M:=M.sl) (Lib.compact zs)
 have hf:∀v∈rs.flatten,v.oneCell'=true:=by
  rw [h6];intro v hv
  obtain ⟨z,_,rfl⟩:=List.mem_map.1 hv;rfl
 have hK:=Lib.compact_length_le zs
 have hw:∀i N,Zf (Zg S.ss j none) i=some N→Zf S.ss i=some N∧∀g,(M.σ j).ownBlock=some g→(M.σ i).ownBlock≠some g:=by
  intro i N hi
  rw [Ze1] at hi
  split at hi
  ·simp at hi
  ·rename_i e
   refine ⟨hi,fun g hg e2=>e ⟨?_,Zg1 hj⟩⟩
   exact hS.d3 i j N _ g hi hj e2 hg
 have fin:∀v' w',w.grownBy w' (M.σ j).ownBlock→v'.ownBlock=(M.σ j).ownBlock→w'.ownsRow 0 T 1 v' (Lib.compact zs).length rs.flatten→next (a.put dst v') w':=fun v' w' hg hv hA=>by
  have hr:RelS c (M.addS v') S.bs (Zg S.ss j none++[some (⟨T,1,(Lib.compact zs).map Z05⟩:Sl)]) w':=
   RelS.grown (v:=M.σ j) (vss:=rs) hS (Zf1 _ _ _) hw (.inr fun i B hi=>hS.d2 i j B _ hi hj) h4 hg (.inl hv) g0 hE hf (by simpa using hA)
  refine hn (M.addS v') w' v' (Mem.le_addS M v') hr ?_
  rw [Za1,←hS.ns]
  exact ⟨Nat.lt_succ_self _,by simp [Mem.addS]⟩
 rcases h3.2 with ⟨e2,e3⟩ | ⟨g,cap,cur,e2,hb,e3,e4,e5,e6,e7⟩
 ·have hz:zs=[]:=by simpa using e3
  subst hz
  rw [e2] at fin ⊢
  refine (Any.slices_Compact_int_empty Ly none 0 w).mono ?_
  rintro e w' ⟨rfl,rfl⟩
  refine fin _ _ ⟨rfl,rfl,rfl,Nat.le_refl _,fun _ _ _=>rfl⟩ rfl ?_
  rw [h6]
  exact World.ownsRow_nil _ _ _ _
 ·have e4':zs.length≤cap:=by simpa using e4
  rw [e2] at fin ⊢
  simp only [List.length_map]
  rw [Nat.mul_one,List.length_map] at e7
  rw [hD] at e7
  refine (Any.slices_Compact_int Ly g 0 cap zs w (holds_of_blockI e3 e7) (by omega) e4').mono ?_
  rintro e w' ⟨rfl,n,rfl⟩
  have hc:=grownBy_sortedI (w:=w) (g:=g) (n:=n) (os:= #[]) (Lib.compact zs++List.replicate (zs.length-(Lib.compact zs).length) 0).toArray
  have hd:=heap_sortedI (w:=w) (g:=g) (n:=n) (os:= #[]) (Lib.compact zs++List.replicate (zs.length-(Lib.compact zs).length) 0).toArray e3
  rw [Sort.grow_empty] at hc hd
  refine fin _ _ hc rfl ⟨by rw [h6];simp,.inr ⟨g,cap,_,rfl,hb,hd,by omega,e5,by simp [Sort.putCells,e6],?_⟩⟩
  have hG:=take_putCellsI cur (Lib.compact zs++List.replicate (zs.length-(Lib.compact zs).length) 0) (by simp;omega)
  rw [h6,Nat.mul_one]
  have:=congrArg (List.take (Lib.compact zs).length) hG
  rw [List.take_take,List.map_append,List.take_append_of_le_length (by simp)] at this
  rw [Nat.min_eq_left (by simp)] at this
  rw [this,List.take_of_length_le (by simp)]
theorem V_compact {ρ:Shelf.Ren} (Ly:Lays2.n20 c.P ρ) {d:Option Nat} {g:Option (Nat×Bool)} {l:List EOp} {j T f:Nat} {x:X} (zs:List Int) (hg:gm S g) (hf:f=ρ.f 20) (hx:S.x x = .osl j) (hj:Zf S.ss j=some ⟨T,1,zs.map Z05⟩) (h6:zs.length<4611686018427387904)
  (h:V c fn K (.ops l::k) ((⟨S.tm,S.bs,Zg S.ss j none++[some ⟨T,1,(Lib.compact zs).map Z05⟩]⟩:St).put d (.osl (Zj S.ss)))):V c fn K (.ops (⟨d,g,.call f [x]⟩::l)::k) S:=by
 subst hf
 exact Z53 hg (sem_compact Ly hx hj h6) rfl h
end
end NX
end Go.Proofs.YtdjkbodnjhgbcaaGreat
/-
  The function slices.IndexFunc[[]narthex/api.Side,narthex/api.Side]: its code compiled, a model, and that the code answers as the model. Written by a program of ours (lb.py). No statement of the seat is proved here.
-/
namespace Go.Proofs.YtdjkbodnjhgbcaaGreat
namespace NX
open Go
noncomputable section
@[go_sem] def e67:EC:=(by have h:=hF Tryz.f67;(conv at h=>rhs;reduce);dsimp only[go_sem] at h;exact ⟨_,h⟩:DP Tryz.f67).1
theorem ok67:FnOK Tryz.prog 67 Tryz.f67 e67 [.t 4] 2 17:=okA
def Zc7:Unit→Option Int
| ()=>
 some (-1)
def Zd7 (x1:List Side) (p1:(Side→Option Bool)):Int→Option (Int ⊕ Int)
| x5=>
 ifb (decide (x5<(ln Side.row x1))) (
 (at_ x1 x5).bind fun x6=>
 (p1 x6).bind fun x7=>
 ifb x7 (
 Option.map Sum.inr (some x5)) (
 some (.inl (wr (x5+1))))) (
 Option.map Sum.inr (Zc7 ()))
def Ze7 (x1:List Side) (p1:(Side→Option Bool)):Option Int:=
 loop (Zd7 x1 p1) 0
theorem Zf7 (x1:List Side) (g1:Nat) (caps1:List AV) (p1:(Side→Option Bool)) (hc1:CloOK Tryz.prog g1 caps1 (fun z=>[.agg (Side.row z)]) p1 (fun z=>.bv z)) (r:Int) (h:Ze7 x1 p1=some r):Z03 Tryz.prog 67 [Sp2 x1,.clo g1 caps1] (.iv r):=by
 refine FP ok67 fun w0 H0=>?_
 rw [Ze7] at h
 refine Vg 11 ?_;refine Zo4 (fun (_:Unit)=>⟨an 19 [],[],[]⟩) Zc7 r ?_ fun J1=>?_
 ·rintro ⟨⟩ h;rw [Zc7] at h;(try dsimp only);refine Vg 4 ?_;exact MD ok67 h
 ·refine Vg 1 ?_;refine Zp4 h (fun (x5:Int)=>⟨(Sp2 x1 :: .clo g1 caps1::an 5 (.iv (ln Side.row x1) :: .iv x5::an 10 [])),[],[]⟩) (by simp [go_sem]) (by intro x5;first | rfl | simp [go_sem,Zh4 _ hc1.pu]) ?_;rintro n1 x5 y1 h hin1 hout1;rw [Zd7] at h;(try dsimp only);refine Vg 5 ?_;refine MI h (fun h=>?_) fun h=>?_
  ·refine Vg 13 ?_;have ⟨x6,ex6,h⟩:=Bs h;refine Zs4 Side.row ex6 trivial rfl rfl rfl (Vg 1 ?_);have ⟨x7,ex7,h⟩:=Bs h;refine Zz4 trivial rfl hc1 (x:=x6) ex7 (by first | exact Zi4 _ | simp [go_sem]) (by first | rfl | simp [go_sem,hc1.pu]) (Vg 1 ?_);refine MI h (fun h=>?_) fun h=>?_
   ·refine Vg 5 ?_;exact MD ok67 (Zn4 h hout1)
   ·refine Vg 6 ?_;exact Zw4 h hin1 (hok:=by first | rfl | simp [go_sem,Zh4 _ hc1.pu])
  ·refine Vg 1 ?_;exact Zx4 J1 (Zn4 h hout1) (hok:=by first | rfl | simp [go_sem,Zh4 _ hc1.pu])
@[go_sem] def e137:EC:=(by have h:=hF Tryz.f137;(conv at h=>rhs;reduce);dsimp only[go_sem] at h;exact ⟨_,h⟩:DP Tryz.f137).1
theorem ok137:FnOK Tryz.prog 137 Tryz.f137 e137 [.t 4] 2 17:=okA
def Zg7:Unit→Option Int
| ()=>
 some (-1)
def Zh7 (x1:List KE) (p1:(KE→Option Bool)):Int→Option (Int ⊕ Int)
| x5=>
 ifb (decide (x5<(ln KE.row x1))) (
 (at_ x1 x5).bind fun x6=>
 (p1 x6).bind fun x7=>
 ifb x7 (
 Option.map Sum.inr (some x5)) (
 some (.inl (wr (x5+1))))) (
 Option.map Sum.inr (Zg7 ()))
def Zi7 (x1:List KE) (p1:(KE→Option Bool)):Option Int:=
 loop (Zh7 x1 p1) 0
theorem Zj7 (x1:List KE) (g1:Nat) (caps1:List AV) (p1:(KE→Option Bool)) (hc1:CloOK Tryz.prog g1 caps1 (fun z=>[.agg (KE.row z)]) p1 (fun z=>.bv z)) (r:Int) (h:Zi7 x1 p1=some r):Z03 Tryz.prog 137 [Sp1 x1,.clo g1 caps1] (.iv r):=by
 refine FP ok137 fun w0 H0=>?_
 rw [Zi7] at h
 refine Vg 11 ?_;refine Zo4 (fun (_:Unit)=>⟨an 19 [],[],[]⟩) Zg7 r ?_ fun J1=>?_
 ·rintro ⟨⟩ h;rw [Zg7] at h;(try dsimp only);refine Vg 4 ?_;exact MD ok137 h
 ·refine Vg 1 ?_;refine Zp4 h (fun (x5:Int)=>⟨(Sp1 x1 :: .clo g1 caps1::an 5 (.iv (ln KE.row x1) :: .iv x5::an 10 [])),[],[]⟩) (by simp [go_sem]) (by intro x5;first | rfl | simp [go_sem,Zh4 _ hc1.pu]) ?_;rintro n1 x5 y1 h hin1 hout1;rw [Zh7] at h;(try dsimp only);refine Vg 5 ?_;refine MI h (fun h=>?_) fun h=>?_
  ·refine Vg 13 ?_;have ⟨x6,ex6,h⟩:=Bs h;refine Zs4 KE.row ex6 trivial rfl rfl rfl (Vg 1 ?_);have ⟨x7,ex7,h⟩:=Bs h;refine Zz4 trivial rfl hc1 (x:=x6) ex7 (by first | exact Zi4 _ | simp [go_sem]) (by first | rfl | simp [go_sem,hc1.pu]) (Vg 1 ?_);refine MI h (fun h=>?_) fun h=>?_
   ·refine Vg 5 ?_;exact MD ok137 (Zn4 h hout1)
   ·refine Vg 6 ?_;exact Zw4 h hin1 (hok:=by first | rfl | simp [go_sem,Zh4 _ hc1.pu])
  ·refine Vg 1 ?_;exact Zx4 J1 (Zn4 h hout1) (hok:=by first | rfl | simp [go_sem,Zh4 _ hc1.pu])
@[go_sem] def e144:EC:=(by have h:=hF Tryz.f144;(conv at h=>rhs;reduce);dsimp only[go_sem] at h;exact ⟨_,h⟩:DP Tryz.f144).1
theorem ok144:FnOK Tryz.prog 144 Tryz.f144 e144 [.t 4] 2 17:=okA
def Zk7:Unit→Option Int
| ()=>
 some (-1)
def Zl7 (x1:List Sess) (p1:(Sess→Option Bool)):Int→Option (Int ⊕ Int)
| x5=>
 ifb (decide (x5<(ln Sess.row x1))) (
 (at_ x1 x5).bind fun x6=>
 (p1 x6).bind fun x7=>
 ifb x7 (
 Option.map Sum.inr (some x5)) (
 some (.inl (wr (x5+1))))) (
 Option.map Sum.inr (Zk7 ()))
def Zm7 (x1:List Sess) (p1:(Sess→Option Bool)):Option Int:=
 loop (Zl7 x1 p1) 0
theorem Zn7 (x1:List Sess) (g1:Nat) (caps1:List AV) (p1:(Sess→Option Bool)) (hc1:CloOK Tryz.prog g1 caps1 (fun z=>[.agg (Sess.row z)]) p1 (fun z=>.bv z)) (r:Int) (h:Zm7 x1 p1=some r):Z03 Tryz.prog 144 [Sp3 x1,.clo g1 caps1] (.iv r):=by
 refine FP ok144 fun w0 H0=>?_
 rw [Zm7] at h
 refine Vg 11 ?_;refine Zo4 (fun (_:Unit)=>⟨an 19 [],[],[]⟩) Zk7 r ?_ fun J1=>?_
 ·rintro ⟨⟩ h;rw [Zk7] at h;(try dsimp only);refine Vg 4 ?_;exact MD ok144 h
 ·refine Vg 1 ?_;refine Zp4 h (fun (x5:Int)=>⟨(Sp3 x1 :: .clo g1 caps1::an 5 (.iv (ln Sess.row x1) :: .iv x5::an 10 [])),[],[]⟩) (by simp [go_sem]) (by intro x5;first | rfl | simp [go_sem,Zh4 _ hc1.pu]) ?_;rintro n1 x5 y1 h hin1 hout1;rw [Zl7] at h;(try dsimp only);refine Vg 5 ?_;refine MI h (fun h=>?_) fun h=>?_
  ·refine Vg 13 ?_;have ⟨x6,ex6,h⟩:=Bs h;refine Zs4 Sess.row ex6 trivial rfl rfl rfl (Vg 1 ?_);have ⟨x7,ex7,h⟩:=Bs h;refine Zz4 trivial rfl hc1 (x:=x6) ex7 (by first | exact Zi4 _ | simp [go_sem]) (by first | rfl | simp [go_sem,hc1.pu]) (Vg 1 ?_);refine MI h (fun h=>?_) fun h=>?_
   ·refine Vg 5 ?_;exact MD ok144 (Zn4 h hout1)
   ·refine Vg 6 ?_;exact Zw4 h hin1 (hok:=by first | rfl | simp [go_sem,Zh4 _ hc1.pu])
  ·refine Vg 1 ?_;exact Zx4 J1 (Zn4 h hout1) (hok:=by first | rfl | simp [go_sem,Zh4 _ hc1.pu])
@[go_sem] def e141:EC:=(by have h:=hF Tryz.f141;(conv at h=>rhs;reduce);dsimp only[go_sem] at h;exact ⟨_,h⟩:DP Tryz.f141).1
theorem ok141:FnOK Tryz.prog 141 Tryz.f141 e141 [.t 4] 2 17:=okA
def Zo7:Unit→Option Int
| ()=>
 some (-1)
def Zp7 (x1:List Int) (p1:(Int→Option Bool)):Int→Option (Int ⊕ Int)
| x5=>
 ifb (decide (x5<(ln Z05 x1))) (
 (at_ x1 x5).bind fun x6=>
 (p1 x6).bind fun x7=>
 ifb x7 (
 Option.map Sum.inr (some x5)) (
 some (.inl (wr (x5+1))))) (
 Option.map Sum.inr (Zo7 ()))
def Zq7 (x1:List Int) (p1:(Int→Option Bool)):Option Int:=
 loop (Zp7 x1 p1) 0
theorem Zr7 (x1:List Int) (g1:Nat) (caps1:List AV) (p1:(Int→Option Bool)) (hc1:CloOK Tryz.prog g1 caps1 (fun z=>[.iv z]) p1 (fun z=>.bv z)) (r:Int) (h:Zq7 x1 p1=some r):Z03 Tryz.prog 141 [Sp0 x1,.clo g1 caps1] (.iv r):=by
 refine FP ok141 fun w0 H0=>?_
 rw [Zq7] at h
 refine Vg 11 ?_;refine Zo4 (fun (_:Unit)=>⟨an 19 [],[],[]⟩) Zo7 r ?_ fun J1=>?_
 ·rintro ⟨⟩ h;rw [Zo7] at h;(try dsimp only);refine Vg 4 ?_;exact MD ok141 h
 ·refine Vg 1 ?_;refine Zp4 h (fun (x5:Int)=>⟨(Sp0 x1 :: .clo g1 caps1::an 5 (.iv (ln Z05 x1) :: .iv x5::an 10 [])),[],[]⟩) (by simp [go_sem]) (by intro x5;first | rfl | simp [go_sem,Zh4 _ hc1.pu]) ?_;rintro n1 x5 y1 h hin1 hout1;rw [Zp7] at h;(try dsimp only);refine Vg 5 ?_;refine MI h (fun h=>?_) fun h=>?_
  ·refine Vg 13 ?_;have ⟨x6,ex6,h⟩:=Bs h;refine Zs4 Z05 ex6 trivial rfl rfl rfl (Vg 1 ?_);have ⟨x7,ex7,h⟩:=Bs h;refine Zz4 trivial rfl hc1 (x:=x6) ex7 (by first | exact Zi4 _ | simp [go_sem]) (by first | rfl | simp [go_sem,hc1.pu]) (Vg 1 ?_);refine MI h (fun h=>?_) fun h=>?_
   ·refine Vg 5 ?_;exact MD ok141 (Zn4 h hout1)
   ·refine Vg 6 ?_;exact Zw4 h hin1 (hok:=by first | rfl | simp [go_sem,Zh4 _ hc1.pu])
  ·refine Vg 1 ?_;exact Zx4 J1 (Zn4 h hout1) (hok:=by first | rfl | simp [go_sem,Zh4 _ hc1.pu])
@[go_sem] def e25:EC:=(by have h:=hF Tryz.f25;(conv at h=>rhs;reduce);dsimp only[go_sem] at h;exact ⟨_,h⟩:DP Tryz.f25).1
theorem ok25:FnOK Tryz.prog 25 Tryz.f25 e25 [.t 4] 2 24:=okA
def Zs7:Unit→Option Bool
| ()=>
 some true
def Zt7 (x1 x2:List Int):Int→Option (Int ⊕ Bool)
| x6=>
 ifb (decide (x6<(ln Z05 x1))) (
 (at_ x1 x6).bind fun x7=>
 (at_ x2 x6).bind fun x8=>
 ifb (!decide (x7=x8)) (
 Option.map Sum.inr (some false)) (
 some (.inl (wr (x6+1))))) (
 Option.map Sum.inr (Zs7 ()))
def Zu7 (x1 x2:List Int):Option Bool:=
 ifb (!decide ((ln Z05 x1)=(ln Z05 x2))) (
 some false) (
 loop (Zt7 x1 x2) 0)
theorem Zv7 (x1 x2:List Int) (r:Bool) (h:Zu7 x1 x2=some r):Z03 Tryz.prog 25 [Sp0 x1,Sp0 x2] (.bv r):=by
 refine FP ok25 fun w0 H0=>?_
 rw [Zu7] at h
 refine Vg 13 ?_;refine MI h (fun h=>?_) fun h=>?_
 ·refine Vg 4 ?_;exact MD ok25 h
 ·refine Vg 6 ?_;refine Zo4 (fun (_:Unit)=>⟨an 26 [],[],[]⟩) Zs7 r ?_ fun J1=>?_
  ·rintro ⟨⟩ h;rw [Zs7] at h;(try dsimp only);refine Vg 4 ?_;exact MD ok25 h
  ·refine Vg 1 ?_;refine Zp4 h (fun (x6:Int)=>⟨(Sp0 x1 :: Sp0 x2::an 3 (.iv x6::an 20 [])),[],[]⟩) (by simp [go_sem]) (by intro x6;first | rfl | simp [go_sem]) ?_;rintro n1 x6 y1 h hin1 hout1;rw [Zt7] at h;(try dsimp only);refine Vg 8 ?_;refine MI h (fun h=>?_) fun h=>?_
   ·refine Vg 4 ?_;refine Zz6 fun all H=>?_;refine Gn H 4 5 ?_;have ⟨x7,ex7,h⟩:=Bs h;refine Zt4 H.1 H.2.1 H.2.2.1 H.2.2.2 2 Z05 ex7 rfl rfl trivial rfl rfl rfl rfl (Gn H 1 3 ?_);have ⟨x8,ex8,h⟩:=Bs h;refine Zt4 H.1 H.2.1 H.2.2.1 H.2.2.2 6 Z05 ex8 rfl rfl trivial rfl rfl rfl rfl (Gn H 2 0 ?_);refine GD ?_
    refine MI h (fun h=>?_) fun h=>?_
    ·refine Vg 4 ?_;exact MD ok25 (Zn4 h hout1)
    ·refine Vg 7 ?_;exact Zw4 h hin1
   ·refine Vg 1 ?_;exact Zx4 J1 (Zn4 h hout1)
@[go_sem] def e65:EC:=(by have h:=hF Tryz.f65;(conv at h=>rhs;reduce);dsimp only[go_sem] at h;exact ⟨_,h⟩:DP Tryz.f65).1
theorem ok65:FnOK Tryz.prog 65 Tryz.f65 e65 [.t 2] 1 7:=okA
def Zw7 (x1:List Int):Option (List Int):=Zj4 8 [] x1
theorem Zx7 (x1 r:List Int) (h:Zw7 x1=some r):FunO Tryz.prog 65 [Sp0 x1] 3 1 (List.map Z05 r):=by
 refine Z65 ok65 rfl fun w0 H0=>?_
 rw [Zw7] at h
 refine Zv2 100 ?_
 dsimp only [e65,go_sem]
 refine ⟨by simp,?_⟩
 refine V_isnil trivial rfl (fun hn=>?_) ?_
 ·refine Zv2 100 ?_
  dsimp only[go_sem]
  refine ⟨by simp,?_⟩
  refine Zf4 2 3 1 rfl rfl ?_
  dsimp only[go_sem]
  have hn:x1=[]:=by simpa using hn
  subst hn
  exact Zc5 Z05 (e:=[]) ok65 (by simpa [Zj4] using h) rfl rfl
 ·refine Zv2 100 ?_
  dsimp only[go_sem]
  refine ⟨by simp,?_⟩
  refine Zu4 Z05 h trivial rfl rfl rfl ?_
  refine Zv2 100 ?_
  dsimp only[go_sem]
  refine ⟨by simp,?_⟩
  exact Zc5 Z05 ok65 (rfl:some r=some r) rfl rfl
theorem Zy7 (x1 r:List Int) (h:Zw7 x1=some r):Z03 Tryz.prog 65 [Sp0 x1] (Sp0 r):=(Zx7 x1 r h).sealed
@[go_sem] def e188:EC:=(by have h:=hF Tryz.f188;(conv at h=>rhs;reduce);dsimp only[go_sem] at h;exact ⟨_,h⟩:DP Tryz.f188).1
theorem ok188:FnOK Tryz.prog 188 Tryz.f188 e188 [.t 4] 2 25:=okA
@[go_sem] def e126:EC:=(by have h:=hF Tryz.f126;(conv at h=>rhs;reduce);dsimp only[go_sem] at h;exact ⟨_,h⟩:DP Tryz.f126).1
theorem ok126:FnOK Tryz.prog 126 Tryz.f126 e126 [.t 4] 2 17:=okA
def Zz7:Unit→Option Int
| ()=>
 some (-1)
def Z08 (x1:List Int) (x2:Int):Int→Option (Int ⊕ Int)
| x5=>
 ifb (decide (x5<(ln Z05 x1))) (
 (at_ x1 x5).bind fun x6=>
 ifb (decide (x2=x6)) (
 Option.map Sum.inr (some x5)) (
 some (.inl (wr (x5+1))))) (
 Option.map Sum.inr (Zz7 ()))
def Z18 (x1:List Int) (x2:Int):Option Int:=
 loop (Z08 x1 x2) 0
theorem Z28 (x1:List Int) (x2:Int) (r:Int) (h:Z18 x1 x2=some r):Z03 Tryz.prog 126 [Sp0 x1,.iv x2] (.iv r):=by
 refine FP ok126 fun w0 H0=>?_
 rw [Z18] at h
 refine Vg 11 ?_;refine Zo4 (fun (_:Unit)=>⟨an 19 [],[],[]⟩) Zz7 r ?_ fun J1=>?_
 ·rintro ⟨⟩ h;rw [Zz7] at h;(try dsimp only);refine Vg 4 ?_;exact MD ok126 h
 ·refine Vg 1 ?_;refine Zp4 h (fun (x5:Int)=>⟨(Sp0 x1 :: .iv x2::an 5 (.iv (ln Z05 x1) :: .iv x5::an 10 [])),[],[]⟩) (by simp [go_sem]) (by intro x5;first | rfl | simp [go_sem]) ?_;rintro n1 x5 y1 h hin1 hout1;rw [Z08] at h;(try dsimp only);refine Vg 5 ?_;refine MI h (fun h=>?_) fun h=>?_
  ·refine Vg 13 ?_;have ⟨x6,ex6,h⟩:=Bs h;refine Zs4 Z05 ex6 trivial rfl rfl rfl (Vg 3 ?_);refine MI h (fun h=>?_) fun h=>?_
   ·refine Vg 5 ?_;exact MD ok126 (Zn4 h hout1)
   ·refine Vg 6 ?_;exact Zw4 h hin1
  ·refine Vg 1 ?_;exact Zx4 J1 (Zn4 h hout1)
@[go_sem] def e158:EC:=(by have h:=hF Tryz.f158;(conv at h=>rhs;reduce);dsimp only[go_sem] at h;exact ⟨_,h⟩:DP Tryz.f158).1
theorem ok158:FnOK Tryz.prog 158 Tryz.f158 e158 [.t 3] 2 6:=okA
def Z38 (x1:Int) (pc0:(Int→Option Bool)):Option Bool:=
 (pc0 x1).bind fun x2=>
 some (!x2)
theorem k_set_keep_1 (x1:Int) (gc0:Nat) (capsc0:List AV) (pc0:(Int→Option Bool)) (hcc0:CloOK Tryz.prog gc0 capsc0 (fun z=>[.iv z]) pc0 (fun z=>.bv z)) (r:Bool) (h:Z38 x1 pc0=some r):Z03 Tryz.prog 158 [.iv x1,.elt [.clo gc0 capsc0] 0] (.bv r):=by
 refine FP ok158 fun w0 H0=>?_
 rw [Z38] at h
 refine Vg 8 ?_;have ⟨x2,ex2,h⟩:=Bs h;refine Zz4 trivial rfl hcc0 (x:=x1) ex2 (by first | exact Zi4 _ | simp [go_sem]) (by first | rfl | simp [go_sem,hcc0.pu]) (Vg 3 ?_);exact MD ok158 h
@[go_sem] def e98:EC:=(by have h:=hF Tryz.f98;(conv at h=>rhs;reduce);dsimp only[go_sem] at h;exact ⟨_,h⟩:DP Tryz.f98).1
theorem ok98:FnOK Tryz.prog 98 Tryz.f98 e98 [.t 2] 1 23:=okA
def Z48:Unit→Option Bool
| ()=>
 some true
def Z58 (x6:Int):Bool→Option (Int ⊕ Bool)
| x9=>
 ifb x9 (
 Option.map Sum.inr (some false)) (
 some (.inl (wr (x6+1))))
def Z68 (x1:List Int):Int→Option (Int ⊕ Bool)
| x6=>
 ifb (decide (x6<(ln Z05 x1))) (
 ifb (decide (0<x6)) (
 (at_ x1 (wr (x6-1))).bind fun x7=>
 (at_ x1 x6).bind fun x8=>
 (Z58 x6) (decide (x8≤x7))) (
 (Z58 x6) false)) (
 Option.map Sum.inr (Z48 ()))
def Z78 (x1:List Int):Option Bool:=
 loop (Z68 x1) 0
theorem Z88 (x1:List Int) (r:Bool) (h:Z78 x1=some r):Z03 Tryz.prog 98 [Sp0 x1] (.bv r):=by
 refine FP ok98 fun w0 H0=>?_
 rw [Z78] at h
 refine Vg 11 ?_;refine Zo4 (fun (_:Unit)=>⟨an 24 [],[],[]⟩) Z48 r ?_ fun J1=>?_
 ·rintro ⟨⟩ h;rw [Z48] at h;(try dsimp only);refine Vg 4 ?_;exact MD ok98 h
 ·refine Vg 1 ?_;refine Zp4 h (fun (x6:Int)=>⟨(Sp0 x1::an 4 (.iv (ln Z05 x1) :: .iv x6::an 17 [])),[],[]⟩) (by simp [go_sem]) (by intro x6;first | rfl | simp [go_sem]) ?_;rintro n1 x6 y1 h hin1 hout1;rw [Z68] at h;(try dsimp only);refine Vg 5 ?_;refine MI h (fun h=>?_) fun h=>?_
  ·refine Vg 9 ?_;refine Zo4 (fun (x9:Bool)=>⟨(Sp0 x1::an 4 (.iv (ln Z05 x1) :: .iv x6::an 15 [.bv x9,.any])),[],[]⟩) (Z58 x6) y1 ?_ fun J2=>?_
   ·intro x9 h;rw [Z58] at h;(try dsimp only);refine MI h (fun h=>?_) fun h=>?_
    ·refine Vg 4 ?_;exact MD ok98 (Zn4 h hout1)
    ·refine Vg 6 ?_;exact Zw4 h hin1
   ·refine Zz6 fun all H=>?_;refine Gn H 3 11 ?_;refine Z25 11 h rfl (fun _ h=>?_) fun _ h=>?_
    ·dsimp only[go_sem];refine GP H 5 6 [6,2,2,4] [(12,[Sp0 x1,.iv x6,.iv (wr (x6-1))]),(2,[Sp0 x1,.iv x6])] ?_;dsimp only[go_sem];have ⟨x7,ex7,h⟩:=Bs h;refine Zt4 H.1 H.2.1 H.2.2.1 H.2.2.2 6 Z05 ex7 rfl rfl trivial rfl rfl rfl rfl (Gn H 1 4 ?_);have ⟨x8,ex8,h⟩:=Bs h;refine Zt4 H.1 H.2.1 H.2.2.1 H.2.2.2 10 Z05 ex8 rfl rfl trivial rfl rfl rfl rfl (Gn H 3 0 ?_)
     refine GD ?_;exact Zx4 J2 h
    ·dsimp only[go_sem];refine GP H 11 0 [14] [(12,[.un,.un,.un,.un,.un,.un,.un,.un,.un,.un,.ff])] ?_;dsimp only[go_sem];refine GD ?_;exact Zx4 J2 h
  ·refine Vg 1 ?_;exact Zx4 J1 (Zn4 h hout1)
@[go_sem] def e66:EC:=(by have h:=hF Tryz.f66;(conv at h=>rhs;reduce);dsimp only[go_sem] at h;exact ⟨_,h⟩:DP Tryz.f66).1
theorem ok66:FnOK Tryz.prog 66 Tryz.f66 e66 [.t 2] 1 7:=okA
def Z98 (x1:List Sess):Option (List Sess):=Zj4 48 [] x1
theorem Za8 (x1 r:List Sess) (h:Z98 x1=some r):FunO Tryz.prog 66 [Sp3 x1] 60 4 (List.map Sess.row r):=by
 refine Z65 ok66 rfl fun w0 H0=>?_
 rw [Z98] at h
 refine Zv2 100 ?_
 dsimp only [e66,go_sem]
 refine ⟨by simp,?_⟩
 refine V_isnil trivial rfl (fun hn=>?_) ?_
 ·refine Zv2 100 ?_
  dsimp only[go_sem]
  refine ⟨by simp,?_⟩
  refine Zf4 2 60 4 rfl rfl ?_
  dsimp only[go_sem]
  have hn:x1=[]:=by simpa using hn
  subst hn
  exact Zc5 Sess.row (e:=[]) ok66 (by simpa [Zj4] using h) rfl rfl
 ·refine Zv2 100 ?_
  dsimp only[go_sem]
  refine ⟨by simp,?_⟩
  refine Zu4 Sess.row h trivial rfl rfl rfl ?_
  refine Zv2 100 ?_
  dsimp only[go_sem]
  refine ⟨by simp,?_⟩
  exact Zc5 Sess.row ok66 (rfl:some r=some r) rfl rfl
@[go_sem] def e142:EC:=(by have h:=hF Tryz.f142;(conv at h=>rhs;reduce);dsimp only[go_sem] at h;exact ⟨_,h⟩:DP Tryz.f142).1
theorem ok142:FnOK Tryz.prog 142 Tryz.f142 e142 [.t 2] 1 4:=okA
def Zb8 (x1:Int):Option Bool:=
 some (decide (x1<0))
theorem k_sess_odd_1 (x1:Int) (r:Bool) (h:Zb8 x1=some r):Z03 Tryz.prog 142 [.iv x1] (.bv r):=by
 refine FP ok142 fun w0 H0=>?_
 rw [Zb8] at h
 refine Vg 10 ?_;exact MD ok142 h
@[go_sem] def e118:EC:=(by have h:=hF Tryz.f118;(conv at h=>rhs;reduce);dsimp only[go_sem] at h;exact ⟨_,h⟩:DP Tryz.f118).1
theorem ok118:FnOK Tryz.prog 118 Tryz.f118 e118 [.t 6] 3 30:=okA
@[go_sem] def e170:EC:=(by have h:=hF Tryz.f170;(conv at h=>rhs;reduce);dsimp only[go_sem] at h;exact ⟨_,h⟩:DP Tryz.f170).1
theorem ok170:FnOK Tryz.prog 170 Tryz.f170 e170 [.t 3] 2 6:=okA
def Zc8 (x1:Sess) (x2:Int):Option Bool:=
 some (decide (x1.ID=x2))
theorem k_sess_find_1 (x1:Sess) (x2:Int) (r:Bool) (h:Zc8 x1 x2=some r):Z03 Tryz.prog 170 [.agg (Sess.row x1),.elt (Z05 x2) 0] (.bv r):=by
 refine FP ok170 fun w0 H0=>?_
 rw [Zc8] at h
 refine Vg 13 ?_;exact MD ok170 h
@[go_sem] def e145_L0:EC:=.seq (.reg [Qa 14 (.bin .lss (.t 13) (.t 12))]) (.seq (.ite (.t 14) (.skip) (.exit 0)) (.seq (.blk 1 (.seq (.reg [Qm 15 13,Qm 5 15]) (.seq (.drw [Qm 16 0,Qm 17 5,Qk 18 8 16 17,Qe 19 8 18,Qm 20 1,Qm 21 5,Qk 22 8 20 21,Qe 23 8 22,Qa 24 (.eqs true [true,true,true,false,false,false,false,false] (.t 19) (.t 23))] [[],[],[0,1],[2,0,1],[],[],[4,5],[6,4,5],[3,7,2,0,1,6,4,5]] [[2],[2],[0,1,3],[2,8],[6],[6],[4,5,7],[6,8],[3,7]]) (.ite (.t 24) (.seq (.reg [Qa 4 (.mv (.c .ff))]) (.ret)) (.skip))))) (.reg [Qv 25 13 1,Qm 13 25])))
@[go_sem] def e145:EC:=.seq (.reg [Qa 4 (.mv (.c .ff))]) (.seq (.seq (.reg [Qm 6 0,Qa 7 (.len (.t 6)),Qm 8 1,Qa 9 (.len (.t 8)),Qa 10 (.bin .neq (.t 7) (.t 9))]) (.ite (.t 10) (.seq (.reg [Qa 4 (.mv (.c .ff))]) (.ret)) (.skip))) (.seq (.seq (.reg [Qm 11 0,Qa 12 (.len (.t 11)),Qi 13 0]) (.blk 0 (.loop e145_L0))) (.seq (.reg [Qa 4 (.mv (.c .tt))]) (.ret))))
theorem ok145:FnOK Tryz.prog 145 Tryz.f145 e145 [.t 4] 2 24:=okA
def Zd8:Unit→Option Bool
| ()=>
 some true
def Ze8 (x1 x2:List Side):Int→Option (Int ⊕ Bool)
| x6=>
 ifb (decide (x6<(ln Side.row x1))) (
 (at_ x1 x6).bind fun x7=>
 (at_ x2 x6).bind fun x8=>
 ifb (!(decide (x7.Peer=x8.Peer)&&(decide (x7.Epoch=x8.Epoch)&&(decide (x7.State=x8.State)&&((x7.Fork==x8.Fork)&&((x7.DY==x8.DY)&&((x7.Token==x8.Token)&&((x7.BO==x8.BO)&&((x7.Ask==x8.Ask)&&true))))))))) (
 Option.map Sum.inr (some false)) (
 some (.inl (wr (x6+1))))) (
 Option.map Sum.inr (Zd8 ()))
def Zf8 (x1 x2:List Side):Option Bool:=
 ifb (!decide ((ln Side.row x1)=(ln Side.row x2))) (
 some false) (
 loop (Ze8 x1 x2) 0)
theorem Zg8 (x1 x2:List Side) (r:Bool) (h:Zf8 x1 x2=some r):Z03 Tryz.prog 145 [Sp2 x1,Sp2 x2] (.bv r):=by
 refine FP ok145 fun w0 H0=>?_
 rw [Zf8] at h
 refine Vg 13 ?_;refine MI h (fun h=>?_) fun h=>?_
 ·refine Vg 4 ?_;exact MD ok145 h
 ·refine Vg 8 ?_;refine Zo4 (fun (_:Unit)=>⟨an 26 [],[],[]⟩) Zd8 r ?_ fun J1=>?_
  ·rintro ⟨⟩ h;rw [Zd8] at h;(try dsimp only);refine Vg 4 ?_;exact MD ok145 h
  ·refine Vg 1 ?_;refine Zp4 h (fun (x6:Int)=>⟨(Sp2 x1 :: Sp2 x2::an 10 (.iv (ln Side.row x1) :: .iv x6::an 12 [])),[],[]⟩) (by simp [go_sem]) (by intro x6;first | rfl | simp [go_sem]) ?_;rintro n1 x6 y1 h hin1 hout1;rw [Ze8] at h;(try dsimp only);refine Vg 5 ?_;refine MI h (fun h=>?_) fun h=>?_
   ·refine Vg 9 ?_;refine Zz6 fun all H=>?_;refine Gn H 4 5 ?_;have ⟨x7,ex7,h⟩:=Bs h;refine Zt4 H.1 H.2.1 H.2.2.1 H.2.2.2 2 Side.row ex7 rfl rfl trivial rfl rfl rfl rfl (Gn H 1 3 ?_);have ⟨x8,ex8,h⟩:=Bs h;refine Zt4 H.1 H.2.1 H.2.2.1 H.2.2.2 6 Side.row ex8 rfl rfl trivial rfl rfl rfl rfl (Gn H 2 0 ?_)
    refine GD (MI h (fun h=>?_) fun h=>?_)
    ·refine Vg 4 ?_;exact MD ok145 (Zn4 h hout1)
    ·refine Vg 6 ?_;exact Zw4 h hin1
   ·refine Vg 1 ?_;exact Zx4 J1 (Zn4 h hout1)
@[go_sem] def e140:EC:=(by have h:=hF Tryz.f140;(conv at h=>rhs;reduce);dsimp only[go_sem] at h;exact ⟨_,h⟩:DP Tryz.f140).1
theorem ok140:FnOK Tryz.prog 140 Tryz.f140 e140 [.t 4] 3 47:=okA
@[go_sem] def e156:EC:=(by have h:=hF Tryz.f156;(conv at h=>rhs;reduce);dsimp only[go_sem] at h;exact ⟨_,h⟩:DP Tryz.f156).1
theorem ok156:FnOK Tryz.prog 156 Tryz.f156 e156 [.t 4] 3 13:=okA
def Zh8:Bool→Option Bool
| x4=>
 some x4
def Zi8 (x1:Side) (x2:Int) (x3:Msg):Option Bool:=
 ifb (decide (x1.Peer=x2)) (
 Zh8 (decide (x1.Epoch=x3.Epoch))) (
 Zh8 false)
theorem k_dine_Get_1 (x1:Side) (x2:Int) (x3:Msg) (r:Bool) (h:Zi8 x1 x2 x3=some r):Z03 Tryz.prog 156 [.agg (Side.row x1),.elt (Z05 x2) 0,.elt (Msg.row x3) 0] (.bv r):=by
 refine FP ok156 fun w0 H0=>?_
 rw [Zi8] at h
 refine Vg 12 ?_;refine Zo4 (fun (x4:Bool)=>⟨an 4 (.bv x4::an 11 []),[],[]⟩) Zh8 r ?_ fun J1=>?_
 ·intro x4 h;rw [Zh8] at h;(try dsimp only);exact MD ok156 h
 ·refine MC 9 h (fun h=>?_) fun h=>?_
  ·refine Vg 8 ?_;exact Zx4 J1 h
  ·refine Vg 8 ?_;exact Zx4 J1 h
@[go_sem] def e64:EC:=(by have h:=hF Tryz.f64;(conv at h=>rhs;reduce);dsimp only[go_sem] at h;exact ⟨_,h⟩:DP Tryz.f64).1
theorem ok64:FnOK Tryz.prog 64 Tryz.f64 e64 [.t 2] 1 7:=okA
def Zj8 (x1:List Side):Option (List Side):=Zj4 32 [] x1
theorem Zk8 (x1 r:List Side) (h:Zj8 x1=some r):FunO Tryz.prog 64 [Sp2 x1] 65 8 (List.map Side.row r):=by
 refine Z65 ok64 rfl fun w0 H0=>?_
 rw [Zj8] at h
 refine Zv2 100 ?_
 dsimp only [e64,go_sem]
 refine ⟨by simp,?_⟩
 refine V_isnil trivial rfl (fun hn=>?_) ?_
 ·refine Zv2 100 ?_
  dsimp only[go_sem]
  refine ⟨by simp,?_⟩
  refine Zf4 2 65 8 rfl rfl ?_
  dsimp only[go_sem]
  have hn:x1=[]:=by simpa using hn
  subst hn
  exact Zc5 Side.row (e:=[]) ok64 (by simpa [Zj4] using h) rfl rfl
 ·refine Zv2 100 ?_
  dsimp only[go_sem]
  refine ⟨by simp,?_⟩
  refine Zu4 Side.row h trivial rfl rfl rfl ?_
  refine Zv2 100 ?_
  dsimp only[go_sem]
  refine ⟨by simp,?_⟩
  exact Zc5 Side.row ok64 (rfl:some r=some r) rfl rfl
@[go_sem] def e173:EC:=(by have h:=hF Tryz.f173;(conv at h=>rhs;reduce);dsimp only[go_sem] at h;exact ⟨_,h⟩:DP Tryz.f173).1
theorem ok173:FnOK Tryz.prog 173 Tryz.f173 e173 [.t 2] 1 5:=okA
def Zl8 (x1:Side):Option Bool:=
 some (decide (x1.State=1))
theorem Zm8 (x1:Side) (r:Bool) (h:Zl8 x1=some r):Z03 Tryz.prog 173 [.agg (Side.row x1)] (.bv r):=by
 refine FP ok173 fun w0 H0=>?_
 rw [Zl8] at h
 refine Vg 12 ?_;exact MD ok173 h
@[go_sem] def e184:EC:=(by have h:=hF Tryz.f184;(conv at h=>rhs;reduce);dsimp only[go_sem] at h;exact ⟨_,h⟩:DP Tryz.f184).1
theorem Zn8:FnOK Tryz.prog 184 Tryz.f184 e184 [] 4 17:=okA
@[go_sem] def e185:EC:=(by have h:=hF Tryz.f185;(conv at h=>rhs;reduce);dsimp only[go_sem] at h;exact ⟨_,h⟩:DP Tryz.f185).1
theorem ok185:FnOK Tryz.prog 185 Tryz.f185 e185 [] 3 25:=okA
@[go_sem] def e96:EC:=(by have h:=hF Tryz.f96;(conv at h=>rhs;reduce);dsimp only[go_sem] at h;exact ⟨_,h⟩:DP Tryz.f96).1
theorem ok96:FnOK Tryz.prog 96 Tryz.f96 e96 [.t 3] 2 6:=okA
def Zo8 (x1:Side) (x2:Int):Option Bool:=
 some (decide (x1.Peer=x2))
theorem Zp8 (x1:Side) (x2:Int) (r:Bool) (h:Zo8 x1 x2=some r):Z03 Tryz.prog 96 [.agg (Side.row x1),.elt (Z05 x2) 0] (.bv r):=by
 refine FP ok96 fun w0 H0=>?_
 rw [Zo8] at h
 refine Vg 13 ?_;exact MD ok96 h
end
end NX
end Go.Proofs.YtdjkbodnjhgbcaaGreat
