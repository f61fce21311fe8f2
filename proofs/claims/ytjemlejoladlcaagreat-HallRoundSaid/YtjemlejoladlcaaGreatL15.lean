/-
  The symbolic machine: own slices of integers, sorted by the library. No statement of the seat is proved here.
-/
import Derived.Shelf.Sort.Plain
import Derived.Shelf.Slices.In.SortNone
import Derived.Sort.OwnSortedInts
import Derived.Shelf.Slices.CompactI
import Derived.Lib.RowBridge
import Derived.Test.YtjemlejoladlcaaGreatL14
set_option maxRecDepth 100000
set_option maxHeartbeats 40000000
namespace Go.Proofs.YtjemlejoladlcaaGreat
namespace NX
open Go Go.RowKit
section
variable {c:Ctx} {M:Mem} {S S':St} {a:Act} {w:World} {fn:Func} {K:AV→List (Option Blk)→List (Option Sl)→Prop} {k:List It} {bs:List (Option Blk)} {ss:List (Option Sl)}
theorem ij {M:Mem} {E:List Int} {vss:List (List Value)} (h:AV.isLL M 1 (E.map Ad) vss):vss.flatten=E.map (Value.int .i64):=by
 induction E generalizing vss with
 | nil=>simp [AV.isLL] at h;subst h;rfl
 | cons z E ih=>obtain ⟨v,r,rfl,h1,h2,h3⟩:=h;obtain ⟨u,q,rfl,h4,h5⟩:=h2;simp only [AV.isL] at h5;simp only [AV.is] at h4;subst h5;subst h4;simp [ih h3]
theorem aO {M:Mem}:∀(E:List Int),∃vss,AV.isLL M 1 (E.map Ad) vss∧vss.flatten=E.map (Value.int .i64)
 | []=>⟨[],rfl,rfl⟩
 | z::E=>by obtain ⟨vss,h1,h2⟩:=aO (M:=M) E;exact ⟨[.int .i64 z]::vss,⟨_,_,rfl,rfl,⟨_,_,rfl,rfl,rfl⟩,h1⟩,by simp [h2]⟩
theorem Z0T {ρ:Shelf.Ren} (J:Lays.n189 c.P ρ) {j T:Nat} {x:X} {E:List Int} (hx:S.x x = .osl j) (hj:A2 S.ss j=some ⟨T,1,E.map Ad⟩) (hw:E.length<4611686018427387904):
  Bi c S (.call (ρ.f 189) [x]) (.tup []) ⟨S.tm,S.bs,Ar S.ss j (some ⟨T,1,(E.mergeSort fun x y=>decide (x≤y)).map Ad⟩)⟩:=by
 intro ro ho M a w hT next Q hn
 obtain ⟨dst,op,ty,pos,af,gd⟩:=ro;dsimp only at ho;obtain ⟨cargs,argTypes,rfl,hB,h8⟩:=LY ho;obtain ⟨q,rfl⟩:∃q,cargs = #[q]:=by
  have:cargs.toList.length=1:=by have:=congrArg List.length h8;simpa using this
  obtain ⟨l⟩:=cargs
  match l,this with
  | [q],_=>exact ⟨q,rfl⟩
 have hC:cX q=x:=by simpa using h8
 have hq:=Ak hT q;rw [hC,hx] at hq;obtain ⟨hG,hq⟩:=hq;obtain ⟨g0,vss,h1,h2,h3,h4⟩:=hT.st.slc j _ hj;dsimp only at h1 h3 g0;have hD:=ij h1;have h6:(execOp a.eval ⟨dst,.call ⟨.value (.func (ρ.f 189)), #[q],argTypes⟩,ty,pos,af,gd⟩).run c.P w = .ok (.enter (ρ.f 189) (#[q].map a.eval)) w:=by have he:a.eval (.func (ρ.f 189)) = .func (.func (ρ.f 189)) #[] #[]:=rfl;generalize a.eval=ρ' at *;simp [execOp,resolve,Deferred.ofValue,invoke,he,HU hB]
 have e1:(#[q].map a.eval) = #[M.σ j]:=by apply Array.ext';simp;exact hq
 rw [e1] at h6;unfold Oper.wp;rw [h6];show Calls c.P (ρ.f 189) #[M.σ j] w _;obtain ⟨rs,hE,h9⟩:=aO (M:=M.sl) (E.mergeSort fun x y=>decide (x≤y));have hA:∀v∈rs.flatten,v.oneCell'=true:=by rw [h9];intro v hv;obtain ⟨z,_,rfl⟩:=List.mem_map.1 hv;rfl
 have hd:(E.mergeSort fun x y=>decide (x≤y)).length=E.length:=by simp
 rcases h3.2 with ⟨e2,e3⟩ | ⟨g,cap,cur,e2,hb,e3,e4,e5,e6,e7⟩
 ·have hz:E=[]:=by simpa using e3
  subst hz;rw [e2];refine (Any.slices_Sort_int_none J none 0 w).mono ?_;rintro e w' ⟨rfl,rfl⟩;refine hn M _ _ (.refl M) ?_ ⟨[],rfl,rfl⟩;have:Ar S.ss j (some (⟨T,1,([].mergeSort fun (x y:Int)=>decide (x≤y)).map Ad⟩:Sl))=S.ss:=by
   have hj':=hj;simp only [List.map_nil] at hj';have:∀(l:List (Option Sl)) (j:Nat) (L:Sl),A2 l j=some L→Ar l j (some L)=l:=by
    intro l;induction l with
    | nil=>intro j L h;simp [A2] at h
    | cons x l ih=>intro j L h;cases j with
      | zero=>simp [A2] at h;subst h;rfl
      | succ j=>simp only [Ar];rw [ih j L (by simpa [A2] using h)]
   simpa using this _ _ _ hj'
  rw [this];exact hT.st
 ·have e4':E.length≤cap:=by simpa using e4
  rw [e2];simp only [List.length_map];rw [Nat.mul_one,List.length_map] at e7;rw [hD] at e7;refine (Any.slices_Sort_int J g 0 cap E w (holds_of_blockI e3 e7) (Array.getElem?_eq_some_iff.1 e3).1 hw).mono ?_;rintro e w' ⟨rfl,n,os,rfl⟩;refine hn M _ _ (.refl M) ?_ ⟨[],rfl,rfl⟩;refine hT.st.rewrite hj (g:=g) (by rw [e2];rfl) (grownBy_sortedI _) (vss':=rs) hE hA ?_;rw [h9,List.length_map,hd,e2,List.length_map];exact ownsRow_sortedI (ss:=E) hd hb e3 e4' e5 e6
theorem pT {ρ:Shelf.Ren} (J:Lays.n189 c.P ρ) {d:Option Nat} {g:Option (Nat×Bool)} {l:List EOp} {j T f:Nat} {x:X} (E:List Int) (hg:gm S g) (hf:f=ρ.f 189) (hx:S.x x = .osl j) (hj:A2 S.ss j=some ⟨T,1,E.map Ad⟩) (h6:E.length<4611686018427387904)
  (h:V c fn K (.ops l::k) ((⟨S.tm,S.bs,Ar S.ss j (some ⟨T,1,(E.mergeSort fun x y=>decide (x≤y)).map Ad⟩)⟩:St).put d (.tup []))):V c fn K (.ops (⟨d,g,.call f [x]⟩::l)::k) S:=by
 subst hf;exact AU hg (Z0T J hx hj h6) rfl h
theorem Z0M {ρ:Shelf.Ren} (J:Lays2.n20 c.P ρ) {j T:Nat} {x:X} {E:List Int} (hx:S.x x = .osl j) (hj:A2 S.ss j=some ⟨T,1,E.map Ad⟩) (hK:E.length<4611686018427387904):
  Bi c S (.call (ρ.f 20) [x]) (.osl (Aa S.ss)) ⟨S.tm,S.bs,Ar S.ss j none++[some ⟨T,1,(Lib.compact E).map Ad⟩]⟩:=by
 intro ro ho M a w hT next Q hn
 obtain ⟨dst,op,ty,pos,af,gd⟩:=ro;dsimp only at ho;obtain ⟨cargs,argTypes,rfl,hD,h9⟩:=LY ho;obtain ⟨q,rfl⟩:∃q,cargs = #[q]:=by
  have:cargs.toList.length=1:=by have:=congrArg List.length h9;simpa using this
  obtain ⟨l⟩:=cargs
  match l,this with
  | [q],_=>exact ⟨q,rfl⟩
 have hE:cX q=x:=by simpa using h9
 have hq:=Ak hT q;rw [hE,hx] at hq;obtain ⟨hL,hq⟩:=hq;have hS:=hT.st;obtain ⟨g0,vss,h1,h2,h3,h4⟩:=hS.slc j _ hj;dsimp only at h1 h3 g0;have hG:=ij h1;have h8:(execOp a.eval ⟨dst,.call ⟨.value (.func (ρ.f 20)), #[q],argTypes⟩,ty,pos,af,gd⟩).run c.P w = .ok (.enter (ρ.f 20) (#[q].map a.eval)) w:=by have he:a.eval (.func (ρ.f 20)) = .func (.func (ρ.f 20)) #[] #[]:=rfl;generalize a.eval=ρ' at *;simp [execOp,resolve,Deferred.ofValue,invoke,he,HU hD]
 have e1:(#[q].map a.eval) = #[M.σ j]:=by apply Array.ext';simp;exact hq
 rw [e1] at h8;unfold Oper.wp;rw [h8];show Calls c.P (ρ.f 20) #[M.σ j] w _;obtain ⟨rs,hI,h6⟩:=aO (M:=M.sl) (Lib.compact E);have hA:∀v∈rs.flatten,v.oneCell'=true:=by rw [h6];intro v hv;obtain ⟨z,_,rfl⟩:=List.mem_map.1 hv;rfl
 have hN:=Lib.compact_length_le E;have hB:∀i N,A2 (Ar S.ss j none) i=some N→A2 S.ss i=some N∧∀g,(M.σ j).ownBlock=some g→(M.σ i).ownBlock≠some g:=by
  intro i N hi;rw [Du] at hi;split at hi
  ·simp at hi
  ·rename_i e;refine ⟨hi,fun g hg e2=>e ⟨?_,Cu hj⟩⟩;exact hS.d3 i j N _ g hi hj e2 hg
 have fin:∀v' w',w.grownBy w' (M.σ j).ownBlock→v'.ownBlock=(M.σ j).ownBlock→w'.ownsRow 0 T 1 v' (Lib.compact E).length rs.flatten→next (a.put dst v') w':=fun v' w' hg hv hC=>by have hr:RelS c (M.addS v') S.bs (Ar S.ss j none++[some (⟨T,1,(Lib.compact E).map Ad⟩:Sl)]) w':=RelS.grown (v:=M.σ j) (vss:=rs) hS (Dd _ _ _) hB (.inr fun i B hi=>hS.d2 i j B _ hi hj) h4 hg (.inl hv) g0 hI hA (by simpa using hC);refine hn (M.addS v') w' v' (Mem.le_addS M v') hr ?_;rw [Bh,←hS.ns];exact ⟨Nat.lt_succ_self _,by simp [Mem.addS]⟩
 rcases h3.2 with ⟨e2,e3⟩ | ⟨g,cap,cur,e2,hb,e3,e4,e5,e6,e7⟩
 ·have hz:E=[]:=by simpa using e3
  subst hz;rw [e2] at fin ⊢;refine (Any.slices_Compact_int_empty J none 0 w).mono ?_;rintro e w' ⟨rfl,rfl⟩;refine fin _ _ ⟨rfl,rfl,rfl,Nat.le_refl _,fun _ _ _=>rfl⟩ rfl ?_;rw [h6];exact World.ownsRow_nil _ _ _ _
 ·have e4':E.length≤cap:=by simpa using e4
  rw [e2] at fin ⊢;simp only [List.length_map];rw [Nat.mul_one,List.length_map] at e7;rw [hG] at e7;refine (Any.slices_Compact_int J g 0 cap E w (holds_of_blockI e3 e7) Om e4').mono ?_;rintro e w' ⟨rfl,n,rfl⟩;have hd:=grownBy_sortedI (w:=w) (g:=g) (n:=n) (os:= #[]) (Lib.compact E++List.replicate (E.length-(Lib.compact E).length) 0).toArray;have hw:=heap_sortedI (w:=w) (g:=g) (n:=n) (os:= #[]) (Lib.compact E++List.replicate (E.length-(Lib.compact E).length) 0).toArray e3;rw [Sort.grow_empty] at hd hw;refine fin _ _ hd rfl ⟨by rw [h6];simp,.inr ⟨g,cap,_,rfl,hb,hw,Om,e5,by simp [Sort.putCells,e6],?_⟩⟩;have hJ:=take_putCellsI cur (Lib.compact E++List.replicate (E.length-(Lib.compact E).length) 0) (by simp;omega);rw [h6,Nat.mul_one];have:=congrArg (List.take (Lib.compact E).length) hJ;rw [List.take_take,List.map_append,List.take_append_of_le_length (by simp)] at this;rw [Nat.min_eq_left (by simp)] at this;rw [this,List.take_of_length_le (by simp)]
theorem pg {ρ:Shelf.Ren} (J:Lays2.n20 c.P ρ) {d:Option Nat} {g:Option (Nat×Bool)} {l:List EOp} {j T f:Nat} {x:X} (E:List Int) (hg:gm S g) (hf:f=ρ.f 20) (hx:S.x x = .osl j) (hj:A2 S.ss j=some ⟨T,1,E.map Ad⟩) (h6:E.length<4611686018427387904)
  (h:V c fn K (.ops l::k) ((⟨S.tm,S.bs,Ar S.ss j none++[some ⟨T,1,(Lib.compact E).map Ad⟩]⟩:St).put d (.osl (Aa S.ss)))):V c fn K (.ops (⟨d,g,.call f [x]⟩::l)::k) S:=by
 subst hf;exact AU hg (Z0M J hx hj h6) rfl h
end
end NX
end Go.Proofs.YtjemlejoladlcaaGreat
/-
  The function slices.IndexFunc[[]narthex/api.Side,narthex/api.Side]: its code compiled, a model, and that the code answers as the model. Written by a program of ours (lb.py). No statement of the seat is proved here.
-/
namespace Go.Proofs.YtjemlejoladlcaaGreat
namespace NX
open Go
noncomputable section
@[go_sem] def rq:EC:=eQ Tryz.f100
theorem U1:FnOK Tryz.prog 100 Tryz.f100 rq [.t 4] 2 17:=B6
def Y0:Unit→Option Int
| ()=>some (-1)
def Y1 (x1:List SX) (p1:(SX→Option Bool)):Int→Option (Int ⊕ Int)
| x5=>
 A0 (decide (x5<(ln SX.row x1))) (
 (A4 x1 x5).bind fun x6=>
 (p1 x6).bind fun x7=>
 A0 x7 (
 Option.map Sum.inr (some x5)) (
 some (.inl (wr (x5+1))))) (
 Option.map Sum.inr (Y0 ()))
def Hw (x1:List SX) (p1:(SX→Option Bool)):Option Int:=loop (Y1 x1 p1) 0
theorem Mt {x1 g1 caps1 p1 r} (h:Hw x1 p1=some r) (hc1:CloOK Tryz.prog g1 caps1 (fun z=>[.agg (SX.row z)]) p1 (fun z=>.bv z)):FPx 100 [CU x1,.clo g1 caps1] (.iv r):=by
 refine FP U1 fun w0 H0=>?_;rw [Hw] at h;refine Vg 11 ?_;refine Vk [] (fun _=>[]) Y0 r ?_ fun J1=>?_
 ·rintro ⟨⟩ h;rw [Y0] at h;refine Vg 4 ?_;exact MD U1 h
 ·refine Vg 1 ?_;refine Mk h [0,2,5,1] (fun x5=>[(8,.iv x5)]) ?_ (hok:=by intro x5;first | rfl | (simp [go_sem];done) | simp [go_sem,Ax _ hc1.pu]);rintro n1 x5 y1 h hin1 hout1;rw [Y1] at h;refine Vg 5 ?_;refine MI h (fun h=>?_) fun h=>?_
  ·refine Vg 13 ?_;have ⟨x6,ex6,h⟩:=Bs h;refine AZ SX.row ex6 trivial rfl rfl rfl (Vg 1 ?_);have ⟨x7,ex7,h⟩:=Bs h;refine Dy trivial rfl hc1 (x:=x6) ex7 (by first | exact Am _ | simp [go_sem]) (by first | rfl | simp [go_sem,hc1.pu]) (Vg 1 ?_);refine MI h (fun h=>?_) fun h=>?_
   ·refine Vg 5 ?_;exact MD U1 (BY h hout1)
   ·refine Vg 6 ?_;exact Da h hin1 (hok:=by first | rfl | simp [go_sem,Ax _ hc1.pu])
  ·refine Vg 1 ?_;exact AQ J1 (BY h hout1) (hok:=by first | rfl | simp [go_sem,Ax _ hc1.pu])
@[go_sem] def s9:EC:=eQ Tryz.f218
theorem U2:FnOK Tryz.prog 218 Tryz.f218 s9 [.t 4] 2 17:=B6
def XT:Unit→Option Int
| ()=>some (-1)
def XU (x1:List KE) (p1:(KE→Option Bool)):Int→Option (Int ⊕ Int)
| x5=>
 A0 (decide (x5<(ln KE.row x1))) (
 (A4 x1 x5).bind fun x6=>
 (p1 x6).bind fun x7=>
 A0 x7 (
 Option.map Sum.inr (some x5)) (
 some (.inl (wr (x5+1))))) (
 Option.map Sum.inr (XT ()))
def Tz (x1:List KE) (p1:(KE→Option Bool)):Option Int:=loop (XU x1 p1) 0
theorem w9 {x1 g1 caps1 p1 r} (h:Tz x1 p1=some r) (hc1:CloOK Tryz.prog g1 caps1 (fun z=>[.agg (KE.row z)]) p1 (fun z=>.bv z)):FPx 218 [Bb x1,.clo g1 caps1] (.iv r):=by
 refine FP U2 fun w0 H0=>?_;rw [Tz] at h;refine Vg 11 ?_;refine Vk [] (fun _=>[]) XT r ?_ fun J1=>?_
 ·rintro ⟨⟩ h;rw [XT] at h;refine Vg 4 ?_;exact MD U2 h
 ·refine Vg 1 ?_;refine Mk h [0,2,5,1] (fun x5=>[(8,.iv x5)]) ?_ (hok:=by intro x5;first | rfl | (simp [go_sem];done) | simp [go_sem,Ax _ hc1.pu]);rintro n1 x5 y1 h hin1 hout1;rw [XU] at h;refine Vg 5 ?_;refine MI h (fun h=>?_) fun h=>?_
  ·refine Vg 13 ?_;have ⟨x6,ex6,h⟩:=Bs h;refine AZ KE.row ex6 trivial rfl rfl rfl (Vg 1 ?_);have ⟨x7,ex7,h⟩:=Bs h;refine Dy trivial rfl hc1 (x:=x6) ex7 (by first | exact Am _ | simp [go_sem]) (by first | rfl | simp [go_sem,hc1.pu]) (Vg 1 ?_);refine MI h (fun h=>?_) fun h=>?_
   ·refine Vg 5 ?_;exact MD U2 (BY h hout1)
   ·refine Vg 6 ?_;exact Da h hin1 (hok:=by first | rfl | simp [go_sem,Ax _ hc1.pu])
  ·refine Vg 1 ?_;exact AQ J1 (BY h hout1) (hok:=by first | rfl | simp [go_sem,Ax _ hc1.pu])
@[go_sem] def sb:EC:=eQ Tryz.f221
theorem U3:FnOK Tryz.prog 221 Tryz.f221 sb [.t 4] 2 17:=B6
def XX:Unit→Option Int
| ()=>some (-1)
def XY (x1:List SE) (p1:(SE→Option Bool)):Int→Option (Int ⊕ Int)
| x5=>
 A0 (decide (x5<(ln SE.row x1))) (
 (A4 x1 x5).bind fun x6=>
 (p1 x6).bind fun x7=>
 A0 x7 (
 Option.map Sum.inr (some x5)) (
 some (.inl (wr (x5+1))))) (
 Option.map Sum.inr (XX ()))
def Ok (x1:List SE) (p1:(SE→Option Bool)):Option Int:=loop (XY x1 p1) 0
theorem iV {x1 g1 caps1 p1 r} (h:Ok x1 p1=some r) (hc1:CloOK Tryz.prog g1 caps1 (fun z=>[.agg (SE.row z)]) p1 (fun z=>.bv z)):FPx 221 [Av x1,.clo g1 caps1] (.iv r):=by
 refine FP U3 fun w0 H0=>?_;rw [Ok] at h;refine Vg 11 ?_;refine Vk [] (fun _=>[]) XX r ?_ fun J1=>?_
 ·rintro ⟨⟩ h;rw [XX] at h;refine Vg 4 ?_;exact MD U3 h
 ·refine Vg 1 ?_;refine Mk h [0,2,5,1] (fun x5=>[(8,.iv x5)]) ?_ (hok:=by intro x5;first | rfl | (simp [go_sem];done) | simp [go_sem,Ax _ hc1.pu]);rintro n1 x5 y1 h hin1 hout1;rw [XY] at h;refine Vg 5 ?_;refine MI h (fun h=>?_) fun h=>?_
  ·refine Vg 13 ?_;have ⟨x6,ex6,h⟩:=Bs h;refine AZ SE.row ex6 trivial rfl rfl rfl (Vg 1 ?_);have ⟨x7,ex7,h⟩:=Bs h;refine Dy trivial rfl hc1 (x:=x6) ex7 (by first | exact Am _ | simp [go_sem]) (by first | rfl | simp [go_sem,hc1.pu]) (Vg 1 ?_);refine MI h (fun h=>?_) fun h=>?_
   ·refine Vg 5 ?_;exact MD U3 (BY h hout1)
   ·refine Vg 6 ?_;exact Da h hin1 (hok:=by first | rfl | simp [go_sem,Ax _ hc1.pu])
  ·refine Vg 1 ?_;exact AQ J1 (BY h hout1) (hok:=by first | rfl | simp [go_sem,Ax _ hc1.pu])
def Y2:Unit→Option Int
| ()=>some (-1)
def Y3 (x1:List Int) (p1:(Int→Option Bool)):Int→Option (Int ⊕ Int)
| x5=>
 A0 (decide (x5<(ln Ad x1))) (
 (A4 x1 x5).bind fun x6=>
 (p1 x6).bind fun x7=>
 A0 x7 (
 Option.map Sum.inr (some x5)) (
 some (.inl (wr (x5+1))))) (
 Option.map Sum.inr (Y2 ()))
def Ol (x1:List Int) (p1:(Int→Option Bool)):Option Int:=loop (Y3 x1 p1) 0
theorem iW {x1 g1 caps1 p1 r} (h:Ol x1 p1=some r) (hc1:CloOK Tryz.prog g1 caps1 (fun z=>[.iv z]) p1 (fun z=>.bv z)):FPx 179 [Ab x1,.clo g1 caps1] (.iv r):=by
 have ok:=oJ 179 Tryz.f179 [.t 4] 2 17;refine FP ok fun w0 H0=>?_;rw [Ol] at h;refine Vg 11 ?_;refine Vk [] (fun _=>[]) Y2 r ?_ fun J1=>?_
 ·rintro ⟨⟩ h;rw [Y2] at h;refine Vg 4 ?_;exact MD ok h
 ·refine Vg 1 ?_;refine Mk h [0,2,5,1] (fun x5=>[(8,.iv x5)]) ?_ (hok:=by intro x5;first | rfl | (simp [go_sem];done) | simp [go_sem,Ax _ hc1.pu]);rintro n1 x5 y1 h hin1 hout1;rw [Y3] at h;refine Vg 5 ?_;refine MI h (fun h=>?_) fun h=>?_
  ·refine Vg 13 ?_;have ⟨x6,ex6,h⟩:=Bs h;refine AZ Ad ex6 trivial rfl rfl rfl (Vg 1 ?_);have ⟨x7,ex7,h⟩:=Bs h;refine Dy trivial rfl hc1 (x:=x6) ex7 (by first | exact Am _ | simp [go_sem]) (by first | rfl | simp [go_sem,hc1.pu]) (Vg 1 ?_);refine MI h (fun h=>?_) fun h=>?_
   ·refine Vg 5 ?_;exact MD ok (BY h hout1)
   ·refine Vg 6 ?_;exact Da h hin1 (hok:=by first | rfl | simp [go_sem,Ax _ hc1.pu])
  ·refine Vg 1 ?_;exact AQ J1 (BY h hout1) (hok:=by first | rfl | simp [go_sem,Ax _ hc1.pu])
def WF:Unit→Option Bool
| ()=>some false
def Rr (x1:List Int) (x2:Int):Int→Option (Int ⊕ Bool)
| x5=>
 A0 (decide (x5<(ln Ad x1))) (
 (A4 x1 x5).bind fun x6=>
 A0 (decide (x6=x2)) (
 Option.map Sum.inr (some true)) (
 some (.inl (wr (x5+1))))) (
 Option.map Sum.inr (WF ()))
def KW (x1:List Int) (x2:Int):Option Bool:=loop (Rr x1 x2) 0
theorem b0 {x1 x2 r} (h:KW x1 x2=some r):FPx 13 [Ab x1,.iv x2] (.bv r):=by
 have ok:=oJ 13 Tryz.f13 [.t 4] 2 16;refine FP ok fun w0 H0=>?_;rw [KW] at h;refine Vg 9 ?_;refine Vk [] (fun _=>[]) WF r ?_ fun J1=>?_
 ·rintro ⟨⟩ h;rw [WF] at h;exact W
 ·refine Vg 1 ?_;refine Mk h [0,2] (fun x5=>[(5,.iv x5)]) ?_;rintro n1 x5 y1 h hin1 hout1;rw [Rr] at h;exact W
@[go_sem] def gi:EC:=eQ Tryz.f50
theorem OQ:FnOK Tryz.prog 50 Tryz.f50 gi [.t 2] 1 7:=B6
def CF (x1:List Int):Option (List Int):=AI 8 [] x1
theorem Eg {x1 r} (h:CF x1=some r):FOx 50 [Ab x1] 3 1 (List.map Ad r):=by
 refine EU OQ rfl fun w0 H0=>?_;rw [CF] at h;refine Ah 100 ?_;dsimp only [gi,go_sem];refine ⟨by simp,?_⟩;refine LP trivial rfl (fun hn=>?_) ?_
 ·refine Ah 100 ?_;dsimp only[go_sem];refine ⟨by simp,?_⟩;refine CV 2 3 1 rfl rfl ?_;dsimp only[go_sem];have hn:x1=[]:=by simpa using hn
  subst hn;exact Db Ad (e:=[]) OQ (by simpa [AI] using h) rfl rfl
 ·refine Ah 100 ?_;dsimp only[go_sem];refine ⟨by simp,?_⟩;refine BP Ad h trivial rfl rfl rfl ?_;refine Ah 100 ?_;dsimp only[go_sem];refine ⟨by simp,?_⟩;exact Db Ad OQ (rfl:some r=some r) rfl rfl
theorem Bv {x1 r} (h:CF x1=some r):FPx 50 [Ab x1] (Ab r):=(Eg h).sealed
@[go_sem] def sr:EC:=eQ Tryz.f255
theorem kG:FnOK Tryz.prog 255 Tryz.f255 sr [.t 4] 2 25:=B6
def Y8:Unit→Option Int
| ()=>some (-1)
def Y9 (x1:List Int) (x2:Int):Int→Option (Int ⊕ Int)
| x5=>
 A0 (decide (x5<(ln Ad x1))) (
 (A4 x1 x5).bind fun x6=>
 A0 (decide (x2=x6)) (
 Option.map Sum.inr (some x5)) (
 some (.inl (wr (x5+1))))) (
 Option.map Sum.inr (Y8 ()))
def TF (x1:List Int) (x2:Int):Option Int:=loop (Y9 x1 x2) 0
theorem wc {x1 x2 r} (h:TF x1 x2=some r):FPx 209 [Ab x1,.iv x2] (.iv r):=by
 have ok:=oJ 209 Tryz.f209 [.t 4] 2 17;refine FP ok fun w0 H0=>?_;rw [TF] at h;refine Vg 11 ?_;refine Vk [] (fun _=>[]) Y8 r ?_ fun J1=>?_
 ·rintro ⟨⟩ h;rw [Y8] at h;exact W
 ·refine Vg 1 ?_;refine Mk h [0,2,5,1] (fun x5=>[(8,.iv x5)]) ?_;rintro n1 x5 y1 h hin1 hout1;rw [Y9] at h;exact W
def Xq (x1:Int) (pc0:(Int→Option Bool)):Option Bool:=
 (pc0 x1).bind fun x2=>
 some (!x2)
theorem vU {x1 gc0 capsc0 pc0 r} (h:Xq x1 pc0=some r) (hcc0:CloOK Tryz.prog gc0 capsc0 (fun z=>[.iv z]) pc0 (fun z=>.bv z)):FPx 243 [.iv x1,.elt [.clo gc0 capsc0] 0] (.bv r):=by have ok:=oJ 243 Tryz.f243 [.t 3] 2 6;refine FP ok fun w0 H0=>?_;rw [Xq] at h;refine Vg 8 ?_;have ⟨x2,ex2,h⟩:=Bs h;refine Dy trivial rfl hcc0 (x:=x1) ex2 (by first | exact Am _ | simp [go_sem]) (by first | rfl | simp [go_sem,hcc0.pu]) (Vg 3 ?_);exact MD ok h
def cj:Unit→Option Bool
| ()=>some true
def JW (x6:Int):Bool→Option (Int ⊕ Bool)
| x9=>
 A0 x9 (
 Option.map Sum.inr (some false)) (
 some (.inl (wr (x6+1))))
def JX (x1:List Int):Int→Option (Int ⊕ Bool)
| x6=>
 A0 (decide (x6<(ln Ad x1))) (
 A0 (decide (0<x6)) (
 (A4 x1 (wr (x6-1))).bind fun x7=>
 (A4 x1 x6).bind fun x8=>
 (JW x6) (decide (x8≤x7))) (
 (JW x6) false)) (
 Option.map Sum.inr (cj ()))
def IA (x1:List Int):Option Bool:=loop (JX x1) 0
theorem bg {x1 r} (h:IA x1=some r):FPx 115 [Ab x1] (.bv r):=by
 have ok:=oJ 115 Tryz.f115 [.t 2] 1 23;refine FP ok fun w0 H0=>?_;rw [IA] at h;refine Vg 11 ?_;refine Vk [] (fun _=>[]) cj r ?_ fun J1=>?_
 ·rintro ⟨⟩ h;rw [cj] at h;exact W
 ·refine Vg 1 ?_;refine Mk h [0,1,4,1] (fun x6=>[(6,.iv x6)]) ?_;rintro n1 x6 y1 h hin1 hout1;rw [JX] at h;refine Vg 5 ?_;refine MI h (fun h=>?_) fun h=>W;refine Vg 9 ?_;refine Vk [0,1,4,2] (fun x9=>[(22,.bv x9)]) (JW x6) y1 ?_ fun J2=>?_
  ·intro x9 h;rw [JW] at h;exact W
  ·refine Ai fun all H=>?_;refine Gn H 3 11 ?_;refine BJ 11 h rfl (fun _ h=>?_) fun _ h=>?_
   ·refine Ds (GP H 5 6 [6,2,2,4] [(12,[Ab x1,.iv x6,.iv (wr (x6-1))]),(2,[Ab x1,.iv x6])] (Ds ?_));have ⟨x7,ex7,h⟩:=Bs h;refine Gj H.1 H.2.1 H.2.2.1 H.2.2.2 6 Ad ex7 rfl rfl trivial rfl rfl rfl rfl (Gn H 1 4 ?_);have ⟨x8,ex8,h⟩:=Bs h;refine Gj H.1 H.2.1 H.2.2.1 H.2.2.2 10 Ad ex8 rfl rfl trivial rfl rfl rfl rfl (Gn H 3 0 ?_);refine GD ?_;exact W
   ·refine Ds (GP H 11 0 [14] [(12,ux 10 [.ff])] (Ds ?_));refine GD ?_;exact W
@[go_sem] def gn:EC:=eQ Tryz.f86
def IB (x1:List SE):Option (List SE):=AI 48 [] x1
theorem TZ {x1 r} (h:IB x1=some r):FOx 86 [Av x1] 53 4 (List.map SE.row r):=by
 have ok:=oK 86 Tryz.f86 gn [.t 2] 1 7;refine EU ok rfl fun w0 H0=>?_;rw [IB] at h;refine Ah 100 ?_;dsimp only [gn,go_sem];refine ⟨by simp,?_⟩;refine LP trivial rfl (fun hn=>?_) ?_
 ·refine Ah 100 ?_;dsimp only[go_sem];refine ⟨by simp,?_⟩;refine CV 2 53 4 rfl rfl ?_;dsimp only[go_sem];have hn:x1=[]:=by simpa using hn
  subst hn;exact Db SE.row (e:=[]) ok (by simpa [AI] using h) rfl rfl
 ·refine Ah 100 ?_;dsimp only[go_sem];refine ⟨by simp,?_⟩;refine BP SE.row h trivial rfl rfl rfl ?_;refine Ah 100 ?_;dsimp only[go_sem];refine ⟨by simp,?_⟩;exact Db SE.row ok (rfl:some r=some r) rfl rfl
def Xn (x1:Int):Option Bool:=some (decide (x1<0))
theorem vN {x1 r} (h:Xn x1=some r):FPx 217 [.iv x1] (.bv r):=by have ok:=oJ 217 Tryz.f217 [.t 2] 1 4;refine FP ok fun w0 H0=>?_;rw [Xn] at h;exact W
@[go_sem] def rU:EC:=eQ Tryz.f201
theorem kq:FnOK Tryz.prog 201 Tryz.f201 rU [.t 6] 3 30:=B6
def Xm (x1:SE) (x2:Int):Option Bool:=some (decide (x1.ID=x2))
theorem vM {x1 x2 r} (h:Xm x1 x2=some r):FPx 256 [.agg (SE.row x1),.elt (Ad x2) 0] (.bv r):=by have ok:=oJ 256 Tryz.f256 [.t 3] 2 6;refine FP ok fun w0 H0=>?_;rw [Xm] at h;exact W
@[go_sem] def sh:EC:=.seq (.reg [Qa 14 (.bin .lss (.t 13) (.t 12))]) (.seq (.ite (.t 14) (.skip) (.exit 0)) (.seq (.blk 1 (.seq (.reg [Qm 15 13,Qm 5 15]) (.seq (.drw [Qm 16 0,Qm 17 5,Qk 18 8 16 17,Qe 19 8 18,Qm 20 1,Qm 21 5,Qk 22 8 20 21,Qe 23 8 22,Qa 24 (.eqs true [true,true,true,false,false,false,false,false] (.t 19) (.t 23))] [[],[],[0,1],[2,0,1],[],[],[4,5],[6,4,5],[3,7,2,0,1,6,4,5]] [[2],[2],[0,1,3],[2,8],[6],[6],[4,5,7],[6,8],[3,7]]) (.ite (.t 24) (.seq (.reg [Qa 4 (.mv (.c .ff))]) (.ret)) (.skip))))) (.reg [Qv 25 13 1,Qm 13 25])))
@[go_sem] def sg:EC:=.seq (.reg [Qa 4 (.mv (.c .ff))]) (.seq (.seq (.reg [Qm 6 0,Qa 7 (.len (.t 6)),Qm 8 1,Qa 9 (.len (.t 8)),Qa 10 (.bin .neq (.t 7) (.t 9))]) (.ite (.t 10) (.seq (.reg [Qa 4 (.mv (.c .ff))]) (.ret)) (.skip))) (.seq (.seq (.reg [Qm 11 0,Qa 12 (.len (.t 11)),Qi 13 0]) (.blk 0 (.loop sh))) (.seq (.reg [Qa 4 (.mv (.c .tt))]) (.ret))))
def XI:Unit→Option Bool
| ()=>some true
def XJ (x1 x2:List SX):Int→Option (Int ⊕ Bool)
| x6=>
 A0 (decide (x6<(ln SX.row x1))) (
 (A4 x1 x6).bind fun x7=>
 (A4 x2 x6).bind fun x8=>
 A0 (!(decide (x7.PE=x8.PE)&&(decide (x7.EP=x8.EP)&&(decide (x7.SS=x8.SS)&&((x7.FK==x8.FK)&&((x7.DY==x8.DY)&&((x7.TO==x8.TO)&&((x7.BO==x8.BO)&&((x7.Ask==x8.Ask)&&true))))))))) (
 Option.map Sum.inr (some false)) (
 some (.inl (wr (x6+1))))) (
 Option.map Sum.inr (XI ()))
def Tr (x1 x2:List SX):Option Bool:=
 A0 (!decide ((ln SX.row x1)=(ln SX.row x2))) (
 some false) (
 loop (XJ x1 x2) 0)
theorem w6 {x1 x2 r} (h:Tr x1 x2=some r):FPx 236 [CU x1,CU x2] (.bv r):=by
 have ok:=oK 236 Tryz.f236 sg [.t 4] 2 24;refine FP ok fun w0 H0=>?_;rw [Tr] at h;refine Vg 13 ?_;refine MI h (fun h=>W) fun h=>?_;refine Vg 8 ?_;refine Vk [] (fun _=>[]) XI r ?_ fun J1=>?_
 ·rintro ⟨⟩ h;rw [XI] at h;exact W
 ·refine Vg 1 ?_;refine Mk h [0,2,10,1] (fun x6=>[(13,.iv x6)]) ?_;rintro n1 x6 y1 h hin1 hout1;rw [XJ] at h;refine Vg 5 ?_;refine MI h (fun h=>?_) fun h=>W;refine Vg 9 ?_;have ⟨x7,ex7,h⟩:=Bs h;have ⟨x8,ex8,h⟩:=Bs h;refine Ai fun all H=>Gs ?_;exact W
def WH:Unit→Option (SX×Bool)
| ()=>some ((SX.mk 0 0 0 false false false false false),false)
def Rv (x1:DI) (x2:Int):Int→Option (Int ⊕ (SX×Bool))
| x6=>
 A0 (decide (x6<(ln SX.row x1.SD))) (
 (A4 x1.SD x6).bind fun x7=>
 A0 (decide (x7.PE=x2)) (
 (A4 x1.SD x6).bind fun x8=>
 Option.map Sum.inr (some (x8,true))) (
 some (.inl (wr (x6+1))))) (
 Option.map Sum.inr (WH ()))
def JE (x1:DI) (x2:Int):Option (SX×Bool):=loop (Rv x1 x2) 0
theorem Vc {x1 x2 r} (h:JE x1 x2=some r):FPx 19 [.agg (DI.row x1),.iv x2] (.tup [.agg (SX.row r.1),.bv r.2]):=by
 have ok:=oJ 19 Tryz.f19 [.c 4 (some 8),.t 5] 2 26;refine FP ok fun w0 H0=>?_;rw [JE] at h;refine Vg 11 ?_;refine Vm [4,1] (fun _=>([],[],[(0,none)],[])) WH r ?_ fun J1=>?_
 ·rintro ⟨⟩ h;rw [WH] at h;exact W
 ·refine Vg 1 ?_;refine Mk h [1,2,1,1] (fun x6=>[(6,.iv x6)]) ?_;rintro n1 x6 y1 h hin1 hout1;rw [Rv] at h;exact W
@[go_sem] def s8:EC:=eQ Tryz.f216
theorem kB:FnOK Tryz.prog 216 Tryz.f216 s8 [.t 4] 3 47:=B6
def QI:Bool→Option Bool
| x4=>some x4
def QH (x1:SX) (x2:Int) (x3:Msg):Option Bool:=
 A0 (decide (x1.PE=x2)) (
 QI (decide (x1.EP=x3.EP))) (
 QI false)
theorem uQ {x1 x2 x3 r} (h:QH x1 x2 x3=some r):FPx 262 [.agg (SX.row x1),.elt (Ad x2) 0,.elt (Msg.row x3) 0] (.bv r):=by
 have ok:=oJ 262 Tryz.f262 [.t 4] 3 13;refine FP ok fun w0 H0=>?_;rw [QH] at h;refine Vg 12 ?_;refine Vl [] (fun x4=>([(4,.bv x4)],[],[])) QI r ?_ fun J1=>?_
 ·intro x4 h;rw [QI] at h;exact W
 ·exact W
@[go_sem] def gh:EC:=eQ Tryz.f49
theorem OP:FnOK Tryz.prog 49 Tryz.f49 gh [.t 2] 1 7:=B6
def Eu (x1:List SX):Option (List SX):=AI 32 [] x1
theorem OJ {x1 r} (h:Eu x1=some r):FOx 49 [CU x1] 66 8 (List.map SX.row r):=by
 refine EU OP rfl fun w0 H0=>?_;rw [Eu] at h;refine Ah 100 ?_;dsimp only [gh,go_sem];refine ⟨by simp,?_⟩;refine LP trivial rfl (fun hn=>?_) ?_
 ·refine Ah 100 ?_;dsimp only[go_sem];refine ⟨by simp,?_⟩;refine CV 2 66 8 rfl rfl ?_;dsimp only[go_sem];have hn:x1=[]:=by simpa using hn
  subst hn;exact Db SX.row (e:=[]) OP (by simpa [AI] using h) rfl rfl
 ·refine Ah 100 ?_;dsimp only[go_sem];refine ⟨by simp,?_⟩;refine BP SX.row h trivial rfl rfl rfl ?_;refine Ah 100 ?_;dsimp only[go_sem];refine ⟨by simp,?_⟩;exact Db SX.row OP (rfl:some r=some r) rfl rfl
theorem bj {x1 r} (h:Eu x1=some r):FPx 49 [CU x1] (CU r):=(OJ h).sealed
def VT (x1:SX):Option Bool:=some (decide (x1.SS=1))
theorem uV {x1 r} (h:VT x1=some r):FPx 265 [.agg (SX.row x1)] (.bv r):=by have ok:=oJ 265 Tryz.f265 [.t 2] 1 5;refine FP ok fun w0 H0=>?_;rw [VT] at h;exact W
@[go_sem] def sx:EC:=eQ Tryz.f274
theorem kJ:FnOK Tryz.prog 274 Tryz.f274 sx [] 4 17:=B6
@[go_sem] def sy:EC:=eQ Tryz.f275
theorem kK:FnOK Tryz.prog 275 Tryz.f275 sy [] 3 25:=B6
def VJ (x1:SX) (x2:Int):Option Bool:=some (decide (x1.PE=x2))
theorem uT {x1 x2 r} (h:VJ x1 x2=some r):FPx 161 [.agg (SX.row x1),.elt (Ad x2) 0] (.bv r):=by have ok:=oJ 161 Tryz.f161 [.t 3] 2 6;refine FP ok fun w0 H0=>?_;rw [VJ] at h;exact W
def XK:Unit→Option Bool
| ()=>some true
def XL (x1 x2:List Int):Int→Option (Int ⊕ Bool)
| x6=>
 A0 (decide (x6<(ln Ad x1))) (
 (A4 x1 x6).bind fun x7=>
 (A4 x2 x6).bind fun x8=>
 A0 (!decide (x7=x8)) (
 Option.map Sum.inr (some false)) (
 some (.inl (wr (x6+1))))) (
 Option.map Sum.inr (XK ()))
def JY (x1 x2:List Int):Option Bool:=
 A0 (!decide ((ln Ad x1)=(ln Ad x2))) (
 some false) (
 loop (XL x1 x2) 0)
theorem Ve {x1 x2 r} (h:JY x1 x2=some r):FPx 120 [Ab x1,Ab x2] (.bv r):=by
 have ok:=oJ 120 Tryz.f120 [.t 4] 2 24;refine FP ok fun w0 H0=>?_;rw [JY] at h;refine Vg 13 ?_;refine MI h (fun h=>W) fun h=>?_;refine Vg 8 ?_;refine Vk [] (fun _=>[]) XK r ?_ fun J1=>?_
 ·rintro ⟨⟩ h;rw [XK] at h;exact W
 ·refine Vg 1 ?_;refine Mk h [0,2,10,1] (fun x6=>[(13,.iv x6)]) ?_;rintro n1 x6 y1 h hin1 hout1;rw [XL] at h;refine Vg 5 ?_;refine MI h (fun h=>?_) fun h=>W;refine Vg 9 ?_;have ⟨x7,ex7,h⟩:=Bs h;have ⟨x8,ex8,h⟩:=Bs h;refine Ai fun all H=>Gs ?_;exact W
@[go_sem] def gk:EC:=eQ Tryz.f85
theorem OR:FnOK Tryz.prog 85 Tryz.f85 gk [.t 2] 1 7:=B6
def Et (x1:List KE):Option (List KE):=AI 16 [] x1
theorem GS {x1 r} (h:Et x1=some r):FOx 85 [Bb x1] 169 2 (List.map KE.row r):=by
 refine EU OR rfl fun w0 H0=>?_;rw [Et] at h;refine Ah 100 ?_;dsimp only [gk,go_sem];refine ⟨by simp,?_⟩;refine LP trivial rfl (fun hn=>?_) ?_
 ·refine Ah 100 ?_;dsimp only[go_sem];refine ⟨by simp,?_⟩;refine CV 2 169 2 rfl rfl ?_;dsimp only[go_sem];have hn:x1=[]:=by simpa using hn
  subst hn;exact Db KE.row (e:=[]) OR (by simpa [AI] using h) rfl rfl
 ·refine Ah 100 ?_;dsimp only[go_sem];refine ⟨by simp,?_⟩;refine BP KE.row h trivial rfl rfl rfl ?_;refine Ah 100 ?_;dsimp only[go_sem];refine ⟨by simp,?_⟩;exact Db KE.row OR (rfl:some r=some r) rfl rfl
theorem CJ {x1 r} (h:Et x1=some r):FPx 85 [Bb x1] (Bb r):=(GS h).sealed
@[go_sem] def sF:EC:=eQ Tryz.f91
theorem OT:FnOK Tryz.prog 91 Tryz.f91 sF [.t 6] 3 22:=B6
@[go_sem] def rN:EC:=eQ Tryz.f171
theorem Yw:FnOK Tryz.prog 171 Tryz.f171 rN [.t 4] 2 25:=B6
def c8:List Int→Option (List Int)
| x20=>some x20
def NP (x8:Int):List Int→Option ((Int×List Int) ⊕ (List Int))
| x13=>some (.inl (wr (x8+1),x13))
def Xh (x1:NO) (p1:(SX→Option Bool)):(Int×List Int)→Option ((Int×List Int) ⊕ (List Int))
| (x8,x9)=>
 A0 (decide (x8<(ln SX.row x1.DK.DI.SD))) (
 (A4 x1.DK.DI.SD x8).bind fun x10=>
 (p1 x10).bind fun x11=>
 A0 x11 (
 (AI 8 x9 ([x10.PE])).bind fun x12=>
 (NP x8) x12) (
 (NP x8) x9)) (
 Option.map Sum.inr (c8 x9))
def Ld (x1:NO) (p1:(SX→Option Bool)):Option (List Int):=loop (Xh x1 p1) (0,([]:List Int))
theorem bc {x1 g1 caps1 p1 r} (h:Ld x1 p1=some r) (hc1:CloOK Tryz.prog g1 caps1 (fun z=>[.agg (SX.row z)]) p1 (fun z=>.bv z)):FPx 171 [.agg (NO.row x1),.clo g1 caps1] (Ab r):=by
 refine FP Yw fun w0 H0=>?_;rw [Ld] at h;refine Vg 19 ?_;refine Vl [] (fun x20=>([(5,.osl 0)],[],[A5 x20])) c8 r ?_ fun J1=>?_
 ·intro x20 h;rw [c8] at h;refine Vg 5 ?_;refine Ae 0 (Ds ?_);exact MD Yw h
 ·refine Vg 1 ?_;refine CV 5 3 1 rfl rfl (Ds ?_);refine Ml h [1,1,3,1,5,2] (fun s=>([(13,.iv s.1)],[],[A5 s.2])) ?_ (hok:=by rintro ⟨x8,x9⟩;first | rfl | (simp [go_sem];done) | simp [go_sem,Ax _ hc1.pu]);rintro n1 ⟨x8,x9⟩ y1 h hin1 hout1;rw [Xh] at h;refine Vg 5 ?_;refine MI h (fun h=>?_) fun h=>?_
  ·refine Vg 5 ?_;have ⟨x10,ex10,h⟩:=Bs h;refine AZ SX.row ex10 trivial rfl rfl rfl (Vg 8 ?_);have ⟨x11,ex11,h⟩:=Bs h;refine Dy trivial rfl hc1 (x:=x10) ex11 (by first | exact Am _ | simp [go_sem]) (by first | rfl | simp [go_sem,hc1.pu]) (Vg 1 ?_);refine Vl [1,1,3,1,5,3] (fun x13=>([],[],[A5 x13])) (NP x8) y1 ?_ fun J2=>?_
   ·intro x13 h;rw [NP] at h;refine Vg 5 ?_;exact Da h hin1 (hok:=by first | rfl | simp [go_sem,Ax _ hc1.pu])
   ·refine MI h (fun h=>?_) fun h=>?_
    ·refine Vg 5 ?_;have ⟨x12,ex12,h⟩:=Bs h;refine BP Ad ex12 trivial rfl rfl rfl (Vg 2 ?_);refine A7 2 0 (Ds ?_);(try rw [P1 _ _ _ hc1.pu]);exact AQ J2 h (hok:=by first | rfl | simp [go_sem,Ax _ hc1.pu])
    ·refine Vg 1 ?_;exact AQ J2 h (hok:=by first | rfl | simp [go_sem,Ax _ hc1.pu])
  ·refine Vg 1 ?_;exact AQ J1 (BY h hout1) (hok:=by first | rfl | simp [go_sem])
def Iq (x1:SX):Option Bool:=some (decide (x1.SS=0))
theorem b8 {x1 r} (h:Iq x1=some r):FPx 93 [.agg (SX.row x1)] (.bv r):=by have ok:=oJ 93 Tryz.f93 [.t 2] 1 5;refine FP ok fun w0 H0=>?_;rw [Iq] at h;exact W
end
end NX
end Go.Proofs.YtjemlejoladlcaaGreat
