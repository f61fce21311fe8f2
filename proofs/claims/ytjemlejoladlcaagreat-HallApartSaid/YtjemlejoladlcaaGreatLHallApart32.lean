/-
  The law HallApart: its row holds, for its model answers true at every input. Written by a program of ours (frame.py).
-/
import Derived.Test.YtjemlejoladlcaaGreatRows
import Derived.Test.YtjemlejoladlcaaGreatLHallApart31
set_option maxRecDepth 100000
set_option maxHeartbeats 40000000
namespace Go.Proofs.YtjemlejoladlcaaGreat
namespace NX
open Go Go.ChangeShapes Go.WideShapes Go.ChangeAt Go.RowKit
theorem xM:Cy Tryz.prog 76 Edge.row:=by
 intro H enc w base sp h6 fuel cs x h;obtain ⟨xs,n,_,_,hl,h8,hf⟩:=DataW.trod_struct Tryz.underlying76 h;rw [show Tryz.prog.cellsOf 76=2 from by kernel_rfl] at hl;have c0:DataW.trod enc Tryz.prog w base sp h6 n 3 ((cs.drop 0).take (Tryz.prog.cellsOf 3))=xs[0]?:=hf 0 _ rfl;rw [show Tryz.prog.cellsOf 3=1 from by kernel_rfl] at c0;have h9:0<xs.length:=by rw [h8];decide
 obtain ⟨y0,hw⟩:∃y,xs[0]?=some y:=⟨_,List.getElem?_eq_getElem h9⟩
 obtain ⟨v0,k0⟩:=(Ck Tryz.underlying3) enc w _ _ _ _ _ _ (c0.trans hw);have c1:DataW.trod enc Tryz.prog w base sp h6 n 3 ((cs.drop 1).take (Tryz.prog.cellsOf 3))=xs[1]?:=hf 1 _ rfl;rw [show Tryz.prog.cellsOf 3=1 from by kernel_rfl] at c1;have hd:1<xs.length:=by rw [h8];decide
 obtain ⟨y1,hy1⟩:∃y,xs[1]?=some y:=⟨_,List.getElem?_eq_getElem hd⟩
 obtain ⟨v1,k1⟩:=(Ck Tryz.underlying3) enc w _ _ _ _ _ _ (c1.trans hy1);have e:cs=(cs.drop 0).take 1++(cs.drop 1).take 1:=by
  match cs,hl with
  | [a0,a1],_=>rfl
 rw [e];exact ⟨⟨v0,v1⟩,(BH k0 k1)⟩
theorem xG:Cy Tryz.prog 22 (Ci 2 Edge.row):=IM (n:=2) (row:=Edge.row) Tryz.underlying22 (by kernel_rfl) (by decide) (fun _=>⟨rfl,rfl,rfl⟩) xM
theorem xK:Cy Tryz.prog 24 Graph.row:=by
 intro H enc w base sp h6 fuel cs x h;obtain ⟨xs,n,_,_,hl,h8,hf⟩:=DataW.trod_struct Tryz.underlying24 h;rw [show Tryz.prog.cellsOf 24=2 from by kernel_rfl] at hl;have c0:DataW.trod enc Tryz.prog w base sp h6 n 3 ((cs.drop 0).take (Tryz.prog.cellsOf 3))=xs[0]?:=hf 0 _ rfl;rw [show Tryz.prog.cellsOf 3=1 from by kernel_rfl] at c0;have h9:0<xs.length:=by rw [h8];decide
 obtain ⟨y0,hw⟩:∃y,xs[0]?=some y:=⟨_,List.getElem?_eq_getElem h9⟩
 obtain ⟨v0,k0⟩:=(Ck Tryz.underlying3) enc w _ _ _ _ _ _ (c0.trans hw);have c1:DataW.trod enc Tryz.prog w base sp h6 n 22 ((cs.drop 1).take (Tryz.prog.cellsOf 22))=xs[1]?:=hf 1 _ rfl;rw [show Tryz.prog.cellsOf 22=1 from by kernel_rfl] at c1;have hd:1<xs.length:=by rw [h8];decide
 obtain ⟨y1,hy1⟩:∃y,xs[1]?=some y:=⟨_,List.getElem?_eq_getElem hd⟩
 obtain ⟨v1,k1⟩:=xG enc w _ _ _ _ _ _ (c1.trans hy1);have e:cs=(cs.drop 0).take 1++(cs.drop 1).take 1:=by
  match cs,hl with
  | [a0,a1],_=>rfl
 rw [e];exact ⟨⟨v0,v1⟩,(BH k0 k1)⟩
theorem xI:Cy Tryz.prog 40 (Ci 1 Ad):=IM (n:=1) (row:=Ad) Tryz.underlying40 (by kernel_rfl) (by decide) (fun _=>⟨rfl,rfl,rfl⟩) (Ck Tryz.underlying3)
theorem xL:Cy Tryz.prog 62 Do.row:=by
 intro H enc w base sp h6 fuel cs x h;obtain ⟨xs,n,_,_,hl,h8,hf⟩:=DataW.trod_struct Tryz.underlying62 h;rw [show Tryz.prog.cellsOf 62=5 from by kernel_rfl] at hl;have c0:DataW.trod enc Tryz.prog w base sp h6 n 60 ((cs.drop 0).take (Tryz.prog.cellsOf 60))=xs[0]?:=hf 0 _ rfl;rw [show Tryz.prog.cellsOf 60=1 from by kernel_rfl] at c0;have h9:0<xs.length:=by rw [h8];decide
 obtain ⟨y0,hC⟩:∃y,xs[0]?=some y:=⟨_,List.getElem?_eq_getElem h9⟩
 obtain ⟨v0,k0⟩:=(Ck Tryz.underlying60) enc w _ _ _ _ _ _ (c0.trans hC);have c1:DataW.trod enc Tryz.prog w base sp h6 n 3 ((cs.drop 1).take (Tryz.prog.cellsOf 3))=xs[1]?:=hf 1 _ rfl;rw [show Tryz.prog.cellsOf 3=1 from by kernel_rfl] at c1;have hd:1<xs.length:=by rw [h8];decide
 obtain ⟨y1,hy1⟩:∃y,xs[1]?=some y:=⟨_,List.getElem?_eq_getElem hd⟩
 obtain ⟨v1,k1⟩:=(Ck Tryz.underlying3) enc w _ _ _ _ _ _ (c1.trans hy1);have c2:DataW.trod enc Tryz.prog w base sp h6 n 3 ((cs.drop 2).take (Tryz.prog.cellsOf 3))=xs[2]?:=hf 2 _ rfl;rw [show Tryz.prog.cellsOf 3=1 from by kernel_rfl] at c2;have hw:2<xs.length:=by rw [h8];decide
 obtain ⟨y2,hD⟩:∃y,xs[2]?=some y:=⟨_,List.getElem?_eq_getElem hw⟩
 obtain ⟨v2,k2⟩:=(Ck Tryz.underlying3) enc w _ _ _ _ _ _ (c2.trans hD);have c3:DataW.trod enc Tryz.prog w base sp h6 n 3 ((cs.drop 3).take (Tryz.prog.cellsOf 3))=xs[3]?:=hf 3 _ rfl;rw [show Tryz.prog.cellsOf 3=1 from by kernel_rfl] at c3;have hA:3<xs.length:=by rw [h8];decide
 obtain ⟨y3,hE⟩:∃y,xs[3]?=some y:=⟨_,List.getElem?_eq_getElem hA⟩
 obtain ⟨v3,k3⟩:=(Ck Tryz.underlying3) enc w _ _ _ _ _ _ (c3.trans hE);have c4:DataW.trod enc Tryz.prog w base sp h6 n 40 ((cs.drop 4).take (Tryz.prog.cellsOf 40))=xs[4]?:=hf 4 _ rfl;rw [show Tryz.prog.cellsOf 40=1 from by kernel_rfl] at c4;have hB:4<xs.length:=by rw [h8];decide
 obtain ⟨y4,hG⟩:∃y,xs[4]?=some y:=⟨_,List.getElem?_eq_getElem hB⟩
 obtain ⟨v4,k4⟩:=xI enc w _ _ _ _ _ _ (c4.trans hG);have e:cs=(cs.drop 0).take 1++(cs.drop 1).take 1++(cs.drop 2).take 1++(cs.drop 3).take 1++(cs.drop 4).take 1:=by
  match cs,hl with
  | [a0,a1,a2,a3,a4],_=>rfl
 rw [e];exact ⟨⟨v0,v1,v2,v3,v4⟩,(BH (BH (BH (BH k0 k1) k2) k3) k4)⟩
theorem xJ:Cy Tryz.prog 106 narthexlaw19_Step.row:=by
 intro H enc w base sp h6 fuel cs x h;obtain ⟨xs,n,_,_,hl,h8,hf⟩:=DataW.trod_struct Tryz.underlying106 h;rw [show Tryz.prog.cellsOf 106=8 from by kernel_rfl] at hl;have c0:DataW.trod enc Tryz.prog w base sp h6 n 4 ((cs.drop 0).take (Tryz.prog.cellsOf 4))=xs[0]?:=hf 0 _ rfl;rw [show Tryz.prog.cellsOf 4=1 from by kernel_rfl] at c0;have h9:0<xs.length:=by rw [h8];decide
 obtain ⟨y0,hB⟩:∃y,xs[0]?=some y:=⟨_,List.getElem?_eq_getElem h9⟩
 obtain ⟨v0,k0⟩:=(d9 Tryz.underlying4) enc w _ _ _ _ _ _ (c0.trans hB);have c1:DataW.trod enc Tryz.prog w base sp h6 n 3 ((cs.drop 1).take (Tryz.prog.cellsOf 3))=xs[1]?:=hf 1 _ rfl;rw [show Tryz.prog.cellsOf 3=1 from by kernel_rfl] at c1;have hd:1<xs.length:=by rw [h8];decide
 obtain ⟨y1,hy1⟩:∃y,xs[1]?=some y:=⟨_,List.getElem?_eq_getElem hd⟩
 obtain ⟨v1,k1⟩:=(Ck Tryz.underlying3) enc w _ _ _ _ _ _ (c1.trans hy1);have c2:DataW.trod enc Tryz.prog w base sp h6 n 3 ((cs.drop 2).take (Tryz.prog.cellsOf 3))=xs[2]?:=hf 2 _ rfl;rw [show Tryz.prog.cellsOf 3=1 from by kernel_rfl] at c2;have hw:2<xs.length:=by rw [h8];decide
 obtain ⟨y2,hC⟩:∃y,xs[2]?=some y:=⟨_,List.getElem?_eq_getElem hw⟩
 obtain ⟨v2,k2⟩:=(Ck Tryz.underlying3) enc w _ _ _ _ _ _ (c2.trans hC);have c3:DataW.trod enc Tryz.prog w base sp h6 n 62 ((cs.drop 3).take (Tryz.prog.cellsOf 62))=xs[3]?:=hf 3 _ rfl;rw [show Tryz.prog.cellsOf 62=5 from by kernel_rfl] at c3;have hA:3<xs.length:=by rw [h8];decide
 obtain ⟨y3,hD⟩:∃y,xs[3]?=some y:=⟨_,List.getElem?_eq_getElem hA⟩
 obtain ⟨v3,k3⟩:=xL enc w _ _ _ _ _ _ (c3.trans hD);have e:cs=(cs.drop 0).take 1++(cs.drop 1).take 1++(cs.drop 2).take 1++(cs.drop 3).take 5:=by
  match cs,hl with
  | [a0,a1,a2,a3,a4,a5,a6,a7],_=>rfl
 rw [e];exact ⟨⟨v0,v1,v2,v3⟩,(BH (BH (BH k0 k1) k2) k3)⟩
theorem xH:Cy Tryz.prog 25 (Ci 8 narthexlaw19_Step.row):=IM (n:=8) (row:=narthexlaw19_Step.row) Tryz.underlying25 (by kernel_rfl) (by decide) (fun _=>⟨rfl,rfl,rfl⟩) xJ
theorem wm:laidOutB Tryz.prog=true:=by kernel_rfl
theorem yc:ownKnob Tryz.prog.godebug=none:=by kernel_rfl
theorem rc (H:Type) (enc:TypeId×Value→H) (W:World) (J:Nat) (args:Array Value) (U Z:List (DataW H)) (E:List MemPlace)
  (h6:∀(j:Nat) t v,Tryz.f3.params[j]?=some t→args[j]?=some v→Value.okWide Tryz.prog W .any J t v)
  (Y:DataW.Whole enc Tryz.prog Tryz.f3.params.toList Rows.hallApartSpec.vars false W args.toList U Z E):
  Calls Tryz.prog 3 args W fun e W'=>∃v,e = .returned v∧Rows.hallApartSpec.post enc Tryz.prog Tryz.f3 false true false false W args v W':=by
 have h8:=Y;obtain ⟨p,q,h9,hV,rfl,hC,hD⟩:=Y;have hA:DataW.TrodAll enc Tryz.prog W 0 (fun _=>true) true Tryz.f3.params.toList args.toList U p:=h9;rw [Tryz.params3] at hA h6;obtain ⟨v0,vs0,d0,ds0,p0,q0,hd,rfl,rfl,h0,r0⟩:=trodAll_cons hA;obtain ⟨v1,vs1,d1,ds1,p1,q1,hw,rfl,rfl,h1,r1⟩:=trodAll_cons r0;obtain ⟨hz,rfl,rfl⟩:=trodAll_nil r1;obtain rfl:args = #[v0,v1]:=by cases args;simp_all
 obtain ⟨x1,k0⟩:=ZQ xK Tryz.underlying24 (h6 0 24 v0 rfl rfl) h0;obtain ⟨x2,k1⟩:=ZR xH Tryz.underlying25 (h6 1 25 v1 rfl rfl) h1;refine (vc (yh x1 x2) (fun k=>W.heap[k]?) W [v0,v1] (fun _ _ h=>h) (fun _ hs=>absurd hs List.not_mem_nil) ⟨v0,_,rfl,k0,⟨v1,_,rfl,k1,rfl⟩⟩).mono ?_;rintro e W' ⟨v,H',rfl,hB,_,_,hv⟩;have hv:v = .bool true:=hv;subst hv;exact ⟨_,rfl,bp wm (by kernel_rfl) rfl (rfl:Tryz.f3.resultTypes = #[4]) Tryz.underlying4 (fun _=>rfl) h8 hB⟩
theorem wS (os:Os) (E:os.Started) (H:Type) (enc:TypeId×Value→H):
  ReturnsInHanded {} Tryz.checked os 3 .any (Rows.hallApartSpec.pre6 enc Tryz.prog Tryz.f3 Rows.hallApartRow.domain false) (Rows.hallApartSpec.post enc Tryz.prog Tryz.f3 false true false false):=by
 refine returnsInHanded_of_change (C:=Tryz.checked) yc E (by kernel_rfl) Tryz.func3
  (ChangeSpec.witness6 (enc:=enc) (C:=Tryz.checked) false ⟨#[], #[.agg #[.int .i64 0,.slice none 0 0],.slice none 0 0],[]⟩ 8 (by kernel_rfl) (by kernel_rfl) (by kernel_rfl) (by kernel_rfl)) ?_
 intro W base args ds gs before h6 hW _ _;exact rc H enc W base args ds gs before h6 hW
theorem hallApart_holds:Rows.HallApartSaid:=
 OpenClaim.holds_of_wide 3 Tryz.f3 rfl rfl rfl rfl rfl rfl rfl ⟨rfl,rfl,rfl,rfl,rfl⟩ rfl rfl rfl rfl rfl (by kernel_rfl) Tryz.func3 (by kernel_rfl)
  (of_decide_eq_true (by kernel_rfl)) (by unfold Func.isWrapper;first | (rw [if_pos (by decide +kernel)];kernel_rfl) | (rw [if_neg (by decide +kernel)];exact ⟨rfl,rfl⟩))
  (fun os started H enc _=>wS os started H enc)
#print axioms hallApart_holds
end NX
end Go.Proofs.YtjemlejoladlcaaGreat
