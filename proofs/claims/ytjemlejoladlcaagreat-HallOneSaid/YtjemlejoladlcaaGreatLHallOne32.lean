/-
  The function narthex/bar.Count: its code compiled, a model, and that the code answers as the model. Written by a program of ours (lb.py). No statement of the seat is proved here.
-/
import Derived.Test.YtjemlejoladlcaaGreatRows
import Derived.Test.YtjemlejoladlcaaGreatLHallOne31
set_option maxRecDepth 100000
set_option maxHeartbeats 40000000
namespace Go.Proofs.YtjemlejoladlcaaGreat
namespace NX
open Go
noncomputable section
def bI:Int→Option Int
| x61=>some x61
def ME (x48:Int):Int→Option ((Int×Int) ⊕ Int)
| x51=>some (.inl (x51,wr (x48+1)))
def Ia (x47 x48:Int):Bool→Option ((Int×Int) ⊕ Int)
| x50=>
 A0 x50 (
 (ME x48) (wr (x47+1))) (
 (ME x48) x47)
def Qc (x1:Bar) (x2:Edge) (x3:Int) (x14:SX):(Int×Int)→Option ((Int×Int) ⊕ Int)
| (x47,x48)=>
 A0 (decide (x48<(ln ML.row x1.ML))) (
 (A4 x1.ML x48).bind fun x49=>
 A0 (decide (x49.Msg.KI=x3)) (
 A0 (decide (x49.Msg.EP=x14.EP)) (
 A0 (decide ((min x49.From x49.To)=(min x2.A x2.B))) (
 (Ia x47 x48) (decide ((max x49.From x49.To)=(max x2.A x2.B)))) (
 (Ia x47 x48) false)) (
 (Ia x47 x48) false)) (
 (Ia x47 x48) false)) (
 Option.map Sum.inr (bI x47))
def MJ (x1:Bar) (x2:Edge) (x3:Int) (x14:SX):Int→Option Int
| x41=>loop (Qc x1 x2 x3 x14) (x41,0)
def MK (x28:Int):Int→Option ((Int×Int) ⊕ Int)
| x30=>some (.inl (x30,wr (x28+1)))
def Qb (x1:Bar) (x2:Edge) (x3:Int) (x14:SX) (x21 x22:Bool):(Int×Int)→Option ((Int×Int) ⊕ Int)
| (x27,x28)=>
 A0 (decide (x28<2)) (
 (A4 [x21,x22] x28).bind fun x29=>
 A0 x29 (
 (MK x28) (wr (x27+1))) (
 (MK x28) x27)) (
 Option.map Sum.inr ((MJ x1 x2 x3 x14) x27))
def MH (x1:Bar) (x2:Edge) (x3:Int) (x14:SX):(Bool×Bool)→Option Int
| (x21,x22)=>loop (Qb x1 x2 x3 x14 x21 x22) (0,0)
def MF (x1:Bar) (x2:Edge) (x3:Int) (x14:SX) (x19:SX):Bool→Option Int
| x20=>
 A0 x20 (
 some 0) (
 A0 (decide (x3=4)) (
 (MH x1 x2 x3 x14) (x14.Ask,x19.Ask)) (
 (MH x1 x2 x3 x14) (x14.BO,x19.BO)))
def Q9 (x1:Bar) (x2:Edge) (x3:Int) (x13:Bool) (x14:SX):(Bool×SX)→Option Int
| (x18,x19)=>
 A0 (!x13) (
 (MF x1 x2 x3 x14 x19) true) (
 A0 (!x18) (
 (MF x1 x2 x3 x14 x19) true) (
 (MF x1 x2 x3 x14 x19) (!decide (x14.EP=x19.EP))))
def Vv (x1:Bar) (x2:Edge) (x3:Int):(Bool×SX)→Option Int
| (x13,x14)=>
 (A4 x1.DS x2.B).bind fun x15=>
 (G5 x15.DI x2.A).bind fun x16=>
 (Q9 x1 x2 x3 x13 x14) (x16.2,x16.1)
def Q8 (x1:Bar) (x2:Edge) (x3:Int):Bool→Option Int
| x9=>
 A0 x9 (
 some 0) (
 (A4 x1.DS x2.A).bind fun x10=>
 (G5 x10.DI x2.B).bind fun x11=>
 (Vv x1 x2 x3) (x11.2,x11.1))
def Kw (x1:Bar) (x2:Edge) (x3:Int):Bool→Option Int
| x4=>
 A0 x4 (
 (Ib x1).bind fun x5=>
 (TJ x5 x2 x3).bind fun x6=>
 some x6) (
 (MM x1 x2.A).bind fun x7=>
 A0 (!x7) (
 (Q8 x1 x2 x3) true) (
 (MM x1 x2.B).bind fun x8=>
 (Q8 x1 x2 x3) (!x8)))
def Q7 (x1:Bar) (x2:Edge) (x3:Int):Option Int:=
 A0 (!decide (x3=3)) (
 (Kw x1 x2 x3) (!decide (x3=4))) (
 (Kw x1 x2 x3) false)
theorem uB {x1 x2 x3 r} (h:Q7 x1 x2 x3=some r):FPx 22 [.agg (Bar.row x1),.agg (Edge.row x2),.iv x3] (.iv r):=by
 have ok:=oJ 22 Tryz.f22 [.t 6] 3 146;refine FP ok fun w0 H0=>?_;rw [Q7] at h;refine Vg 12 ?_;refine Vk [2,3] (fun x4=>[(22,.bv x4)]) (Kw x1 x2 x3) r ?_ fun J1=>?_
 ·intro x4 h;rw [Kw] at h;refine MI h (fun h=>?_) fun h=>?_
  ·refine Vg 1 ?_;have ⟨x5,ex5,h⟩:=Bs h;have ⟨x6,ex6,h⟩:=Bs h;have q0:=ip ex5;have q1:=wd ex6;refine Ai fun all H=>Gs ?_;exact W
  ·refine Vg 7 ?_;refine VB h iq fun _ _ h=>?_;refine Vg 2 ?_;refine Vk [2,3] (fun x9=>[(39,.bv x9)]) (Q8 x1 x2 x3) r ?_ fun J2=>?_
   ·intro x9 h;rw [Q8] at h;refine MI h (fun h=>W) fun h=>?_;refine Vg 2 ?_;refine Vl [2,3] (fun s=>([(7,.ptr 2 0),(8,.bv s.1)],[some ⟨71,Bar.row x1⟩,some ⟨76,Edge.row x2⟩,some ⟨66,[.iv s.2.PE,.iv s.2.EP,.iv s.2.SS,.bv s.2.FK,.bv s.2.DY,.bv s.2.TO,.bv s.2.BO,.bv s.2.Ask]⟩],[])) (Vv x1 x2 x3) r ?_ fun J3=>?_
    ·rintro ⟨x13,x14⟩ h;rw [Vv] at h;refine Vg 1 ?_;refine Vl [2,3,2,2] (fun s=>([(9,.ptr 3 0),(10,.bv s.1)],[some ⟨71,Bar.row x1⟩,some ⟨76,Edge.row x2⟩,some ⟨66,SX.row x14⟩,some ⟨66,[.iv s.2.PE,.iv s.2.EP,.iv s.2.SS,.bv s.2.FK,.bv s.2.DY,.bv s.2.TO,.bv s.2.BO,.bv s.2.Ask]⟩],[])) (Q9 x1 x2 x3 x13 x14) r ?_ fun J4=>?_
     ·rintro ⟨x18,x19⟩ h;rw [Q9] at h;refine Vg 6 ?_;refine Vk [2,3,2,1,1,1] (fun x20=>[(78,.bv x20)]) (MF x1 x2 x3 x14 x19) r ?_ fun J5=>?_
      ·intro x20 h;rw [MF] at h;refine MI h (fun h=>W) fun h=>?_;refine Vg 17 ?_;refine Vm [2,3,2,1,3,1] (fun s=>([],[(4,0,.bv s.1),(4,1,.bv s.2)],[(3,none)],[])) (MH x1 x2 x3 x14) r ?_ fun J6=>?_
       ·rintro ⟨x21,x22⟩ h;rw [MH] at h;refine Vg 10 ?_;refine Vl [2,3,2,1] (fun x41=>([(12,.iv x41)],[some ⟨71,Bar.row x1⟩,some ⟨76,Edge.row x2⟩,some ⟨66,SX.row x14⟩],[])) (MJ x1 x2 x3 x14) r ?_ fun J7=>?_
        ·intro x41 h;rw [MJ] at h;refine Vg 8 ?_;refine Vl [] (fun x61=>([(12,.iv x61)],[],[])) bI r ?_ fun J9=>?_
         ·intro x61 h;rw [bI] at h;exact W
         ·refine Vg 1 ?_;refine Mm h [2,1,1,1,2,1,92,2] (fun s=>([(12,.iv s.1),(102,.iv s.2)],[],[(0,none)],[])) ?_;rintro n1 ⟨x47,x48⟩ y1 h hin1 hout1;rw [Qc] at h;refine Vg 5 ?_;refine MI h (fun h=>?_) fun h=>W;refine Vg 5 ?_;have ⟨x49,ex49,h⟩:=Bs h;refine AZ ML.row ex49 trivial rfl rfl rfl (Vg 12 ?_);refine Vl [2,1,1,1,2,1,4,1,87,3] (fun x50=>([(144,.bv x50)],[none,some ⟨76,Edge.row x2⟩,some ⟨66,SX.row x14⟩],[])) (Ia x47 x48) y1 ?_ fun J10=>?_
          ·intro x50 h;rw [Ia] at h;refine Vk [2,1,1,1,2,1,92,3] (fun x51=>[(12,.iv x51)]) (ME x48) y1 ?_ fun J11=>?_
           ·intro x51 h;rw [ME] at h;exact W
           ·refine MI h (fun h=>?_) fun h=>?_
            ·refine Vg 5 ?_;exact AQ J11 h
            ·refine Vg 1 ?_;exact AQ J11 h
          ·refine MC 111 h (fun h=>?_) fun h=>?_
           ·refine Vg 8 ?_;refine MC 119 h (fun h=>?_) fun h=>?_
            ·refine Vg 13 ?_;refine MC 132 h (fun h=>?_) fun h=>?_
             ·refine Vg 13 ?_;exact AQ J10 h
             ·refine Vg 13 ?_;exact AQ J10 h
            ·refine Vg 26 ?_;exact AQ J10 h
           ·refine Vg 34 ?_;exact AQ J10 h
        ·refine Vg 1 ?_;refine Ml h [2,3,2,1,83,1] (fun s=>([(12,.iv s.1),(92,.iv s.2)],[some ⟨71,Bar.row x1⟩,some ⟨76,Edge.row x2⟩,some ⟨66,SX.row x14⟩],[])) ?_;rintro n1 ⟨x27,x28⟩ y1 h hin1 hout1;rw [Qb] at h;refine Vg 5 ?_;refine MI h (fun h=>?_) fun h=>W;refine Vg 5 ?_;have ⟨x29,ex29,h⟩:=Bs h;refine p8 AV.bv ex29 trivial (by rfl) rfl rfl (Vg 6 ?_);refine Vk [2,3,2,1,83,2] (fun x30=>[(12,.iv x30)]) (MK x28) y1 ?_ fun J8=>?_
         ·intro x30 h;rw [MK] at h;exact W
         ·exact W
       ·exact W
      ·exact W
     ·have ⟨x15,ex15,h⟩:=Bs h;have ⟨x16,ex16,h⟩:=Bs h;have q0:=Mq ex16;refine Ai fun all H=>Gs ?_;exact W
    ·have ⟨x10,ex10,h⟩:=Bs h;have ⟨x11,ex11,h⟩:=Bs h;have q0:=Mq ex11;refine Ai fun all H=>Gs ?_;exact W
   ·refine MC 33 h (fun h=>W) fun h=>?_;refine Vg 3 ?_;refine VB h iq fun _ _ h=>?_;exact W
 ·exact W
def Kp (l:List DI):Prop:=l.length≤5000∧∀d∈l,d.SD.length≤100000
theorem LB (d:DI) (p:Int) (hl:d.SD.length≤1000000):G5 d p=some (El (C8 d p)):=by
 simp only [G5];rw [Lz d.SD (fun z=>SB z p) (fun x=>decide (x.PE=p)) Om (fun x _=>rfl),OB,YK];have:=aw (fun x:SX=>decide (x.PE=p)) d.SD;unfold C8;cases h:d.SD.findIdx? (fun x=>decide (x.PE=p)) with
 | none=>rw [h] at this;simp only at this;rw [this];rfl
 | some i=>rw [h] at this;obtain ⟨x,h1,h2⟩:=this;rw [h2];simp only [Option.isNone_some,A1,Bf,Aj h1,OB,El]
def HN (s:SN) (a:Int):Bool:=decide (0≤a)&&decide (a<s.DZ.length)
theorem Z0v (s:SN) (a:Int):OC s a=some (HN s a):=by simp only [OC,TP,HN,B7];cases decide (0≤a)<;>rfl
theorem o8 {s:SN} {a:Int} (h:HN s a=true):∃d,A4 s.DZ a=some d∧s.DZ[a.toNat]?=some d:=by simp only [HN,Bool.and_eq_true,decide_eq_true_eq] at h;exact UE h.1 h.2
def IG (e:Edge) (k ep:Int) (m:ML):Bool:=decide (m.Msg.KI=k)&&(decide (m.Msg.EP=ep)&&(decide (min m.From m.To=min e.A e.B)&&decide (max m.From m.To=max e.A e.B)))
def CC (M:List ML) (e:Edge) (k ep:Int):Nat:=M.countP (IG e k ep)
theorem ag (M:List ML) (m:ML) (e:Edge) (k ep:Int):CC (M++[m]) e k ep=CC M e k ep+bn (IG e k ep m):=by unfold CC;rw [List.countP_append,List.countP_cons];cases IG e k ep m<;>simp [bn]
theorem ae (M:List ML) (e:Edge) (k ep:Int):CC M e k ep≤M.length:=List.countP_le_length
theorem zP (s:SN) (e:Edge) (k:Int) (x:SX) (n:Nat) (hn:n≤2) (hM:s.ML.length≤900000):loop (Ox s e k x) ((n:Int),0)=some ((n+CC s.ML e k x.EP:Nat):Int):=by
 have Af:=CK s.ML (Ox s e k x) (fun pre=>(((n+CC pre e k x.EP:Nat):Int),(pre.length:Int))) ((n+CC s.ML e k x.EP:Nat):Int) (fun pre m post h=>?_) ?_
 ·exact Af
 ·have hx:=Br h;have hm:=Bp h;have hc:=ae pre e k x.EP;dsimp only [Ox];rw [Ay hx,A3,Aj hx,OB,ag,AN];have step:∀z,IF ((n+CC pre e k x.EP:Nat):Int) (pre.length:Int) z=some (.inl (((n+(CC pre e k x.EP+bn z):Nat):Int),((pre.length+1:Nat):Int))):=fun z=>by
   cases z with
   | true=>dsimp only [IF,Ov];rw [A3,Al Om,Al Om];rfl
   | false=>dsimp only [IF,Ov];rw [A1,Al Om];rfl
  unfold IG;cases h1:decide (m.Msg.KI=k) with
  | false=>rw [A1,step,Bool.false_and]
  | true=>
    cases h2:decide (m.Msg.EP=x.EP) with
    | false=>rw [A3,A1,step,Bool.true_and,Bool.false_and]
    | true=>
      cases h3:decide (min m.From m.To=min e.A e.B) with
      | false=>rw [A3,A3,A1,step,Bool.true_and,Bool.true_and,Bool.false_and]
      | true=>rw [A3,A3,A3,step,Bool.true_and,Bool.true_and,Bool.true_and]
 ·dsimp only [Ox];rw [AB,A1];rfl
theorem zQ (s:SN) (e:Edge) (k:Int) (x:SX) (n:Nat) (hn:n≤2) (hM:s.ML.length≤900000):loop (Oz s e k x) ((n:Int),0)=some ((n+CC s.ML e k x.EP:Nat):Int):=by
 have Af:=CK s.ML (Oz s e k x) (fun pre=>(((n+CC pre e k x.EP:Nat):Int),(pre.length:Int))) ((n+CC s.ML e k x.EP:Nat):Int) (fun pre m post h=>?_) ?_
 ·exact Af
 ·have hx:=Br h;have hm:=Bp h;have hc:=ae pre e k x.EP;dsimp only [Oz];rw [Ay hx,A3,Aj hx,OB,ag,AN];have step:∀z,IE ((n+CC pre e k x.EP:Nat):Int) (pre.length:Int) z=some (.inl (((n+(CC pre e k x.EP+bn z):Nat):Int),((pre.length+1:Nat):Int))):=fun z=>by
   cases z with
   | true=>dsimp only [IE,Oq];rw [A3,Al Om,Al Om];rfl
   | false=>dsimp only [IE,Oq];rw [A1,Al Om];rfl
  unfold IG;cases h1:decide (m.Msg.KI=k) with
  | false=>rw [A1,step,Bool.false_and]
  | true=>
    cases h2:decide (m.Msg.EP=x.EP) with
    | false=>rw [A3,A1,step,Bool.true_and,Bool.false_and]
    | true=>
      cases h3:decide (min m.From m.To=min e.A e.B) with
      | false=>rw [A3,A3,A1,step,Bool.true_and,Bool.true_and,Bool.false_and]
      | true=>rw [A3,A3,A3,step,Bool.true_and,Bool.true_and,Bool.true_and]
 ·dsimp only [Oz];rw [AB,A1];rfl
theorem zR (s:SN) (e:Edge) (k:Int) (x y:SX):loop (Ow s e k x y) (0,0)=Ou s e k x ((bn x.FK+bn y.FK:Nat):Int):=by
 have ef:(([x,y].countP (·.FK):Nat):Int)=((bn x.FK+bn y.FK:Nat):Int):=by rw [List.countP_cons,List.countP_cons,List.countP_nil];cases x.FK<;>cases y.FK<;>rfl
 rw [←ef];refine Hj [x,y] (Ow s e k x y) (fun pre=>(((pre.countP (·.FK):Nat):Int),(pre.length:Int))) (fun _ _=>Ou s e k x (([x,y].countP (·.FK):Nat):Int)) (fun pre z post h=>.inl ⟨?_,rfl⟩) ?_
 ·have hx:=Br h;have hm:=Bp h;have h2:pre.length<2:=hm;have hc:pre.countP (·.FK)≤pre.length:=List.countP_le_length;dsimp only [Ow,Ya,TN];rw [Ay hx,A3,Aj hx,OB,OB,AN,List.countP_append,List.countP_cons,List.countP_nil,Al Om,Al Om];cases z.FK<;>rfl
 ·dsimp only [Ow];rw [AB,A1]
theorem zS (s:SN) (e:Edge) (k:Int) (x y:SX):loop (Oy s e k x y) (0,0)=Oo s e k x ((bn x.TO+bn y.TO:Nat):Int):=by
 have ef:(([x,y].countP (·.TO):Nat):Int)=((bn x.TO+bn y.TO:Nat):Int):=by rw [List.countP_cons,List.countP_cons,List.countP_nil];cases x.TO<;>cases y.TO<;>rfl
 rw [←ef];refine Hj [x,y] (Oy s e k x y) (fun pre=>(((pre.countP (·.TO):Nat):Int),(pre.length:Int))) (fun _ _=>Oo s e k x (([x,y].countP (·.TO):Nat):Int)) (fun pre z post h=>.inl ⟨?_,rfl⟩) ?_
 ·have hx:=Br h;have hm:=Bp h;have h2:pre.length<2:=hm;have hc:pre.countP (·.TO)≤pre.length:=List.countP_le_length;dsimp only [Oy,Yb,TM];rw [Ay hx,A3,Aj hx,OB,OB,AN,List.countP_append,List.countP_cons,List.countP_nil,Al Om,Al Om];cases z.TO<;>rfl
 ·dsimp only [Oy];rw [AB,A1]
def UP (s:SN) (e:Edge) (k:Int):Nat:=
 if HN s e.A&&HN s e.B then
  match s.DZ[e.A.toNat]?,s.DZ[e.B.toNat]? with
  | some da,some db=>match C8 da e.B,C8 db e.A with
    | some x,some y=>if decide (x.EP=y.EP)&&(decide (k=1)||decide (k=2)) then bn (has x k)+bn (has y k)+CC s.ML e k x.EP else 0
    | _,_=>0
  | _,_=>0
 else 0
theorem zc (s:SN) (e:Edge) (k:Int) (E:Kp s.DZ) (hM:s.ML.length≤900000):TJ s e k=some (UP s e k:Int):=by
 simp only [TJ,Z0v,OB];unfold UP;cases ha:HN s e.A with
 | false=>rfl
 | true=>
   cases hb:HN s e.B with
   | false=>rfl
   | true=>
     obtain ⟨da,a1,a2⟩:=o8 ha;obtain ⟨db,b1,b2⟩:=o8 hb;have la:=E.2 da (List.mem_iff_getElem?.2 ⟨_,a2⟩);have lb:=E.2 db (List.mem_iff_getElem?.2 ⟨_,b2⟩);simp only [Bool.not_true,A1,TK,a1,a2,b1,b2,OB,Yc,LB da e.B Om,LB db e.A Om,Bool.and_self,if_true,Yd];cases hx:C8 da e.B with
     | none=>rfl
     | some x=>
       cases hy:C8 db e.A with
       | none=>rfl
       | some y=>
         simp only [El,Bool.not_true,A1,Ot];by_cases he:x.EP=y.EP
         ·by_cases h1:k=1
          ·subst h1;have n2:bn x.FK+bn y.FK≤2:=by cases x.FK<;>cases y.FK<;>decide
           simp only [decide_true,A3,zR,Ou,zP s e 1 x _ n2 hM];simp [he,has]
          ·by_cases h2:k=2
           ·subst h2;have n2:bn x.TO+bn y.TO≤2:=by cases x.TO<;>cases y.TO<;>decide
            simp only [A1,show decide ((2:Int)=1)=false from rfl,decide_true,A3,zS,Oo,zQ s e 2 x _ n2 hM];simp [he,has]
           ·simp [he,h1,h2]
         ·simp [he]
def Jg (l:List DK):Prop:=l.length≤5000∧∀d∈l,d.DI.SD.length≤100000∧d.NE.length≤100000
def Ej (s:Bar):SN:=⟨s.DS.map (·.DI),s.ML⟩
theorem aq {s:Bar} (h:Jg s.DS):Kp (Ej s).DZ:=by refine ⟨by simpa [Ej] using h.1,fun d hd=>?_⟩;obtain ⟨e,he,rfl⟩:=List.mem_map.1 hd;exact (h.2 e he).1
theorem dv (s:Bar) (E:Jg s.DS) (hM:s.ML.length≤1000000):Ib s=some (Ej s):=by
 simp only [Ib,YS _ hM,OB];refine CK s.DS (Jp s s.ML) (fun pre=>((pre.length:Int),pre.map (·.DI))) _ (fun pre x post h=>?_) ?_
 ·have hx:=Br h;have hm:=Bp h;have h1:=E.1;have h2:=(E.2 x (Dt h)).1;dsimp only [Jp];rw [Ay hx,A3,Aj hx,OB,HG _ Om,OB,B0 _ _ Om (by simp;omega),OB,Al Om,AN];simp
 ·dsimp only [Jp];rw [AB,A1];rfl
def HO (s:Bar) (a:Int):Bool:=decide (0≤a)&&decide (a<s.DS.length)
theorem mi (s:Bar) (a:Int):MM s a=some (HO s a):=by simp only [MM,Qg,HO,B7];cases decide (0≤a)<;>rfl
theorem o7 {s:Bar} {a:Int}:HO s a=true↔0≤a∧a<s.DS.length:=by simp [HO]
theorem o6 {s:Bar} {a:Int} (h:HO s a=true):∃d,A4 s.DS a=some d∧s.DS[a.toNat]?=some d:=by rw [o7] at h;exact UE h.1 h.2
def M6 (s:Bar) (e:Edge) (k:Int):Nat:=
 if k=3∨k=4 then
  (if HO s e.A&&HO s e.B then
    match s.DS[e.A.toNat]?,s.DS[e.B.toNat]? with
    | some da,some db=>match C8 da.DI e.B,C8 db.DI e.A with
      | some x,some y=>if x.EP=y.EP then bn (Ku x k)+bn (Ku y k)+CC s.ML e k x.EP else 0
      | _,_=>0
    | _,_=>0
  else 0)
 else UP (Ej s) e k
theorem zL (s:Bar) (e:Edge) (k:Int) (E:Jg s.DS) (hM:s.ML.length≤900000):Q7 s e k=some (M6 s e k:Int):=by
 have j1:(k=3∨k=4)→Kw s e k false=some (M6 s e k:Int):=fun hk=>by
  unfold M6;rw [if_pos hk];dsimp only [Kw];rw [A1,mi,OB];cases ha:HO s e.A with
  | false=>rfl
  | true=>
    rw [Bool.not_true,A1,mi,OB];cases hb:HO s e.B with
    | false=>rfl
    | true=>
      obtain ⟨da,a1,a2⟩:=o6 ha;obtain ⟨db,b1,b2⟩:=o6 hb;have la:=(E.2 da (List.mem_iff_getElem?.2 ⟨_,a2⟩)).1;have lb:=(E.2 db (List.mem_iff_getElem?.2 ⟨_,b2⟩)).1;dsimp only [Q8,Vv];rw [Bool.not_true,A1,a1,OB,LB da.DI e.B Om,OB,b1,OB,LB db.DI e.A Om,OB,Bool.and_self,if_pos rfl,a2,b2];dsimp only;cases hx:C8 da.DI e.B with
      | none=>rfl
      | some x=>
        cases hy:C8 db.DI e.A with
        | none=>rfl
        | some y=>
          show Q9 s e k true x (true,y)=some ((if x.EP=y.EP then bn (Ku x k)+bn (Ku y k)+CC s.ML e k x.EP else 0:Nat):Int);dsimp only [Q9];rw [Bool.not_true,A1,A1];by_cases he:x.EP=y.EP
          ·rw [DT he,Bool.not_true,if_pos he];dsimp only [MF];rw [A1];have j7:∀n:Nat,n≤2→MJ s e k x (n:Int)=some ((n+CC s.ML e k x.EP:Nat):Int):=fun n hn=>by
            dsimp only [MJ];refine CK s.ML (Qc s e k x) (fun pre=>(((n+CC pre e k x.EP:Nat):Int),(pre.length:Int))) ((n+CC s.ML e k x.EP:Nat):Int) (fun pre m post h=>?_) ?_
            ·have hx:=Br h;have hm:=Bp h;have hc:=ae pre e k x.EP;dsimp only [Qc];rw [Ay hx,A3,Aj hx,OB,ag,AN];have step:∀z,Ia ((n+CC pre e k x.EP:Nat):Int) (pre.length:Int) z=some (.inl (((n+(CC pre e k x.EP+bn z):Nat):Int),((pre.length+1:Nat):Int))):=fun z=>by
              cases z with
              | true=>dsimp only [Ia,ME];rw [A3,Al Om,Al Om];rfl
              | false=>dsimp only [Ia,ME];rw [A1,Al Om];rfl
             unfold IG;simp only [step];cases decide (m.Msg.KI=k)<;>cases decide (m.Msg.EP=x.EP)<;>cases decide (min m.From m.To=min e.A e.B)<;>rfl
            ·dsimp only [Qc];rw [AB,A1];rfl
           have j6:∀p q:Bool,MH s e k x (p,q)=some ((bn p+bn q+CC s.ML e k x.EP:Nat):Int):=fun p q=>by
            have ef:(([p,q].countP id:Nat):Int)=((bn p+bn q:Nat):Int):=by cases p<;>cases q<;>rfl
            dsimp only [MH];have n2:bn p+bn q≤2:=by cases p<;>cases q<;>decide
            have hj:=j7 (bn p+bn q) n2;have:=Hj [p,q] (Qb s e k x p q) (fun pre=>(((pre.countP id:Nat):Int),(pre.length:Int))) (fun _ _=>MJ s e k x (([p,q].countP id:Nat):Int)) (fun pre z post h=>.inl ⟨by
             have hx:=Br h;have hm:=Bp h;have h2:pre.length<2:=hm;have hc:pre.countP id≤pre.length:=List.countP_le_length;dsimp only [Qb];rw [DT Om,A3,Aj hx,OB,AN,List.countP_append,List.countP_cons,List.countP_nil];cases z with
             | true=>dsimp only [MK];rw [A3,Al Om,Al Om];rfl
             | false=>dsimp only [MK];rw [A1,Al Om];rfl,rfl⟩) (by
             dsimp only [Qb];rw [show decide ((([p,q]:List Bool).length:Int)<2)=false from rfl,A1])
            rw [ef,hj] at this;exact this
           unfold Ku;by_cases k4:k=4
           ·rw [DT k4,A3,j6,if_pos k4,if_pos k4]
           ·rw [DN k4,A1,j6,if_neg k4,if_neg k4]
          ·rw [DN he,Bool.not_false,if_neg he];rfl
 simp only [Q7];by_cases k3:k=3
 ·rw [DT k3,Bool.not_true,A1];exact j1 (.inl k3)
 ·rw [DN k3,Bool.not_false,A3];by_cases k4:k=4
  ·rw [DT k4,Bool.not_true];exact j1 (.inr k4)
  ·rw [DN k4,Bool.not_false];dsimp only [Kw];rw [A3,dv s E Om,OB,zc (Ej s) e k (aq E) hM,OB];unfold M6;rw [if_neg Om]
theorem jq {σ τ β:Type} (n:Nat) (body:τ→Option (τ ⊕ β)) (st:Nat→σ→τ) (I:Nat→σ→Prop) (Q:β→Prop)
  (hb:∀k s,k<n→I k s→(∃s',body (st k s)=some (.inl (st (k+1) s'))∧I (k+1) s')∨∃r,body (st k s)=some (.inr r)∧Q r) (he:∀s,I n s→∃r,body (st n s)=some (.inr r)∧Q r):
  ∀s,I 0 s→∃r,loop body (st 0 s)=some r∧Q r:=by
 have Af:∀m k s,m+k=n→I k s→∃r,loop body (st k s)=some r∧Q r:=by
  intro m;induction m with
  | zero=>
    intro k s hk hs;have:k=n:=by omega
    subst this;obtain ⟨r,h1,h2⟩:=he s hs;exact ⟨r,by rw [B5,h1],h2⟩
  | succ m ih=>
    intro k s hk hs;rcases hb k s Om hs with ⟨s1,h1,h2⟩ | ⟨r,h1,h2⟩
    ·obtain ⟨r,h3,h4⟩:=ih (k+1) s1 Om h2;exact ⟨r,by rw [B5,h1];exact h3,h4⟩
    ·exact ⟨r,by rw [B5,h1],h2⟩
 exact fun s hs=>Af n 0 s rfl hs
theorem Z0c {e:Int} (h:cP e):Rq e=some true:=by
 unfold Rq;rcases h with ⟨h1,h2⟩ | rfl | rfl | rfl
 ·rw [DT h1,A3,DT h2];rfl
 ·rfl
 ·rfl
 ·rfl
theorem dM (g:Graph) (l:List narthexlaw19_Step):∃z,KV g l=some z∧(z=true→B3 g=true∧g.N≤6∧l.length≤80∧∀s∈l,s.Do.NE.length≤20):=by
 have fin:∀k:Nat,(∀(i:Nat) s,i<k→l[i]?=some s→s.Do.NE.length≤20)→(l.length≤k∨81≤k)→∃z,Rn g l ()=some z∧(z=true→B3 g=true∧g.N≤6∧l.length≤80∧∀s∈l,s.Do.NE.length≤20):=by
  intro k hk hl;have all:l.length≤80→∀s∈l,s.Do.NE.length≤20:=fun h8 s hs=>by obtain ⟨i,hi⟩:=List.mem_iff_getElem?.1 hs;have:=(List.getElem?_eq_some_iff.1 hi).1;exact hk i s Om hi
  dsimp only [Rn];rw [Z0j,OB,B7];cases hg:B3 g with
  | false=>exact ⟨false,rfl,fun e=>by simp at e⟩
  | true=>
    rw [A3];by_cases h6:g.N≤6
    ·rw [DT h6,A3];exact ⟨_,rfl,fun e=>by have e:=of_decide_eq_true e;exact ⟨rfl,h6,Om,all Om⟩⟩
    ·rw [DN h6];exact ⟨false,rfl,fun e=>by simp at e⟩
 unfold KV;refine jq (σ:=Unit) 81 (Rp g l) (fun k _=>(k:Int)) (fun k _=>∀(i:Nat) s,i<k→l[i]?=some s→s.Do.NE.length≤20) (fun z=>z=true→B3 g=true∧g.N≤6∧l.length≤80∧∀s∈l,s.Do.NE.length≤20) (fun k _ hk hI=>?_) (fun _ hI=>?_) () (fun i s hi=>Om)
 ·dsimp only [Rp];cases hx:l[k]? with
  | none=>right;have hle:=List.getElem?_eq_none_iff.1 hx;obtain ⟨z,hz,hq⟩:=fin k hI (.inl hle);refine ⟨z,?_,hq⟩;rw [B7,DN Om,A1];dsimp only [Gx];rw [A1,hz];rfl
  | some s=>
    rw [Ay hx,A3,DT Om];dsimp only [Gx];rw [A3,Aj hx,OB,B7];by_cases hn:(20:Int)<s.Do.NE.length
    ·right;exact ⟨false,by rw [DT hn];rfl,fun e=>by simp at e⟩
    ·left;refine ⟨(),by rw [DN hn,A1,Al Om],fun i q hi hq=>?_⟩;by_cases e:i=k
     ·subst e;rw [hx] at hq;cases hq;omega
     ·exact hI i q Om hq
 ·obtain ⟨z,hz,hq⟩:=fin 81 hI (.inr Om);refine ⟨z,?_,hq⟩;dsimp only [Rp];have:∀b,Gx g l ((81:Nat):Int) false=some (.inr z)∧A0 b (Gx g l ((81:Nat):Int) (decide (((81:Nat):Int)<81))) (Gx g l ((81:Nat):Int) false)=some (.inr z):=fun b=>by
   have h1:Gx g l ((81:Nat):Int) false=some (.inr z):=by dsimp only [Gx];rw [A1,hz];rfl
   refine ⟨h1,?_⟩;rw [DN Om];cases b
   ·rw [A1,h1]
   ·rw [A3,h1]
  exact (this _).2
theorem dK {g:Graph} (hg:B3 g=true) (Y:g.N≤6) {l:List narthexlaw19_Step} (hl:l.length≤80) (hn:∀s∈l,s.Do.NE.length≤20) (J:HL→Prop) (h0:J (DQ g))
  (E:∀(h:HL) (k:Nat) (n:NO) (a:Do),HI h→J h→h.NS[k]?=some n→(AW n a).1=0→J (Pu h k n a))
  (U:∀(h:HL) (k i:Nat) (n:NO) (m:ML) (a:Int),HI h→J h→h.NS[k]?=some n→(h.ML.findIdx? fun m=>decide (m.From=a)&&decide (m.To=(k:Int)))=some i→h.ML[i]?=some m→J (PO h k i n a m.Msg))
  (is:HL×List EV→Option Bool) (hi:∀h V,HI h→J h→h.ML.length≤600000→(h.NS.length:Int)=g.N→is (h,V)=some true):
  ∃r,KU g l is=some r∧r.2=true∧HI r.1∧J r.1∧r.1.ML.length≤480000∧(r.1.NS.length:Int)=g.N:=by
 have h8:=(aM hg Om).1;have h6:((DQ g).NS.length:Int)=g.N:=by have:=UF hg;simp only [DQ,List.length_map];exact this
 have ho:R8 g=some g:=by have:=(Df hg).2.2.1;unfold R8;rw [B0 _ _ Om (by simp;omega),OB,List.nil_append]
 have hw:(DQ g).ML.length=0:=rfl;unfold KU;rw [ho,OB,ms g Om,OB,if_pos hg,DT rfl,Bool.not_true,A1,hi _ [] h8 h0 Om h6,OB,Bool.not_true];dsimp only [Rl];rw [A1];refine jq l.length (Rm l is) (fun k h=>((k:Int),h)) (fun k h=>HI h∧J h∧h.ML.length≤6000*k∧(h.NS.length:Int)=g.N) (fun r=>r.2=true∧HI r.1∧J r.1∧r.1.ML.length≤480000∧(r.1.NS.length:Int)=g.N) (fun k h hk hI=>?_) (fun h hI=>?_) (DQ g) ⟨h8,h0,Om,h6⟩
 ·left;obtain ⟨i1,i2,i3,i4⟩:=hI;obtain ⟨s,hx⟩:∃s,l[k]?=some s:=⟨_,List.getElem?_eq_getElem hk⟩
  have hsm:=hn s (List.mem_of_getElem? hx);have hA:=i1.ok.len;obtain ⟨x,V,e,hr,h9⟩:=Z0t (s:=s) i1 (fun x _=>J x) Om Om (fun k n h1 _ h2=>E h k n s.Do i1 i2 h1 h2) (fun k i n m h1 h2 h3=>U h k i n m s.A i1 i2 h1 h2 h3);dsimp only [Rm];rw [Ay hx,A3,Aj hx,OB,Z09 h i1.ok.few Om Om,OB,hr,OB];dsimp only [WE];rcases h9 with ⟨rfl,x1,x2,x3,x4⟩ | ⟨he,hd⟩
  ·refine ⟨x,?_,x1,x2,Om,Om⟩;rw [DT rfl,Bool.not_true,A1];dsimp only [Nn];rw [A1,DT rfl,A3,hi x V x1 x2 Om Om,OB,Bool.not_true,A1];dsimp only [Np];rw [Al Om]
  ·refine ⟨h,?_,i1,i2,Om,i4⟩;rw [DN he,Bool.not_false,A3,Z0c hd,OB,Bool.not_true];dsimp only [Nn];rw [A1,DN he,A1];dsimp only [Np];rw [Al Om]
 ·obtain ⟨i1,i2,i3,i4⟩:=hI;dsimp only [Rm];rw [AB,A1];exact ⟨(h,true),rfl,rfl,i1,i2,by show h.ML.length≤480000;omega,i4⟩
def Ww (x1:HL):Unit→Option Bool
| ()=>
 (Ii x1).bind fun x100=>
 some (decide (x100=0))
def Wx (x48:Int):Unit→Option (Int ⊕ Bool)
| ()=>some (.inl (wr (x48+1)))
def Wy (x70:Int):Unit→Option (Int ⊕ (Int ⊕ Bool))
| ()=>some (.inl (wr (x70+1)))
def Ij (x3:Bar) (x48:Int) (x70 x78:Int):Bool→Option (Int ⊕ (Int ⊕ (Int ⊕ Bool)))
| x79=>
 A0 x79 (
 (Q7 x3 (Edge.mk x48 x70) x78).bind fun x80=>
 A0 (!decide (x80=1)) (
 Option.map Sum.inr (Option.map Sum.inr (Option.map Sum.inr (some false)))) (
 some (.inl (wr (x78+1))))) (
 Option.map Sum.inr ((Wy x70) ()))
def KQ (x3:Bar) (x48:Int) (x70:Int) (x72:(SX×Bool)) (x74:(SX×Bool)):Int→Option (Int ⊕ (Int ⊕ (Int ⊕ Bool)))
| x78=>
 A0 (decide (x78≤4)) (
 A0 x72.2 (
 A0 x74.2 (
 (Ij x3 x48 x70 x78) (decide (x72.1.EP=x74.1.EP))) (
 (Ij x3 x48 x70 x78) false)) (
 (Ij x3 x48 x70 x78) false)) (
 (Ij x3 x48 x70 x78) false)
def Rf (x1:HL) (x3:Bar) (x48:Int):Int→Option (Int ⊕ (Int ⊕ Bool))
| x70=>
 A0 (decide (x70<(ln NO.row x1.NS))) (
 (A4 x1.NS x48).bind fun x71=>
 (JE x71.DK.DI x70).bind fun x72=>
 (A4 x1.NS x70).bind fun x73=>
 (JE x73.DK.DI x48).bind fun x74=>
 loop (KQ x3 x48 x70 x72 x74) 1) (
 Option.map Sum.inr ((Wx x48) ()))
def Re (x1:HL) (x3:Bar):Int→Option (Int ⊕ Bool)
| x48=>
 A0 (decide (x48<(ln NO.row x1.NS))) (
 loop (Rf x1 x3 x48) (wr (x48+1))) (
 Option.map Sum.inr ((Ww x1) ()))
def Nj (x1:HL) (_x2:List EV):Option Bool:=
 (Jy x1).bind fun x3=>
 loop (Re x1 x3) 0
theorem vf {x1 x2 r} (h:Nj x1 x2=some r):FPx 20 [.agg (HL.row x1),Cz x2] (.bv r):=by
 have ok:=oJ 20 Tryz.f20 [.t 4] 2 80;refine FP ok fun w0 H0=>?_;rw [Nj] at h;refine Vg 8 ?_;refine VB h aV fun x3 _ h=>?_;refine Vg 8 ?_;refine Vl [2,1] (fun _=>([],[some ⟨31,HL.row x1⟩],[])) (Ww x1) r ?_ fun J1=>?_
 ·rintro ⟨⟩ h;rw [Ww] at h;refine Vg 3 ?_;refine VB h Va fun _ _ h=>?_;exact W
 ·refine Vg 1 ?_;refine Mk h [2,1,2,1] (fun x48=>[(6,.iv x48)]) ?_;rintro n1 x48 y1 h hin1 hout1;rw [Re] at h;refine Vg 9 ?_;refine MI h (fun h=>?_) fun h=>W;refine Vg 9 ?_;refine Vk [2,1,2,2] (fun _=>[]) (Wx x48) y1 ?_ fun J2=>?_
  ·rintro ⟨⟩ h;rw [Wx] at h;exact W
  ·refine Vg 1 ?_;refine Mk h [2,1,2,2] (fun x70=>[(7,.iv x70)]) ?_;rintro n2 x70 y2 h hin2 hout2;rw [Rf] at h;refine Vg 9 ?_;refine MI h (fun h=>?_) fun h=>W;refine Vg 8 ?_;have ⟨x71,ex71,h⟩:=Bs h;refine AZ NO.row ex71 trivial rfl rfl rfl (Vg 4 ?_);refine VB h Vc fun _ _ h=>?_;refine Vg 12 ?_;have ⟨x73,ex73,h⟩:=Bs h;refine AZ NO.row ex73 trivial rfl rfl rfl (Vg 4 ?_);refine VB h Vc fun _ _ h=>?_;refine Vg 11 ?_;refine Vl [2,1,2,3] (fun _=>([],[some ⟨31,HL.row x1⟩,some ⟨71,Bar.row x3⟩],[])) (Wy x70) y2 ?_ fun J3=>?_
   ·rintro ⟨⟩ h;rw [Wy] at h;exact W
   ·refine Vg 1 ?_;refine Mk h [2,1,2,7] (fun x78=>[(12,.iv x78)]) ?_;rintro n3 x78 y3 h hin3 hout3;rw [KQ] at h;refine Vg 6 ?_;refine Vk [2,1,2,8] (fun x79=>[(69,.bv x79)]) (Ij x3 x48 x70 x78) y3 ?_ fun J4=>?_
    ·intro x79 h;rw [Ij] at h;refine MI h (fun h=>?_) fun h=>W;refine Vg 10 ?_;refine VB h uB fun _ _ h=>?_;refine Vg 2 ?_;refine MI h (fun h=>W) fun h=>?_;refine Vg 7 ?_;exact Da h hin3
    ·exact W
def KR (x1:Graph) (x2:List narthexlaw19_Step):Bool→Option Bool
| x5=>
 A0 x5 (
 (Hq).bind fun x6=>
 some x6) (
 (KU x1 x2 ((fun z=>Nj z.1 z.2))).bind fun x7=>
 some x7.2)
def Wv (x1:Graph) (x2:List narthexlaw19_Step):Option Bool:=
 (Hq).bind fun x3=>
 A0 (!x3) (
 (KR x1 x2) true) (
 (KV x1 x2).bind fun x4=>
 (KR x1 x2) (!x4))
theorem ve {x1 x2 r} (h:Wv x1 x2=some r):FPx 5 [.agg (Graph.row x1),Pq x2] (.bv r):=by
 have ok:=oJ 5 Tryz.f5 [.t 4] 2 21;refine FP ok fun w0 H0=>?_;rw [Wv] at h;refine Vg 8 ?_;refine VB h Mn fun _ _ h=>?_;refine Vg 2 ?_;refine Vk [1,2] (fun x5=>[(14,.bv x5)]) (KR x1 x2) r ?_ fun J1=>?_
 ·intro x5 h;rw [KR] at h;refine MI h (fun h=>?_) fun h=>?_
  ·refine Vg 2 ?_;refine VB h Mn fun _ _ h=>?_;exact W
  ·refine Vg 5 ?_;refine VB h (fun e=>aY e ⟨by kernel_rfl,rfl,fun z r hz=>vf hz⟩) fun _ _ h=>?_;exact W
 ·refine MC 9 h (fun h=>W) fun h=>?_;refine Vg 2 ?_;refine VB h aZ fun _ _ h=>?_;exact W
theorem g6 {i k:Int} (h6:i<k) (q e:Int):∀M:List ML,CC M ⟨i,k⟩ q e=Bq q e (B2 M i k)+Bq q e (B2 M k i)
 | []=>rfl
 | m::M=>by
   have ih:=g6 h6 q e M;have e1:∀c d:Int,B2 (m::M) c d=(if m.From=c∧m.To=d then [m.Msg] else [])++B2 M c d:=fun c d=>by
    unfold B2;rw [List.filter_cons];by_cases e:m.From=c∧m.To=d
    ·simp [e]
    ·rw [if_neg (by simpa using e),if_neg e];rfl
   have e2:CC (m::M) ⟨i,k⟩ q e=(if IG ⟨i,k⟩ q e m=true then 1 else 0)+CC M ⟨i,k⟩ q e:=by unfold CC;rw [List.countP_cons];omega
   rw [e1,e1,Ha,Ha,e2,ih];have e3:∀b:Prop,[Decidable b]→Bq q e (if b then [m.Msg] else [])=if b∧m.Msg.KI=q∧m.Msg.EP=e then 1 else 0:=fun b _=>by
    by_cases hb:b
    ·rw [if_pos hb,Kk,a8];simp [hb]
    ·rw [if_neg hb,a8];simp [hb]
   rw [e3,e3];have e4:(IG ⟨i,k⟩ q e m=true)↔((m.From=i∧m.To=k)∧m.Msg.KI=q∧m.Msg.EP=e)∨((m.From=k∧m.To=i)∧m.Msg.KI=q∧m.Msg.EP=e):=by
    unfold IG;simp only [Bool.and_eq_true,decide_eq_true_eq];constructor
    ·rintro ⟨h1,h2,h3,h4⟩;have:(m.From=i∧m.To=k)∨(m.From=k∧m.To=i):=by omega
     rcases this with h | h
     ·exact .inl ⟨h,h1,h2⟩
     ·exact .inr ⟨h,h1,h2⟩
    ·rintro (⟨h,h1,h2⟩ | ⟨h,h1,h2⟩)
     ·exact ⟨h1,h2,Om,Om⟩
     ·exact ⟨h1,h2,Om,Om⟩
   by_cases c1:(m.From=i∧m.To=k)∧m.Msg.KI=q∧m.Msg.EP=e
   ·have c2:¬((m.From=k∧m.To=i)∧m.Msg.KI=q∧m.Msg.EP=e):=by omega
    rw [if_pos (e4.2 (.inl c1)),if_pos c1,if_neg c2];omega
   ·by_cases c2:(m.From=k∧m.To=i)∧m.Msg.KI=q∧m.Msg.EP=e
    ·rw [if_pos (e4.2 (.inr c2)),if_neg c1,if_pos c2];omega
    ·rw [if_neg (fun h=>(e4.1 h).elim c1 c2),if_neg c1,if_neg c2];omega
def Dj (h:HL):Bar:=⟨h.NS.map (·.DK),h.ML⟩
theorem qD {h:HL} (hk:HallOK h):Jg (Dj h).DS:=by have:=hk.len;refine ⟨by simp [Dj];omega,fun d hd=>?_⟩;obtain ⟨n,hn,rfl⟩:=List.mem_map.1 hd;have:=hk.few n hn;exact ⟨by have:=this.sides;omega,by have:=this.need;omega⟩
theorem uu {h:HL} (hh:HI h) {i k:Nat} {a b:NO} (h9:i<k) (ha:h.NS[i]?=some a) (hb:h.NS[k]?=some b) {x y:SX} (hx:C8 a.DK.DI k=some x) (hy:C8 b.DK.DI i=some y) {q:Int} (hq:1≤q∧q≤4):
  x.EP=y.EP∧M6 (Dj h) ⟨i,k⟩ q=1:=by
 obtain ⟨he,h1⟩:=(hh.pi i k a b h9 ha hb).one hx hy;refine ⟨he,?_⟩;have h1:=h1 q (show E2 q from by unfold E2;omega);have h8:=g6 (show (i:Int)<k by omega) q x.EP h.ML;have li:=(List.getElem?_eq_some_iff.1 ha).1;have lk:=(List.getElem?_eq_some_iff.1 hb).1;have ga:(Dj h).DS[i]?=some a.DK:=by simp [Dj,ha]
 have gb:(Dj h).DS[k]?=some b.DK:=by simp [Dj,hb]
 have ln:(Dj h).DS.length=h.NS.length:=by simp [Dj]
 have ti:∀j:Nat,j<h.NS.length→HO (Dj h) j=true:=fun j hj=>o7.2 ⟨Om,Om⟩;unfold M6;by_cases h6:q=3∨q=4
 ·rw [if_pos h6,ti i li,ti k lk,Bool.and_self,if_pos rfl];dsimp only;rw [Int.toNat_natCast,Int.toNat_natCast,ga,gb];dsimp only;rw [hx,hy];dsimp only;rw [if_pos he,show (Dj h).ML=h.ML from rfl,h8];have l1:∀z:SX,Ku z q=Bc q z:=fun z=>by unfold Ku Bc;rcases h6 with rfl | rfl<;>rfl
  rw [l1,l1];omega
 ·rw [if_neg h6];unfold UP;have gs:∀ {j:Nat} {d:DK},(Dj h).DS[j]?=some d→(Ej (Dj h)).DZ[j]?=some d.DI:=fun e=>by simp [Ej,e]
  have lns:(Ej (Dj h)).DZ.length=h.NS.length:=by simp [Ej,Dj]
  have tb:∀j:Nat,j<h.NS.length→HN (Ej (Dj h)) j=true:=fun j hj=>by unfold HN;rw [DT Om,DT Om];rfl
  rw [tb i li,tb k lk,Bool.and_self,if_pos rfl];dsimp only;rw [Int.toNat_natCast,Int.toNat_natCast,gs ga,gs gb];dsimp only;rw [hx,hy];dsimp only;have hc:(decide (x.EP=y.EP)&&(decide (q=1)||decide (q=2)))=true:=by rw [DT he,Bool.true_and,Bool.or_eq_true,decide_eq_true_eq,decide_eq_true_eq];omega
  rw [hc,if_pos rfl,show (Ej (Dj h)).ML=h.ML from rfl,h8];have l1:∀z:SX,has z q=Bc q z:=fun z=>by unfold has Bc;rcases (show q=1∨q=2 by omega) with rfl | rfl<;>rfl
  rw [l1,l1];omega
theorem Z07 {h:HL} (hh:HI h) (hM:h.ML.length≤600000) (V:List EV):Nj h V=some true:=by
 have hk:=hh.ok;have h6:=hk.len;unfold Nj;rw [dC h hk.few Om Om,OB];refine Gv h.NS.length (Re h (Dj h)) (fun k=>(k:Int)) true (fun i hi=>?_) ?_
 ·obtain ⟨a,ha⟩:∃a,h.NS[i]?=some a:=⟨_,List.getElem?_eq_getElem hi⟩
  have fa:=hk.few a (List.mem_of_getElem? ha);dsimp only [Re];rw [Ay ha,A3,Al Om];refine Gv (h.NS.length-(i+1)) (Rf h (Dj h) i) (fun j=>((i+1+j:Nat):Int)) (.inl ((i+1:Nat):Int)) (fun j hj=>?_) ?_
  ·obtain ⟨b,hb⟩:∃b,h.NS[i+1+j]?=some b:=⟨_,List.getElem?_eq_getElem Om⟩
   have fb:=hk.few b (List.mem_of_getElem? hb);dsimp only [Rf];rw [Ay hb,A3,Aj ha,OB,YY _ _ (by have:=fa.sides;omega),OB,Aj hb,OB,YY _ _ (by have:=fb.sides;omega),OB];have fin:∀q:Int,Ij (Dj h) i ((i+1+j:Nat):Int) q false=some (.inr (.inl ((i+1+(j+1):Nat):Int))):=fun q=>by dsimp only [Ij,Wy];rw [A1,Al Om];rfl
   cases hx:C8 a.DK.DI ((i+1+j:Nat):Int) with
   | none=>rw [B5];dsimp only [KQ,El];rw [DT Om,A3,A1,fin]
   | some x=>
     cases hy:C8 b.DK.DI (i:Int) with
     | none=>rw [B5];dsimp only [KQ,El];rw [DT Om,A3,A3,A1,fin]
     | some y=>
       refine Gv 4 (KQ (Dj h) i ((i+1+j:Nat):Int) (x,true) (y,true)) (fun m=>((m+1:Nat):Int)) (.inl ((i+1+(j+1):Nat):Int)) (fun m hm=>?_) ?_
       ·obtain ⟨he,hc⟩:=uu hh Om ha hb hx hy (q:=((m+1:Nat):Int)) Om;dsimp only [KQ];rw [DT Om,A3,A3,A3,DT he];dsimp only [Ij];rw [A3,zL _ _ _ (qD hk) (show h.ML.length≤900000 by omega),OB,hc,DT (by rfl),Bool.not_true,A1,Al Om]
       ·dsimp only [KQ];rw [DN Om,A1,fin]
  ·dsimp only [Rf,Wx];rw [show i+1+(h.NS.length-(i+1))=h.NS.length by omega,AB,A1,Al Om];rfl
 ·dsimp only [Re,Ww];rw [AB,A1,P9 hk];rfl
theorem yi (g:Graph) (l:List narthexlaw19_Step):Wv g l=some true:=by
 have yes:KR g l true=some true:=by dsimp only [KR];rw [A3,P8];rfl
 obtain ⟨z,hz,hq⟩:=dM g l;unfold Wv;rw [P8,OB,Bool.not_true,A1,hz,OB];cases z with
 | false=>exact yes
 | true=>obtain ⟨hg,hN,hl,hn⟩:=hq rfl;dsimp only [KR];rw [Bool.not_true,A1];obtain ⟨r,h1,h2,_⟩:=dK hg hN hl hn (fun _=>True) trivial (fun _ _ _ _ _ _ _ _=>trivial) (fun _ _ _ _ _ _ _ _ _ _ _=>trivial) (fun z=>Nj z.1 z.2) (fun h V hh _ hM _=>Z07 hh hM V);rw [h1,OB,h2]
end
end NX
end Go.Proofs.YtjemlejoladlcaaGreat
namespace Go.Proofs.YtjemlejoladlcaaGreat
namespace NX
open Go Go.ChangeShapes Go.WideShapes Go.ChangeAt Go.RowKit
theorem xU:Cy Tryz.prog 76 Edge.row:=by
 intro H enc w base sp h6 fuel cs x h;obtain ⟨xs,n,_,_,hl,h8,hf⟩:=DataW.trod_struct Tryz.underlying76 h;rw [show Tryz.prog.cellsOf 76=2 from by kernel_rfl] at hl;have c0:DataW.trod enc Tryz.prog w base sp h6 n 3 ((cs.drop 0).take (Tryz.prog.cellsOf 3))=xs[0]?:=hf 0 _ rfl;rw [show Tryz.prog.cellsOf 3=1 from by kernel_rfl] at c0;have h9:0<xs.length:=by rw [h8];decide
 obtain ⟨y0,hw⟩:∃y,xs[0]?=some y:=⟨_,List.getElem?_eq_getElem h9⟩
 obtain ⟨v0,k0⟩:=(Ck Tryz.underlying3) enc w _ _ _ _ _ _ (c0.trans hw);have c1:DataW.trod enc Tryz.prog w base sp h6 n 3 ((cs.drop 1).take (Tryz.prog.cellsOf 3))=xs[1]?:=hf 1 _ rfl;rw [show Tryz.prog.cellsOf 3=1 from by kernel_rfl] at c1;have hd:1<xs.length:=by rw [h8];decide
 obtain ⟨y1,hy1⟩:∃y,xs[1]?=some y:=⟨_,List.getElem?_eq_getElem hd⟩
 obtain ⟨v1,k1⟩:=(Ck Tryz.underlying3) enc w _ _ _ _ _ _ (c1.trans hy1);have e:cs=(cs.drop 0).take 1++(cs.drop 1).take 1:=by
  match cs,hl with
  | [a0,a1],_=>rfl
 rw [e];exact ⟨⟨v0,v1⟩,(BH k0 k1)⟩
theorem xN:Cy Tryz.prog 22 (Ci 2 Edge.row):=IM (n:=2) (row:=Edge.row) Tryz.underlying22 (by kernel_rfl) (by decide) (fun _=>⟨rfl,rfl,rfl⟩) xU
theorem xS:Cy Tryz.prog 24 Graph.row:=by
 intro H enc w base sp h6 fuel cs x h;obtain ⟨xs,n,_,_,hl,h8,hf⟩:=DataW.trod_struct Tryz.underlying24 h;rw [show Tryz.prog.cellsOf 24=2 from by kernel_rfl] at hl;have c0:DataW.trod enc Tryz.prog w base sp h6 n 3 ((cs.drop 0).take (Tryz.prog.cellsOf 3))=xs[0]?:=hf 0 _ rfl;rw [show Tryz.prog.cellsOf 3=1 from by kernel_rfl] at c0;have h9:0<xs.length:=by rw [h8];decide
 obtain ⟨y0,hw⟩:∃y,xs[0]?=some y:=⟨_,List.getElem?_eq_getElem h9⟩
 obtain ⟨v0,k0⟩:=(Ck Tryz.underlying3) enc w _ _ _ _ _ _ (c0.trans hw);have c1:DataW.trod enc Tryz.prog w base sp h6 n 22 ((cs.drop 1).take (Tryz.prog.cellsOf 22))=xs[1]?:=hf 1 _ rfl;rw [show Tryz.prog.cellsOf 22=1 from by kernel_rfl] at c1;have hd:1<xs.length:=by rw [h8];decide
 obtain ⟨y1,hy1⟩:∃y,xs[1]?=some y:=⟨_,List.getElem?_eq_getElem hd⟩
 obtain ⟨v1,k1⟩:=xN enc w _ _ _ _ _ _ (c1.trans hy1);have e:cs=(cs.drop 0).take 1++(cs.drop 1).take 1:=by
  match cs,hl with
  | [a0,a1],_=>rfl
 rw [e];exact ⟨⟨v0,v1⟩,(BH k0 k1)⟩
theorem xQ:Cy Tryz.prog 40 (Ci 1 Ad):=IM (n:=1) (row:=Ad) Tryz.underlying40 (by kernel_rfl) (by decide) (fun _=>⟨rfl,rfl,rfl⟩) (Ck Tryz.underlying3)
theorem xT:Cy Tryz.prog 62 Do.row:=by
 intro H enc w base sp h6 fuel cs x h;obtain ⟨xs,n,_,_,hl,h8,hf⟩:=DataW.trod_struct Tryz.underlying62 h;rw [show Tryz.prog.cellsOf 62=5 from by kernel_rfl] at hl;have c0:DataW.trod enc Tryz.prog w base sp h6 n 60 ((cs.drop 0).take (Tryz.prog.cellsOf 60))=xs[0]?:=hf 0 _ rfl;rw [show Tryz.prog.cellsOf 60=1 from by kernel_rfl] at c0;have h9:0<xs.length:=by rw [h8];decide
 obtain ⟨y0,hC⟩:∃y,xs[0]?=some y:=⟨_,List.getElem?_eq_getElem h9⟩
 obtain ⟨v0,k0⟩:=(Ck Tryz.underlying60) enc w _ _ _ _ _ _ (c0.trans hC);have c1:DataW.trod enc Tryz.prog w base sp h6 n 3 ((cs.drop 1).take (Tryz.prog.cellsOf 3))=xs[1]?:=hf 1 _ rfl;rw [show Tryz.prog.cellsOf 3=1 from by kernel_rfl] at c1;have hd:1<xs.length:=by rw [h8];decide
 obtain ⟨y1,hy1⟩:∃y,xs[1]?=some y:=⟨_,List.getElem?_eq_getElem hd⟩
 obtain ⟨v1,k1⟩:=(Ck Tryz.underlying3) enc w _ _ _ _ _ _ (c1.trans hy1);have c2:DataW.trod enc Tryz.prog w base sp h6 n 3 ((cs.drop 2).take (Tryz.prog.cellsOf 3))=xs[2]?:=hf 2 _ rfl;rw [show Tryz.prog.cellsOf 3=1 from by kernel_rfl] at c2;have hw:2<xs.length:=by rw [h8];decide
 obtain ⟨y2,hD⟩:∃y,xs[2]?=some y:=⟨_,List.getElem?_eq_getElem hw⟩
 obtain ⟨v2,k2⟩:=(Ck Tryz.underlying3) enc w _ _ _ _ _ _ (c2.trans hD);have c3:DataW.trod enc Tryz.prog w base sp h6 n 3 ((cs.drop 3).take (Tryz.prog.cellsOf 3))=xs[3]?:=hf 3 _ rfl;rw [show Tryz.prog.cellsOf 3=1 from by kernel_rfl] at c3;have hA:3<xs.length:=by rw [h8];decide
 obtain ⟨y3,hE⟩:∃y,xs[3]?=some y:=⟨_,List.getElem?_eq_getElem hA⟩
 obtain ⟨v3,k3⟩:=(Ck Tryz.underlying3) enc w _ _ _ _ _ _ (c3.trans hE);have c4:DataW.trod enc Tryz.prog w base sp h6 n 40 ((cs.drop 4).take (Tryz.prog.cellsOf 40))=xs[4]?:=hf 4 _ rfl;rw [show Tryz.prog.cellsOf 40=1 from by kernel_rfl] at c4;have hB:4<xs.length:=by rw [h8];decide
 obtain ⟨y4,hG⟩:∃y,xs[4]?=some y:=⟨_,List.getElem?_eq_getElem hB⟩
 obtain ⟨v4,k4⟩:=xQ enc w _ _ _ _ _ _ (c4.trans hG);have e:cs=(cs.drop 0).take 1++(cs.drop 1).take 1++(cs.drop 2).take 1++(cs.drop 3).take 1++(cs.drop 4).take 1:=by
  match cs,hl with
  | [a0,a1,a2,a3,a4],_=>rfl
 rw [e];exact ⟨⟨v0,v1,v2,v3,v4⟩,(BH (BH (BH (BH k0 k1) k2) k3) k4)⟩
theorem xR:Cy Tryz.prog 106 narthexlaw19_Step.row:=by
 intro H enc w base sp h6 fuel cs x h;obtain ⟨xs,n,_,_,hl,h8,hf⟩:=DataW.trod_struct Tryz.underlying106 h;rw [show Tryz.prog.cellsOf 106=8 from by kernel_rfl] at hl;have c0:DataW.trod enc Tryz.prog w base sp h6 n 4 ((cs.drop 0).take (Tryz.prog.cellsOf 4))=xs[0]?:=hf 0 _ rfl;rw [show Tryz.prog.cellsOf 4=1 from by kernel_rfl] at c0;have h9:0<xs.length:=by rw [h8];decide
 obtain ⟨y0,hB⟩:∃y,xs[0]?=some y:=⟨_,List.getElem?_eq_getElem h9⟩
 obtain ⟨v0,k0⟩:=(d9 Tryz.underlying4) enc w _ _ _ _ _ _ (c0.trans hB);have c1:DataW.trod enc Tryz.prog w base sp h6 n 3 ((cs.drop 1).take (Tryz.prog.cellsOf 3))=xs[1]?:=hf 1 _ rfl;rw [show Tryz.prog.cellsOf 3=1 from by kernel_rfl] at c1;have hd:1<xs.length:=by rw [h8];decide
 obtain ⟨y1,hy1⟩:∃y,xs[1]?=some y:=⟨_,List.getElem?_eq_getElem hd⟩
 obtain ⟨v1,k1⟩:=(Ck Tryz.underlying3) enc w _ _ _ _ _ _ (c1.trans hy1);have c2:DataW.trod enc Tryz.prog w base sp h6 n 3 ((cs.drop 2).take (Tryz.prog.cellsOf 3))=xs[2]?:=hf 2 _ rfl;rw [show Tryz.prog.cellsOf 3=1 from by kernel_rfl] at c2;have hw:2<xs.length:=by rw [h8];decide
 obtain ⟨y2,hC⟩:∃y,xs[2]?=some y:=⟨_,List.getElem?_eq_getElem hw⟩
 obtain ⟨v2,k2⟩:=(Ck Tryz.underlying3) enc w _ _ _ _ _ _ (c2.trans hC);have c3:DataW.trod enc Tryz.prog w base sp h6 n 62 ((cs.drop 3).take (Tryz.prog.cellsOf 62))=xs[3]?:=hf 3 _ rfl;rw [show Tryz.prog.cellsOf 62=5 from by kernel_rfl] at c3;have hA:3<xs.length:=by rw [h8];decide
 obtain ⟨y3,hD⟩:∃y,xs[3]?=some y:=⟨_,List.getElem?_eq_getElem hA⟩
 obtain ⟨v3,k3⟩:=xT enc w _ _ _ _ _ _ (c3.trans hD);have e:cs=(cs.drop 0).take 1++(cs.drop 1).take 1++(cs.drop 2).take 1++(cs.drop 3).take 5:=by
  match cs,hl with
  | [a0,a1,a2,a3,a4,a5,a6,a7],_=>rfl
 rw [e];exact ⟨⟨v0,v1,v2,v3⟩,(BH (BH (BH k0 k1) k2) k3)⟩
theorem xP:Cy Tryz.prog 25 (Ci 8 narthexlaw19_Step.row):=IM (n:=8) (row:=narthexlaw19_Step.row) Tryz.underlying25 (by kernel_rfl) (by decide) (fun _=>⟨rfl,rfl,rfl⟩) xR
theorem wn:laidOutB Tryz.prog=true:=by kernel_rfl
theorem yd:ownKnob Tryz.prog.godebug=none:=by kernel_rfl
theorem re (H:Type) (enc:TypeId×Value→H) (W:World) (J:Nat) (args:Array Value) (U Z:List (DataW H)) (E:List MemPlace)
  (h6:∀(j:Nat) t v,Tryz.f5.params[j]?=some t→args[j]?=some v→Value.okWide Tryz.prog W .any J t v)
  (Y:DataW.Whole enc Tryz.prog Tryz.f5.params.toList Rows.hallOneSpec.vars false W args.toList U Z E):
  Calls Tryz.prog 5 args W fun e W'=>∃v,e = .returned v∧Rows.hallOneSpec.post enc Tryz.prog Tryz.f5 false true false false W args v W':=by
 have h8:=Y;obtain ⟨p,q,h9,hV,rfl,hC,hD⟩:=Y;have hA:DataW.TrodAll enc Tryz.prog W 0 (fun _=>true) true Tryz.f5.params.toList args.toList U p:=h9;rw [Tryz.params5] at hA h6;obtain ⟨v0,vs0,d0,ds0,p0,q0,hd,rfl,rfl,h0,r0⟩:=trodAll_cons hA;obtain ⟨v1,vs1,d1,ds1,p1,q1,hw,rfl,rfl,h1,r1⟩:=trodAll_cons r0;obtain ⟨hz,rfl,rfl⟩:=trodAll_nil r1;obtain rfl:args = #[v0,v1]:=by cases args;simp_all
 obtain ⟨x1,k0⟩:=ZQ xS Tryz.underlying24 (h6 0 24 v0 rfl rfl) h0;obtain ⟨x2,k1⟩:=ZR xP Tryz.underlying25 (h6 1 25 v1 rfl rfl) h1;refine (ve (yi x1 x2) (fun k=>W.heap[k]?) W [v0,v1] (fun _ _ h=>h) (fun _ hs=>absurd hs List.not_mem_nil) ⟨v0,_,rfl,k0,⟨v1,_,rfl,k1,rfl⟩⟩).mono ?_;rintro e W' ⟨v,H',rfl,hB,_,_,hv⟩;have hv:v = .bool true:=hv;subst hv;exact ⟨_,rfl,bp wn (by kernel_rfl) rfl (rfl:Tryz.f5.resultTypes = #[4]) Tryz.underlying4 (fun _=>rfl) h8 hB⟩
theorem wT (os:Os) (E:os.Started) (H:Type) (enc:TypeId×Value→H):
  ReturnsInHanded {} Tryz.checked os 5 .any (Rows.hallOneSpec.pre6 enc Tryz.prog Tryz.f5 Rows.hallOneRow.domain false) (Rows.hallOneSpec.post enc Tryz.prog Tryz.f5 false true false false):=by
 refine returnsInHanded_of_change (C:=Tryz.checked) yd E (by kernel_rfl) Tryz.func5
  (ChangeSpec.witness6 (enc:=enc) (C:=Tryz.checked) false ⟨#[], #[.agg #[.int .i64 0,.slice none 0 0],.slice none 0 0],[]⟩ 8 (by kernel_rfl) (by kernel_rfl) (by kernel_rfl) (by kernel_rfl)) ?_
 intro W base args ds gs before h6 hW _ _;exact re H enc W base args ds gs before h6 hW
theorem hallOne_holds:Rows.HallOneSaid:=
 OpenClaim.holds_of_wide 5 Tryz.f5 rfl rfl rfl rfl rfl rfl rfl ⟨rfl,rfl,rfl,rfl,rfl⟩ rfl rfl rfl rfl rfl (by kernel_rfl) Tryz.func5 (by kernel_rfl)
  (of_decide_eq_true (by kernel_rfl)) (by unfold Func.isWrapper;first | (rw [if_pos (by decide +kernel)];kernel_rfl) | (rw [if_neg (by decide +kernel)];exact ⟨rfl,rfl⟩))
  (fun os started H enc _=>wT os started H enc)
#print axioms hallOne_holds
end NX
end Go.Proofs.YtjemlejoladlcaaGreat
