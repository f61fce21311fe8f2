/-
  The function narthex/narthexref03.ahead: its code compiled, a model, and that the code answers as the model. Written by a program of ours (lb.py). No statement of the seat is proved here.
-/
import Derived.KernelRfl
import Derived.Shelf.Sort.Plain
import Derived.Shelf.Slices.In.SortNone
import Derived.Sort.OwnSortedInts
import Derived.Shelf.Slices.CompactI
import Derived.Lib.RowBridge
import Derived.Test.YtacfbmldajmjiaaGreatX1
import Derived.Test.YtacfbmldajmjiaaGreatX2
namespace Go.Proofs.YtacfbmldajmjiaaGreat
namespace NX
open Go
set_option maxRecDepth 100000
set_option maxHeartbeats 4000000
@[go_sem] def e79:EC:=.seq (.reg [(Qx 2 30 2 0),(Qx 3 30 2 1),(Qa 4 (.mv (.c .ff)))]) (.seq (.reg [(Qf 5 0 2),(Ql 6 5),(Qf 7 0 3),(Ql 8 7),(Qa 9 (.bin .lss (.t 6) (.t 8))),(Qm 10 9),(Qh 11 10 false 0 2),(Qn 12 10 false 11),(Qh 13 10 false 0 3),(Qn 14 10 false 13),(Qg 15 10 false (.bin .eql (.t 12) (.t 14))),(Qg 16 10 false (.mv (.t 15))),(Qh 17 16 true 1 2),(Qn 18 16 true 17),(Qh 19 16 true 1 3),(Qn 20 16 true 19),(Qg 21 16 true (.bin .lss (.t 18) (.t 20))),(Qg 22 10 false (.pick (.t 16) (.t 21) (.c .ff))),(Qq 23 10 22),(Qm 4 23)]) (.ret))
theorem ok79:FnOK Tryz.prog 79 Tryz.f79 e79 [.t 4] 2 22:=⟨by kernel_rfl,⟨_,rfl,by kernel_rfl⟩,by kernel_rfl,by kernel_rfl⟩
noncomputable def Zsb:Bool→Option Bool
| x3=>
 some x3
noncomputable def Ztb (x1:Edge) (x2:Edge):Option Bool:=
 ifb (decide (x1.A<x2.A)) (
 Zsb true) (
 ifb (decide (x1.A=x2.A)) (
 Zsb (decide (x1.B<x2.B))) (
 Zsb false))
theorem Zub (x1:Edge) (x2:Edge) (r:Bool) (h:Ztb x1 x2=some r):Zs2 Tryz.prog 79 [.agg (Edge.row x1),.agg (Edge.row x2)] (.bv r):=by
 refine Zw2 ok79 rfl rfl fun w0 H0=>?_
 rw [Ztb] at h
 refine Zn2 14 ?_;dsimp only [go_sem];refine An ?_;refine Zg4 (fun (x3:Bool)=>(⟨(an 4 (.bv x3::an 19 [])),[],[]⟩:St)) Zsb r ?_ fun J1=>?_
 ·intro x3 h;rw [Zsb] at h;(try dsimp only);exact Zq4 (res:=fun (r:Bool)=>.bv r) ok79 h
 ·refine Zp4 10 h rfl (fun _ h=>?_) fun _ h=>?_
  ·dsimp only [go_sem];refine Zn2 15 ?_;dsimp only [go_sem];refine An ?_;exact Zs4 J1 (s:=true) h
  ·dsimp only [go_sem];refine Zn2 6 ?_;dsimp only [go_sem];refine An ?_;refine Zp4 16 h rfl (fun _ h=>?_) fun _ h=>?_
   ·dsimp only [go_sem];refine Zn2 9 ?_;dsimp only [go_sem];refine An ?_;exact Zs4 J1 (s:=decide (x1.B<x2.B)) h
   ·dsimp only [go_sem];refine Zn2 9 ?_;dsimp only [go_sem];refine An ?_;exact Zs4 J1 (s:=false) h
set_option maxRecDepth 100000
set_option maxHeartbeats 4000000
@[go_sem] def e42_L0:EC:=.seq (.seq (.reg [(Qm 19 3),(Qf 20 1 1),(Ql 21 20),(Qa 22 (.len (.t 21))),(Qa 23 (.bin .lss (.t 19) (.t 22)))]) (.ite (.t 23) (.skip) (.exit 0))) (.seq (.blk 1 (.seq (.reg [(Qf 26 1 1),(Ql 27 26),(Qm 28 3),(Qk 29 2 27 28),(Qe 30 2 29),(Qa 4 (.alloc 30 [.iv 0,.iv 0])),(Qs 2 4 30)]) (.seq (.drw [(Qf 31 0 4),(Ql 32 31),(Qa 33 (.bin .lss (.t 32) (.c (.iv 0)))),(Qm 34 33),(Qh 35 34 false 0 4),(Qn 36 34 false 35),(Qh 37 34 false 1 4),(Qn 38 34 false 37),(Qg 39 34 false (.bin .geq (.t 36) (.t 38))),(Qq 40 34 39),(Qm 41 40),(Qh 42 41 false 1 4),(Qn 43 41 false 42),(Qh 44 41 false 0 1),(Qn 45 41 false 44),(Qg 46 41 false (.bin .geq (.t 43) (.t 45))),(Qq 47 41 46),(Qm 48 47),(Qg 49 48 false (.mv (.t 3))),(Qg 50 48 false (.bin .gtr (.t 49) (.c (.iv 0)))),(Qg 51 48 false (.mv (.t 50))),(Qh 52 51 true 1 1),(Qn 53 51 true 52),(Qg 54 51 true (.mv (.t 3))),(Qg 55 51 true (.bin .sub (.t 54) (.c (.iv 1)))),(Qg 56 51 true (.idx 2 (.t 53) (.t 55))),(Qg 57 51 true (.loadA 2 (.t 56))),(Qg 58 51 true (.loadA 2 (.t 4))),(Qg 59 51 true (.call 79 [(.t 57),(.t 58)])),(Qg 60 51 true (.not (.t 59))),(Qg 61 48 false (.pick (.t 51) (.t 60) (.c .ff))),(Qq 62 48 61)] [[],[0],[1],[2],[3],[4,3],[3],[6,3],[5,7,3],[3,8],[9,3],[10],[11,10],[10],[13,10],[12,14,10],[10,15],[16,10],[17],[18,17],[19,17,17],[20],[21,20],[20],[23,20],[22,24,20],[25,20],[20],[26,27,20,20],[28,20],[20,29,17],[17,30]] [[1],[0,2],[1,3],[2,4,5,6,7,8,9],[3,5],[3,4,8],[3,7],[3,6,8],[3,5,7,9],[3,8,10],[9,11,12,13,14,15,16],[10,12],[10,11,15],[10,14],[10,13,15],[10,12,14,16],[10,15,17],[16,18,19,20,30,31],[17,19],[17,18,20],[17,19,21,22,23,24,25,26,27,28,29,30],[20,22],[20,21,25],[20,24],[20,23,25],[20,22,24,26],[20,25,28],[20,28],[20,26,27,29],[20,28,30],[17,20,29,31],[17,30]]) (.ite (.t 62) (.seq (.reg [(Qa 2 (.mv (.c .ff)))]) (.ret)) (.skip))))) (.reg [(Qm 24 3),(Qv 25 24 1),(Qm 3 25)]))
@[go_sem] def e42:EC:=.seq (.reg [(Qx 1 53 2 0),(Qa 2 (.mv (.c .ff)))]) (.seq (.seq (.reg [(Qf 5 0 1),(Ql 6 5),(Qa 7 (.bin .lss (.t 6) (.c (.iv 0)))),(Qm 8 7),(Qh 9 8 false 0 1),(Qn 10 8 false 9),(Qg 11 8 false (.bin .gtr (.t 10) (.c (.iv 64)))),(Qq 12 8 11),(Qm 13 12),(Qh 14 13 false 1 1),(Qn 15 13 false 14),(Qg 16 13 false (.len (.t 15))),(Qg 17 13 false (.bin .gtr (.t 16) (.c (.iv 400)))),(Qq 18 13 17)]) (.ite (.t 18) (.seq (.reg [(Qa 2 (.mv (.c .ff)))]) (.ret)) (.skip))) (.seq (.seq (.reg [(Qi 3 0)]) (.blk 0 (.loop e42_L0))) (.seq (.reg [(Qa 2 (.mv (.c .tt)))]) (.ret))))
theorem ok42:FnOK Tryz.prog 42 Tryz.f42 e42 [.t 2] 1 62:=⟨by kernel_rfl,⟨_,rfl,by kernel_rfl⟩,by kernel_rfl,by kernel_rfl⟩
noncomputable def Zvb:Unit→Option Bool
| ()=>
 some true
noncomputable def Zwb (x8:Int):Bool→Option (Int ⊕ Bool)
| x12=>
 ifb x12 (
 Option.map Sum.inr (some false)) (
 some (.inl (wr (x8+1))))
noncomputable def Zxb (x1:Graph):Int→Option (Int ⊕ Bool)
| x8=>
 ifb (decide (x8<(ln Edge.row x1.Edges))) (
 (at_ x1.Edges x8).bind fun x9=>
 ifb (decide (x9.A<0)) (
 (Zwb x8) true) (
 ifb (decide (x9.B≤x9.A)) (
 (Zwb x8) true) (
 ifb (decide (x1.N≤x9.B)) (
 (Zwb x8) true) (
 ifb (decide (0<x8)) (
 (at_ x1.Edges (wr (x8-1))).bind fun x10=>
 (Ztb x10 x9).bind fun x11=>
 (Zwb x8) (!x11)) (
 (Zwb x8) false))))) (
 Option.map Sum.inr (Zvb ()))
noncomputable def Zyb (x1:Graph):Bool→Option Bool
| x2=>
 ifb x2 (
 some false) (
 loop (Zxb x1) 0)
noncomputable def Zzb (x1:Graph):Option Bool:=
 ifb (decide (x1.N<0)) (
 (Zyb x1) true) (
 ifb (decide (64<x1.N)) (
 (Zyb x1) true) (
 (Zyb x1) (decide (400<(ln Edge.row x1.Edges)))))
theorem Z0c (x1:Graph) (r:Bool) (h:Zzb x1=some r):Zs2 Tryz.prog 42 [.agg (Graph.row x1)] (.bv r):=by
 refine Zw2 ok42 rfl rfl fun w0 H0=>?_
 rw [Zzb] at h
 refine Zn2 12 ?_;dsimp only [go_sem];refine An ?_;refine Zg4 (fun (x2:Bool)=>(⟨(.any :: .ptr 0 0::an 16 (.bv x2::an 44 [])),[some ⟨53,[.iv x1.N,.sl 2 (List.map Edge.row x1.Edges)]⟩],[]⟩:St)) (Zyb x1) r ?_ fun J1=>?_
 ·intro x2 h;rw [Zyb] at h;(try dsimp only);refine Zi4 h rfl (fun _ h=>?_) fun _ h=>?_
  ·refine Zn2 4 ?_;dsimp only [go_sem];refine An ?_;exact Zq4 (res:=fun (r:Bool)=>.bv r) ok42 h
  ·refine Zn2 6 ?_;dsimp only [go_sem];refine An ?_;refine Zg4 (fun (_:Unit)=>(⟨(an 63 []),[],[]⟩:St)) Zvb r ?_ fun J2=>?_
   ·rintro ⟨⟩ h;rw [Zvb] at h;(try dsimp only);refine Zn2 4 ?_;dsimp only [go_sem];refine An ?_;exact Zq4 (res:=fun (r:Bool)=>.bv r) ok42 h
   ·refine Zn2 1 ?_;dsimp only [go_sem];refine An ?_;refine Zh4 h (fun (x8:Int)=>(⟨(.any :: .ptr 0 0 :: .any :: .iv x8::an 59 []),[some ⟨53,[.iv x1.N,.sl 2 (List.map Edge.row x1.Edges)]⟩],[]⟩:St)) (by simp [go_sem]) (by intro x8;first | rfl | simp [go_sem]) ?_;rintro n1 x8 y1 h hin1 hout1;rw [Zxb] at h;(try dsimp only);refine Zn2 9 ?_;dsimp only [go_sem];refine An ?_;refine Zi4 h rfl (fun _ h=>?_) fun _ h=>?_
    ·refine Zn2 8 ?_;dsimp only [go_sem];refine An ?_;obtain ⟨x9,ex9,h⟩:=Bs h;refine Zl4 Edge.row ex9 trivial rfl rfl rfl ?_;refine Zn2 5 ?_;dsimp only [go_sem];refine An ?_;refine Zg4 (fun (x12:Bool)=>(⟨(.any :: .ptr 0 0 :: .any :: .iv x8::an 58 [.bv x12]),[some ⟨53,[.iv x1.N,.sl 2 (List.map Edge.row x1.Edges)]⟩],[]⟩:St)) (Zwb x8) y1 ?_ fun J3=>?_
     ·intro x12 h;rw [Zwb] at h;(try dsimp only);refine Zi4 h rfl (fun _ h=>?_) fun _ h=>?_
      ·refine Zn2 4 ?_;dsimp only [go_sem];refine An ?_;exact Zq4 (res:=fun (r:Bool)=>.bv r) ok42 (Zf4 h hout1)
      ·refine Zn2 7 ?_;dsimp only [go_sem];refine An ?_;exact Zr4 h hin1
     ·refine Zi3 (by kernel_rfl) fun all hall hs hnap haf=>?_;dsimp only [go_sem];refine Z75 hall hs haf hnap 4 28 [4,28] [(31,[.ptr 1 0,.iv x9.A,.bv (decide (x9.A<0)),.bv (decide (x9.A<0))])] (by kernel_rfl) ?_;dsimp only [go_sem];refine Zz4 34 h rfl (fun _ h=>?_) fun _ h=>?_
      ·dsimp only [go_sem];refine Z75 hall hs haf hnap 28 0 [32] [(35,[.un,.un,.un,.un,.un,.tt,.tt,.un,.un,.un,.un,.un,.tt,.tt,.un,.un,.un,.un,.un,.un,.un,.un,.un,.un,.un,.un,.un,.tt])] (by kernel_rfl) ?_;dsimp only [go_sem];refine Zs3 rfl ?_ _;exact Zs4 J3 (s:=true) h
      ·dsimp only [go_sem];refine Z75 hall hs haf hnap 7 21 [11,21] [(35,[.ptr 1 0,.iv x9.A,.ptr 1 1,.iv x9.B,.bv (decide (x9.B≤x9.A)),.bv (decide (x9.B≤x9.A)),.bv (decide (x9.B≤x9.A))])] (by kernel_rfl) ?_;dsimp only [go_sem];refine Zz4 41 h rfl (fun _ h=>?_) fun _ h=>?_
       ·dsimp only [go_sem];refine Z75 hall hs haf hnap 21 0 [32] [(42,[.un,.un,.un,.un,.un,.tt,.tt,.un,.un,.un,.un,.un,.un,.un,.un,.un,.un,.un,.un,.un,.tt])] (by kernel_rfl) ?_;dsimp only [go_sem];refine Zs3 rfl ?_ _;exact Zs4 J3 (s:=true) h
       ·dsimp only [go_sem];refine Z75 hall hs haf hnap 7 14 [18,14] [(42,[.ptr 1 1,.iv x9.B,.ptr 0 0,.iv x1.N,.bv (decide (x1.N≤x9.B)),.bv (decide (x1.N≤x9.B)),.bv (decide (x1.N≤x9.B))])] (by kernel_rfl) ?_;dsimp only [go_sem];refine Zz4 48 h rfl (fun _ h=>?_) fun _ h=>?_
        ·dsimp only [go_sem];refine Z75 hall hs haf hnap 14 0 [32] [(49,[.un,.un,.un,.un,.un,.un,.un,.un,.un,.un,.un,.un,.un,.tt])] (by kernel_rfl) ?_;dsimp only [go_sem];refine Zs3 rfl ?_ _;exact Zs4 J3 (s:=true) h
        ·dsimp only [go_sem];refine Z75 hall hs haf hnap 3 11 [21,11] [(49,[.iv x8,.bv (decide (0<x8)),.bv (decide (0<x8))])] (by kernel_rfl) ?_;dsimp only [go_sem];refine Zz4 51 h rfl (fun _ h=>?_) fun _ h=>?_
         ·dsimp only [go_sem];refine Z75 hall hs haf hnap 5 6 [25,2,1,4] [(52,[.ptr 0 1,.sl 2 (List.map Edge.row x1.Edges),.iv x8,.iv (wr (x8-1))]),(2,[.agg [.iv x9.A,.iv x9.B]])] (by kernel_rfl) ?_;dsimp only [go_sem];obtain ⟨x10,ex10,h⟩:=Bs h;refine Zm4 hall hs haf hnap 25 Edge.row ex10 rfl rfl trivial rfl rfl rfl rfl ?_;refine Z65 hall hs haf hnap 1 4 ?_;dsimp only [go_sem];refine An ?_;refine Zt3 28 rfl ?_;obtain ⟨x11,ex11,h⟩:=Bs h;refine Zz3 hall rfl trivial (Zub x10 x9 _ ex11) (h:=?_);dsimp only [go_sem]
          refine Z75 hall hs haf hnap 3 0 [32] [(60,[.bv (!x11),.bv (!x11),.bv (!x11)])] (by kernel_rfl) ?_;dsimp only [go_sem];refine Zs3 rfl ?_ _;exact Zs4 J3 (s:=!x11) h
         ·dsimp only [go_sem];refine Z75 hall hs haf hnap 11 0 [32] [(52,[.un,.un,.un,.un,.un,.un,.un,.un,.un,.ff,.ff])] (by kernel_rfl) ?_;dsimp only [go_sem];refine Zs3 rfl ?_ _;exact Zs4 J3 (s:=false) h
    ·refine Zn2 1 ?_;dsimp only [go_sem];refine An ?_;exact Zs4 J2 (s:=()) (Zf4 h hout1)
 ·refine Zp4 8 h rfl (fun _ h=>?_) fun _ h=>?_
  ·dsimp only [go_sem];refine Zn2 11 ?_;dsimp only [go_sem];refine An ?_;exact Zs4 J1 (s:=true) h
  ·dsimp only [go_sem];refine Zn2 5 ?_;dsimp only [go_sem];refine An ?_;refine Zp4 13 h rfl (fun _ h=>?_) fun _ h=>?_
   ·dsimp only [go_sem];refine Zn2 6 ?_;dsimp only [go_sem];refine An ?_;exact Zs4 J1 (s:=true) h
   ·dsimp only [go_sem];refine Zn2 6 ?_;dsimp only [go_sem];refine An ?_;exact Zs4 J1 (s:=decide (400<(ln Edge.row x1.Edges))) h
set_option maxRecDepth 100000
set_option maxHeartbeats 4000000
@[go_sem] def e39_L0:EC:=.seq (.seq (.reg [(Qm 9 7),(Qf 10 1 3),(Ql 11 10),(Qa 12 (.len (.t 11))),(Qa 13 (.bin .lss (.t 9) (.t 12)))]) (.ite (.t 13) (.skip) (.exit 0))) (.seq (.blk 1 (.seq (.reg [(Qf 16 1 3),(Ql 17 16),(Qm 18 7),(Qk 19 2 17 18),(Qe 20 2 19),(Qa 8 (.alloc 30 [.iv 0,.iv 0])),(Qs 2 8 20)]) (.seq (.reg [(Qf 21 0 8),(Ql 22 21),(Qm 23 1),(Qa 24 (.bin .eql (.t 22) (.t 23))),(Qm 25 24),(Qh 26 25 true 1 8),(Qn 27 25 true 26),(Qg 28 25 true (.mv (.t 2))),(Qg 29 25 true (.bin .eql (.t 27) (.t 28))),(Qp 30 25 29),(Qm 31 30),(Qg 32 31 true (.mv (.t 1))),(Qg 33 31 true (.mv (.t 2))),(Qg 34 31 true (.bin .leq (.t 32) (.t 33))),(Qp 35 31 34),(Qm 36 35),(Qh 37 36 false 0 8),(Qn 38 36 false 37),(Qg 39 36 false (.mv (.t 2))),(Qg 40 36 false (.bin .eql (.t 38) (.t 39))),(Qg 41 36 false (.mv (.t 40))),(Qh 42 41 true 1 8),(Qn 43 41 true 42),(Qg 44 41 true (.mv (.t 1))),(Qg 45 41 true (.bin .eql (.t 43) (.t 44))),(Qg 46 36 false (.pick (.t 41) (.t 45) (.c .ff))),(Qg 47 36 false (.mv (.t 46))),(Qg 48 47 true (.mv (.t 2))),(Qg 49 47 true (.mv (.t 1))),(Qg 50 47 true (.bin .lss (.t 48) (.t 49))),(Qg 51 36 false (.pick (.t 47) (.t 50) (.c .ff))),(Qq 52 36 51)]) (.ite (.t 52) (.seq (.reg [(Qa 6 (.mv (.c .tt)))]) (.ret)) (.skip))))) (.reg [(Qm 14 7),(Qv 15 14 1),(Qm 7 15)]))
@[go_sem] def e39:EC:=.seq (.reg [(Qx 3 53 2 0),(Qa 6 (.mv (.c .ff)))]) (.seq (.seq (.reg [(Qi 7 0)]) (.blk 0 (.loop e39_L0))) (.seq (.reg [(Qa 6 (.mv (.c .ff)))]) (.ret)))
theorem ok39:FnOK Tryz.prog 39 Tryz.f39 e39 [.t 6] 3 50:=⟨by kernel_rfl,⟨_,rfl,by kernel_rfl⟩,by kernel_rfl,by kernel_rfl⟩
noncomputable def Z1c:Unit→Option Bool
| ()=>
 some false
noncomputable def Z2c (x7:Int):Bool→Option (Int ⊕ Bool)
| x9=>
 ifb x9 (
 Option.map Sum.inr (some true)) (
 some (.inl (wr (x7+1))))
noncomputable def Z3c (x1:Graph) (x2:Int) (x3:Int):Int→Option (Int ⊕ Bool)
| x7=>
 ifb (decide (x7<(ln Edge.row x1.Edges))) (
 (at_ x1.Edges x7).bind fun x8=>
 ifb (decide (x8.A=x2)) (
 ifb (decide (x8.B=x3)) (
 ifb (decide (x2≤x3)) (
 (Z2c x7) true) (
 ifb (decide (x8.A=x3)) (
 ifb (decide (x8.B=x2)) (
 (Z2c x7) (decide (x3<x2))) (
 (Z2c x7) false)) (
 (Z2c x7) false))) (
 ifb (decide (x8.A=x3)) (
 ifb (decide (x8.B=x2)) (
 (Z2c x7) (decide (x3<x2))) (
 (Z2c x7) false)) (
 (Z2c x7) false))) (
 ifb (decide (x8.A=x3)) (
 ifb (decide (x8.B=x2)) (
 (Z2c x7) (decide (x3<x2))) (
 (Z2c x7) false)) (
 (Z2c x7) false))) (
 Option.map Sum.inr (Z1c ()))
noncomputable def Z4c (x1:Graph) (x2:Int) (x3:Int):Option Bool:=
 loop (Z3c x1 x2 x3) 0
theorem Z5c (x1:Graph) (x2:Int) (x3:Int) (r:Bool) (h:Z4c x1 x2 x3=some r):Zs2 Tryz.prog 39 [.agg (Graph.row x1),.iv x2,.iv x3] (.bv r):=by
 refine Zw2 ok39 rfl rfl fun w0 H0=>?_
 rw [Z4c] at h
 refine Zn2 10 ?_;dsimp only [go_sem];refine An ?_;refine Zg4 (fun (_:Unit)=>(⟨(an 53 []),[],[]⟩:St)) Z1c r ?_ fun J1=>?_
 ·rintro ⟨⟩ h;rw [Z1c] at h;(try dsimp only);refine Zn2 4 ?_;dsimp only [go_sem];refine An ?_;exact Zq4 (res:=fun (r:Bool)=>.bv r) ok39 h
 ·refine Zn2 1 ?_;dsimp only [go_sem];refine An ?_;refine Zh4 h (fun (x7:Int)=>(⟨(.any :: .iv x2 :: .iv x3 :: .ptr 0 0::an 3 (.iv x7::an 45 [])),[some ⟨53,[.iv x1.N,.sl 2 (List.map Edge.row x1.Edges)]⟩],[]⟩:St)) (by simp [go_sem]) (by intro x7;first | rfl | simp [go_sem]) ?_;rintro n1 x7 y1 h hin1 hout1;rw [Z3c] at h;(try dsimp only);refine Zn2 9 ?_;dsimp only [go_sem];refine An ?_;refine Zi4 h rfl (fun _ h=>?_) fun _ h=>?_
  ·refine Zn2 8 ?_;dsimp only [go_sem];refine An ?_;obtain ⟨x8,ex8,h⟩:=Bs h;refine Zl4 Edge.row ex8 trivial rfl rfl rfl ?_;refine Zn2 11 ?_;dsimp only [go_sem];refine An ?_;refine Zg4 (fun (x9:Bool)=>(⟨(.any :: .iv x2 :: .iv x3 :: .ptr 0 0::an 3 (.iv x7::an 44 [.bv x9])),[some ⟨53,[.iv x1.N,.sl 2 (List.map Edge.row x1.Edges)]⟩],[]⟩:St)) (Z2c x7) y1 ?_ fun J2=>?_
   ·intro x9 h;rw [Z2c] at h;(try dsimp only);refine Zi4 h rfl (fun _ h=>?_) fun _ h=>?_
    ·refine Zn2 4 ?_;dsimp only [go_sem];refine An ?_;exact Zq4 (res:=fun (r:Bool)=>.bv r) ok39 (Zf4 h hout1)
    ·refine Zn2 7 ?_;dsimp only [go_sem];refine An ?_;exact Zr4 h hin1
   ·refine Zp4 25 h rfl (fun _ h=>?_) fun _ h=>?_
    ·dsimp only [go_sem];refine Zn2 6 ?_;dsimp only [go_sem];refine An ?_;refine Zp4 31 h rfl (fun _ h=>?_) fun _ h=>?_
     ·dsimp only [go_sem];refine Zn2 5 ?_;dsimp only [go_sem];refine An ?_;refine Zp4 36 h rfl (fun _ h=>?_) fun _ h=>?_
      ·dsimp only [go_sem];refine Zn2 17 ?_;dsimp only [go_sem];refine An ?_;exact Zs4 J2 (s:=true) h
      ·dsimp only [go_sem];refine Zn2 5 ?_;dsimp only [go_sem];refine An ?_;refine Zp4 41 h rfl (fun _ h=>?_) fun _ h=>?_
       ·dsimp only [go_sem];refine Zn2 6 ?_;dsimp only [go_sem];refine An ?_;refine Zp4 47 h rfl (fun _ h=>?_) fun _ h=>?_
        ·dsimp only [go_sem];refine Zn2 6 ?_;dsimp only [go_sem];refine An ?_;exact Zs4 J2 (s:=decide (x3<x2)) h
        ·dsimp only [go_sem];refine Zn2 6 ?_;dsimp only [go_sem];refine An ?_;exact Zs4 J2 (s:=false) h
       ·dsimp only [go_sem];refine Zn2 12 ?_;dsimp only [go_sem];refine An ?_;exact Zs4 J2 (s:=false) h
     ·dsimp only [go_sem];refine Zn2 10 ?_;dsimp only [go_sem];refine An ?_;refine Zp4 41 h rfl (fun _ h=>?_) fun _ h=>?_
      ·dsimp only [go_sem];refine Zn2 6 ?_;dsimp only [go_sem];refine An ?_;refine Zp4 47 h rfl (fun _ h=>?_) fun _ h=>?_
       ·dsimp only [go_sem];refine Zn2 6 ?_;dsimp only [go_sem];refine An ?_;exact Zs4 J2 (s:=decide (x3<x2)) h
       ·dsimp only [go_sem];refine Zn2 6 ?_;dsimp only [go_sem];refine An ?_;exact Zs4 J2 (s:=false) h
      ·dsimp only [go_sem];refine Zn2 12 ?_;dsimp only [go_sem];refine An ?_;exact Zs4 J2 (s:=false) h
    ·dsimp only [go_sem];refine Zn2 16 ?_;dsimp only [go_sem];refine An ?_;refine Zp4 41 h rfl (fun _ h=>?_) fun _ h=>?_
     ·dsimp only [go_sem];refine Zn2 6 ?_;dsimp only [go_sem];refine An ?_;refine Zp4 47 h rfl (fun _ h=>?_) fun _ h=>?_
      ·dsimp only [go_sem];refine Zn2 6 ?_;dsimp only [go_sem];refine An ?_;exact Zs4 J2 (s:=decide (x3<x2)) h
      ·dsimp only [go_sem];refine Zn2 6 ?_;dsimp only [go_sem];refine An ?_;exact Zs4 J2 (s:=false) h
     ·dsimp only [go_sem];refine Zn2 12 ?_;dsimp only [go_sem];refine An ?_;exact Zs4 J2 (s:=false) h
  ·refine Zn2 1 ?_;dsimp only [go_sem];refine An ?_;exact Zs4 J1 (s:=()) (Zf4 h hout1)
set_option maxRecDepth 100000
set_option maxHeartbeats 4000000
@[go_sem] def e33_L0:EC:=.seq (.seq (.reg [(Qm 6 5),(Qm 7 0),(Qa 8 (.len (.t 7))),(Qa 9 (.bin .lss (.t 6) (.t 8)))]) (.ite (.t 9) (.skip) (.exit 0))) (.seq (.blk 1 (.seq (.reg [(Qm 12 0),(Qm 13 5),(Qk 14 1 12 13),(Ql 15 14),(Qm 16 1),(Qa 17 (.bin .eql (.t 15) (.t 16)))]) (.ite (.t 17) (.seq (.reg [(Qa 4 (.mv (.c .tt)))]) (.ret)) (.skip)))) (.reg [(Qm 10 5),(Qv 11 10 1),(Qm 5 11)]))
@[go_sem] def e33:EC:=.seq (.reg [(Qa 4 (.mv (.c .ff)))]) (.seq (.seq (.reg [(Qi 5 0)]) (.blk 0 (.loop e33_L0))) (.seq (.reg [(Qa 4 (.mv (.c .ff)))]) (.ret)))
theorem ok33:FnOK Tryz.prog 33 Tryz.f33 e33 [.t 4] 2 16:=⟨by kernel_rfl,⟨_,rfl,by kernel_rfl⟩,by kernel_rfl,by kernel_rfl⟩
noncomputable def Z6c:Unit→Option Bool
| ()=>
 some false
noncomputable def Z7c (x1:(List Int)) (x2:Int):Int→Option (Int ⊕ Bool)
| x5=>
 ifb (decide (x5<(ln Zw4 x1))) (
 (at_ x1 x5).bind fun x6=>
 ifb (decide (x6=x2)) (
 Option.map Sum.inr (some true)) (
 some (.inl (wr (x5+1))))) (
 Option.map Sum.inr (Z6c ()))
noncomputable def Z8c (x1:(List Int)) (x2:Int):Option Bool:=
 loop (Z7c x1 x2) 0
theorem Z9c (x1:(List Int)) (x2:Int) (r:Bool) (h:Z8c x1 x2=some r):Zs2 Tryz.prog 33 [.sl 1 (List.map Zw4 x1),.iv x2] (.bv r):=by
 refine Zw2 ok33 rfl rfl fun w0 H0=>?_
 rw [Z8c] at h
 refine Zn2 9 ?_;dsimp only [go_sem];refine An ?_;refine Zg4 (fun (_:Unit)=>(⟨(an 18 []),[],[]⟩:St)) Z6c r ?_ fun J1=>?_
 ·rintro ⟨⟩ h;rw [Z6c] at h;(try dsimp only);refine Zn2 4 ?_;dsimp only [go_sem];refine An ?_;exact Zq4 (res:=fun (r:Bool)=>.bv r) ok33 h
 ·refine Zn2 1 ?_;dsimp only [go_sem];refine An ?_;refine Zh4 h (fun (x5:Int)=>(⟨(.sl 1 (List.map Zw4 x1) :: .iv x2::an 3 (.iv x5::an 12 [])),[],[]⟩:St)) (by simp [go_sem]) (by intro x5;first | rfl | simp [go_sem]) ?_;rintro n1 x5 y1 h hin1 hout1;rw [Z7c] at h;(try dsimp only);refine Zn2 8 ?_;dsimp only [go_sem];refine An ?_;refine Zi4 h rfl (fun _ h=>?_) fun _ h=>?_
  ·refine Zn2 7 ?_;dsimp only [go_sem];refine An ?_;obtain ⟨x6,ex6,h⟩:=Bs h;refine Zl4 Zw4 ex6 trivial rfl rfl rfl ?_;refine Zn2 4 ?_;dsimp only [go_sem];refine An ?_;refine Zi4 h rfl (fun _ h=>?_) fun _ h=>?_
   ·refine Zn2 4 ?_;dsimp only [go_sem];refine An ?_;exact Zq4 (res:=fun (r:Bool)=>.bv r) ok33 (Zf4 h hout1)
   ·refine Zn2 7 ?_;dsimp only [go_sem];refine An ?_;exact Zr4 h hin1
  ·refine Zn2 1 ?_;dsimp only [go_sem];refine An ?_;exact Zs4 J1 (s:=()) (Zf4 h hout1)
def cg (c:List Int) (i:Int):Int:=(c[i.toNat]?).getD 0
theorem at_cg {c:List Int} {i:Int} (h0:0≤i) (h:i<c.length):at_ c i=some (cg c i):=by
 obtain ⟨x,h1,h2⟩:=at_lt h0 h
 rw [h1,cg,h2];rfl
def Zac (g:Graph) (c:List Int):Bool:=decide ((c.length:Int)=g.N)&&(c.all (fun x=>decide (1≤x))&&g.Edges.all (fun e=>!decide (cg c e.A=cg c e.B)))
theorem s_Right (g:Graph) (c:List Int) (_:c.length≤1000000):Zqb g c=some (okG g&&Zac g c):=by
 simp only [Zqb,Zd7,Option.bind_some,Zx5]
 cases hg:okG g with
 | false=>simp [Zpb]
 | true=>
   obtain ⟨g1,g2,g3,g4,g5⟩:=Ze7 hg
   simp only [if_true,decide_true,Zv5,Bool.true_and,Zy4]
   by_cases hl:(c.length:Int)=g.N
   ·rw [Zb7 c (fun z=>Zlb z) (fun x=>decide (x<1)) (by omega) (fun x _=>rfl)]
    simp only [hl,decide_true,Zv5,Option.bind_some,Zac,Bool.true_and]
    have e1:c.any (fun x=>decide (x<1))=!c.all (fun x=>decide (1≤x)):=Zf7 _ _ _ (fun x=>by
     by_cases h:x<1
     ·have:¬1≤x:=by omega
      simp [h,this]
     ·have:1≤x:=by omega
      simp [h,this])
    rw [e1]
    cases hp:c.all (fun x=>decide (1≤x)) with
    | false=>simp [Zpb]
    | true=>
      simp only [Bool.not_true,Zpb,Zw5]
      rw [Za7 g.Edges _ (fun e=>decide (cg c e.A=cg c e.B)) (by omega) (fun e he=>by
       obtain ⟨k1,k2,k3⟩:=g4 e he
       simp only [Znb,at_cg (c:=c) k1 (by omega),at_cg (c:=c) (show 0≤e.B by omega) (by omega),Option.bind_some])]
      simp [all_not_any]
   ·simp [hl,Zac,Zpb]
theorem s_ahead (x y:Edge):Ztb x y=some (x.lt y):=by
 simp only [Ztb,Zsb,Edge.lt]
 by_cases h1:x.A<y.A
 ·simp [h1]
 ·by_cases h2:x.A=y.A<;>simp [h1,h2]
theorem s_r03Check (g:Graph):Zzb g=some (okG g):=by
 simp only [Zzb,Zyb]
 by_cases h1:g.N<0
 ·have:¬0≤g.N:=by omega
  simp [h1,okG,this]
 by_cases h2:64<g.N
 ·have:¬g.N≤64:=by omega
  simp [h1,h2,okG,this]
 by_cases h3:400<g.Edges.length
 ·have:¬g.Edges.length≤400:=by omega
  have h3':(400:Int)<ln Edge.row g.Edges:=by rw [Zy4];omega
  simp [h1,h2,h3',okG,this]
 have h3':¬(400:Int)<ln Edge.row g.Edges:=by rw [Zy4];omega
 have e1:0≤g.N:=by omega
 have e2:g.N≤64:=by omega
 have e3:g.Edges.length≤400:=by omega
 simp only [h1,h2,h3',decide_false,Zw5,okG,e1,e2,e3,decide_true,Bool.true_and]
 have key:=Zc7 g.Edges (Zxb g) false true (fun e=>!e.ok g.N) (by omega) (fun k x hx=>by
  have hw:wr ((k:Int)+1)=((k+1:Nat):Int):=Z46 hx (by omega)
  simp only [Zxb,Z16 hx,Zv5,Zz5 hx,Option.bind_some,Zwb,hw,Edge.ok]
  by_cases k1:x.A<0
  ·have:¬0≤x.A:=by omega
   simp [k1,this]
  ·have k1':0≤x.A:=by omega
   by_cases k2:x.B≤x.A
   ·have:¬x.A<x.B:=by omega
    simp [k1,k2,this]
   ·have k2':x.A<x.B:=by omega
    by_cases k3:g.N≤x.B
    ·have:¬x.B<g.N:=by omega
     simp [k1,k2,k3,this]
    ·have k3':x.B<g.N:=by omega
     simp only [k1,k2,k3,k1',k2',k3',decide_false,decide_true,Zw5,Bool.and_self,Bool.not_true,Bool.false_or]
     cases k with
     | zero=>simp
     | succ k=>
       have hk:=(List.getElem?_eq_some_iff.1 hx).1
       have hy:g.Edges[k]?=some g.Edges[k]:=List.getElem?_eq_getElem (by omega)
       have h0:decide ((0:Int)<((k+1:Nat):Int))=true:=decide_eq_true (by omega)
       simp only [h0,Zv5,wr_pred (show k≤4000000000000000000 by omega),Zz5 hy,hy,Option.bind_some,s_ahead]
       cases g.Edges[k].lt x<;>simp)
  (by simp only [Zxb,Z26,Zw5,Zvb,Option.map_some])
 rw [key]
 have:g.Edges.all (fun x=>!!Edge.ok g.N x)=g.Edges.all (Edge.ok g.N):=by simp
 rw [this]
 cases g.Edges.all (Edge.ok g.N)&&risB g.Edges<;>rfl
theorem s_r01Has (l:List Int) (x:Int) (hl:l.length≤1000000):Z8c l x=some (decide (x∈l)):=by
 unfold Z8c
 rw [loop_any l (Z7c l x) (fun y=>decide (y=x)) true false (by omega) (fun k y hy=>by
  have hw:wr ((k:Int)+1)=((k+1:Nat):Int):=Z46 hy (by omega)
  simp only [Z7c,Z16 hy,Zv5,Zz5 hy,Option.bind_some,hw]
  by_cases h:y=x<;>simp [h])
  (by simp only [Z7c,Z26,Zw5,Z6c,Option.map_some])]
 by_cases h:x∈l
 ·have:l.any (fun y=>decide (y=x))=true:=by rw [List.any_eq_true];exact ⟨x,h,by simp⟩
  simp [this,h]
 ·have:l.any (fun y=>decide (y=x))=false:=by
   rw [List.any_eq_false];intro y hy;simp;rintro rfl;exact h hy
  simp [this,h]
def hasB (g:Graph) (a b:Int):Bool:=g.Edges.any fun e=>(decide (e.A=a)&&(decide (e.B=b)&&decide (a≤b)))||(decide (e.A=b)&&(decide (e.B=a)&&decide (b<a)))
theorem s_r03Has (g:Graph) (a b:Int) (hl:g.Edges.length≤1000000):Z4c g a b=some (hasB g a b):=by
 unfold Z4c hasB
 rw [loop_any g.Edges (Z3c g a b) (fun e=>(decide (e.A=a)&&(decide (e.B=b)&&decide (a≤b)))||(decide (e.A=b)&&(decide (e.B=a)&&decide (b<a)))) true false (by omega) (fun k e he=>by
  have hw:wr ((k:Int)+1)=((k+1:Nat):Int):=Z46 he (by omega)
  simp only [Z3c,Z16 he,Zv5,Zz5 he,Option.bind_some,Z2c,hw]
  generalize decide (e.A=a)=p1;generalize decide (e.B=b)=p2;generalize decide (a≤b)=p3;generalize decide (e.A=b)=p4;generalize decide (e.B=a)=p5;generalize decide (b<a)=p6
  cases p1<;>cases p2<;>cases p3<;>cases p4<;>cases p5<;>cases p6<;>rfl)
  (by simp only [Z3c,Z26,Zw5,Z1c,Option.map_some])]
 generalize List.any _ _=p
 cases p<;>rfl
end NX
end Go.Proofs.YtacfbmldajmjiaaGreat
namespace Go.Proofs.YtacfbmldajmjiaaGreat
namespace NX
open Go Go.RowKit
section
variable {c:Ctx} {M:Mem} {S S':St} {a:Act} {w:World} {fn:Func} {K:AV→List (Option Blk)→List (Option Sl)→Prop} {k:List It} {bs:List (Option Blk)} {ss:List (Option Sl)}
theorem isLL_ints {M:Mem} {zs:List Int} {vss:List (List Value)} (h:AV.isLL M 1 (zs.map Zw4) vss):vss.flatten=zs.map (Value.int .i64):=by
 induction zs generalizing vss with
 | nil=>simp [AV.isLL] at h;subst h;rfl
 | cons z zs ih=>
   obtain ⟨v,r,rfl,h1,h2,h3⟩:=h
   obtain ⟨u,q,rfl,h4,h5⟩:=h2
   simp only [AV.isL] at h5
   simp only [AV.is] at h4
   subst h5;subst h4
   simp [ih h3]
theorem Zbc {M:Mem}:∀(zs:List Int),∃vss,AV.isLL M 1 (zs.map Zw4) vss∧vss.flatten=zs.map (Value.int .i64)
 | []=>⟨[],rfl,rfl⟩
 | z::zs=>by
   obtain ⟨vss,h1,h2⟩:=Zbc (M:=M) zs
   exact ⟨[.int .i64 z]::vss,⟨_,_,rfl,rfl,⟨_,_,rfl,rfl,rfl⟩,h1⟩,by simp [h2]⟩
theorem sem_sort {ρ:Shelf.Ren} (Ly:Lays.n189 c.P ρ) {j T:Nat} {x:X} {zs:List Int} (hx:S.x x = .osl j) (hj:Zf S.ss j=some ⟨T,1,zs.map Zw4⟩) (hlen:zs.length<4611686018427387904):
  Zx2 c S (.call (ρ.f 189) [x]) (.tup []) ⟨S.tm,S.bs,Zg S.ss j (some ⟨T,1,(zs.mergeSort fun x y=>decide (x≤y)).map Zw4⟩)⟩:=by
 intro ro ho M a w hT next Q hn
 obtain ⟨dst,op,ty,pos,af,gd⟩:=ro
 dsimp only at ho
 obtain ⟨cargs,argTypes,rfl,hfn,hxs⟩:=Z03 ho
 obtain ⟨q,rfl⟩:∃q,cargs = #[q]:=by
  have:cargs.toList.length=1:=by have:=congrArg List.length hxs;simpa using this
  obtain ⟨l⟩:=cargs
  match l,this with
  | [q],_=>exact ⟨q,rfl⟩
 have hqx:cX q=x:=by simpa using hxs
 have hq:=Zy1 hT q
 rw [hqx,hx] at hq
 obtain ⟨hjn,hq⟩:=hq
 obtain ⟨g0,vss,h1,h2,h3,h4⟩:=hT.st.slc j _ hj
 dsimp only at h1 h3 g0
 have hfl:=isLL_ints h1
 have hrun:(execOp a.eval ⟨dst,.call ⟨.value (.func (ρ.f 189)), #[q],argTypes⟩,ty,pos,af,gd⟩).run c.P w = .ok (.enter (ρ.f 189) (#[q].map a.eval)) w:=by
  have he:a.eval (.func (ρ.f 189)) = .func (.func (ρ.f 189)) #[] #[]:=rfl
  generalize a.eval=ρ' at *
  simp [execOp,resolve,Deferred.ofValue,invoke,he,Zz2 hfn]
 have e1:(#[q].map a.eval) = #[M.σ j]:=by
  apply Array.ext';simp;exact hq
 rw [e1] at hrun
 unfold Oper.wp
 rw [hrun]
 show Calls c.P (ρ.f 189) #[M.σ j] w _
 obtain ⟨rs,hr1,hr2⟩:=Zbc (M:=M.pure) (zs.mergeSort fun x y=>decide (x≤y))
 have hone:∀v∈rs.flatten,v.oneCell'=true:=by
  rw [hr2];intro v hv
  obtain ⟨z,_,rfl⟩:=List.mem_map.1 hv;rfl
 have hl2:(zs.mergeSort fun x y=>decide (x≤y)).length=zs.length:=by simp
 rcases h3.2 with ⟨e2,e3⟩ | ⟨g,cap,cur,e2,hb,e3,e4,e5,e6,e7⟩
 ·have hz:zs=[]:=by simpa using e3
  subst hz
  rw [e2]
  refine (Any.slices_Sort_int_none Ly none 0 w).mono ?_
  rintro e w' ⟨rfl,rfl⟩
  refine hn M _ _ (.refl M) ?_ ⟨[],rfl,rfl⟩
  have:Zg S.ss j (some (⟨T,1,([].mergeSort fun (x y:Int)=>decide (x≤y)).map Zw4⟩:Sl))=S.ss:=by
   have hj':=hj
   simp only [List.map_nil] at hj'
   have:∀(l:List (Option Sl)) (j:Nat) (L:Sl),Zf l j=some L→Zg l j (some L)=l:=by
    intro l
    induction l with
    | nil=>intro j L h;simp [Zf] at h
    | cons x l ih=>intro j L h;cases j with
      | zero=>simp [Zf] at h;subst h;rfl
      | succ j=>simp only [Zg];rw [ih j L (by simpa [Zf] using h)]
   simpa using this _ _ _ hj'
  rw [this];exact hT.st
 ·have e4':zs.length≤cap:=by simpa using e4
  rw [e2]
  simp only [List.length_map]
  rw [Nat.mul_one,List.length_map] at e7
  rw [hfl] at e7
  refine (Any.slices_Sort_int Ly g 0 cap zs w (holds_of_blockI e3 e7) (Array.getElem?_eq_some_iff.1 e3).1 hlen).mono ?_
  rintro e w' ⟨rfl,n,os,rfl⟩
  refine hn M _ _ (.refl M) ?_ ⟨[],rfl,rfl⟩
  refine hT.st.rewrite hj (g:=g) (by rw [e2];rfl) (grownBy_sortedI _) (vss':=rs) hr1 hone ?_
  rw [hr2,List.length_map,hl2,e2,List.length_map]
  exact ownsRow_sortedI (ss:=zs) hl2 hb e3 e4' e5 e6
theorem V_sort {ρ:Shelf.Ren} (Ly:Lays.n189 c.P ρ) {d:Option Nat} {g:Option (Nat×Bool)} {l:List EOp} {j T f:Nat} {x:X} (zs:List Int) (hg:gm S g) (hf:f=ρ.f 189) (hx:S.x x = .osl j) (hj:Zf S.ss j=some ⟨T,1,zs.map Zw4⟩) (hlen:zs.length<4611686018427387904)
  (h:V c fn K (.ops l::k) ((⟨S.tm,S.bs,Zg S.ss j (some ⟨T,1,(zs.mergeSort fun x y=>decide (x≤y)).map Zw4⟩)⟩:St).put d (.tup []))):V c fn K (.ops (⟨d,g,.call f [x]⟩::l)::k) S:=by
 subst hf
 exact Zy2 hg (sem_sort Ly hx hj hlen) rfl h
theorem sem_compact {ρ:Shelf.Ren} (Ly:Lays2.n20 c.P ρ) {j T:Nat} {x:X} {zs:List Int} (hx:S.x x = .osl j) (hj:Zf S.ss j=some ⟨T,1,zs.map Zw4⟩) (hlen:zs.length<4611686018427387904):
  Zx2 c S (.call (ρ.f 20) [x]) (.osl (Zj S.ss)) ⟨S.tm,S.bs,Zg S.ss j none++[some ⟨T,1,(Lib.compact zs).map Zw4⟩]⟩:=by
 intro ro ho M a w hT next Q hn
 obtain ⟨dst,op,ty,pos,af,gd⟩:=ro
 dsimp only at ho
 obtain ⟨cargs,argTypes,rfl,hfn,hxs⟩:=Z03 ho
 obtain ⟨q,rfl⟩:∃q,cargs = #[q]:=by
  have:cargs.toList.length=1:=by have:=congrArg List.length hxs;simpa using this
  obtain ⟨l⟩:=cargs
  match l,this with
  | [q],_=>exact ⟨q,rfl⟩
 have hqx:cX q=x:=by simpa using hxs
 have hq:=Zy1 hT q
 rw [hqx,hx] at hq
 obtain ⟨hjn,hq⟩:=hq
 have hS:=hT.st
 obtain ⟨g0,vss,h1,h2,h3,h4⟩:=hS.slc j _ hj
 dsimp only at h1 h3 g0
 have hfl:=isLL_ints h1
 have hrun:(execOp a.eval ⟨dst,.call ⟨.value (.func (ρ.f 20)), #[q],argTypes⟩,ty,pos,af,gd⟩).run c.P w = .ok (.enter (ρ.f 20) (#[q].map a.eval)) w:=by
  have he:a.eval (.func (ρ.f 20)) = .func (.func (ρ.f 20)) #[] #[]:=rfl
  generalize a.eval=ρ' at *
  simp [execOp,resolve,Deferred.ofValue,invoke,he,Zz2 hfn]
 have e1:(#[q].map a.eval) = #[M.σ j]:=by
  apply Array.ext';simp;exact hq
 rw [e1] at hrun
 unfold Oper.wp
 rw [hrun]
 show Calls c.P (ρ.f 20) #[M.σ j] w _
 obtain ⟨rs,hr1,hr2⟩:=Zbc (M:=M.pure) (Lib.compact zs)
 have hone:∀v∈rs.flatten,v.oneCell'=true:=by
  rw [hr2];intro v hv
  obtain ⟨z,_,rfl⟩:=List.mem_map.1 hv;rfl
 have hcl:=Lib.compact_length_le zs
 have hsub:∀i N,Zf (Zg S.ss j none) i=some N→Zf S.ss i=some N∧∀g,(M.σ j).ownBlock=some g→(M.σ i).ownBlock≠some g:=by
  intro i N hi
  rw [Zb1] at hi
  split at hi
  ·simp at hi
  ·rename_i e
   refine ⟨hi,fun g hg e2=>e ⟨?_,Zd1 hj⟩⟩
   exact hS.d3 i j N _ g hi hj e2 hg
 have fin:∀v' w',w.grownBy w' (M.σ j).ownBlock→v'.ownBlock=(M.σ j).ownBlock→w'.ownsRow 0 T 1 v' (Lib.compact zs).length rs.flatten→next (a.put dst v') w':=fun v' w' hg hv hrow=>by
  have hr:RelS c (M.addS v') S.bs (Zg S.ss j none++[some (⟨T,1,(Lib.compact zs).map Zw4⟩:Sl)]) w':=
   RelS.grown (v:=M.σ j) (vss:=rs) hS (Zc1 _ _ _) hsub (.inr fun i B hi=>hS.d2 i j B _ hi hj) h4 hg (.inl hv) g0 hr1 hone (by simpa using hrow)
  refine hn (M.addS v') w' v' (Mem.le_addS M v') hr ?_
  rw [Z71,←hS.ns]
  exact ⟨Nat.lt_succ_self _,by simp [Mem.addS]⟩
 rcases h3.2 with ⟨e2,e3⟩ | ⟨g,cap,cur,e2,hb,e3,e4,e5,e6,e7⟩
 ·have hz:zs=[]:=by simpa using e3
  subst hz
  rw [e2] at fin ⊢
  refine (Any.slices_Compact_int_empty Ly none 0 w).mono ?_
  rintro e w' ⟨rfl,rfl⟩
  refine fin _ _ ⟨rfl,rfl,rfl,Nat.le_refl _,fun _ _ _=>rfl⟩ rfl ?_
  rw [hr2]
  exact World.ownsRow_nil _ _ _ _
 ·have e4':zs.length≤cap:=by simpa using e4
  rw [e2] at fin ⊢
  simp only [List.length_map]
  rw [Nat.mul_one,List.length_map] at e7
  rw [hfl] at e7
  refine (Any.slices_Compact_int Ly g 0 cap zs w (holds_of_blockI e3 e7) (by omega) e4').mono ?_
  rintro e w' ⟨rfl,n,rfl⟩
  have hgr:=grownBy_sortedI (w:=w) (g:=g) (n:=n) (os:= #[]) (Lib.compact zs++List.replicate (zs.length-(Lib.compact zs).length) 0).toArray
  have hhp:=heap_sortedI (w:=w) (g:=g) (n:=n) (os:= #[]) (Lib.compact zs++List.replicate (zs.length-(Lib.compact zs).length) 0).toArray e3
  rw [Sort.grow_empty] at hgr hhp
  refine fin _ _ hgr rfl ⟨by rw [hr2];simp,.inr ⟨g,cap,_,rfl,hb,hhp,by omega,e5,by simp [Sort.putCells,e6],?_⟩⟩
  have htk:=take_putCellsI cur (Lib.compact zs++List.replicate (zs.length-(Lib.compact zs).length) 0) (by simp;omega)
  rw [hr2,Nat.mul_one]
  have:=congrArg (List.take (Lib.compact zs).length) htk
  rw [List.take_take,List.map_append,List.take_append_of_le_length (by simp)] at this
  rw [Nat.min_eq_left (by simp)] at this
  rw [this,List.take_of_length_le (by simp)]
theorem V_compact {ρ:Shelf.Ren} (Ly:Lays2.n20 c.P ρ) {d:Option Nat} {g:Option (Nat×Bool)} {l:List EOp} {j T f:Nat} {x:X} (zs:List Int) (hg:gm S g) (hf:f=ρ.f 20) (hx:S.x x = .osl j) (hj:Zf S.ss j=some ⟨T,1,zs.map Zw4⟩) (hlen:zs.length<4611686018427387904)
  (h:V c fn K (.ops l::k) ((⟨S.tm,S.bs,Zg S.ss j none++[some ⟨T,1,(Lib.compact zs).map Zw4⟩]⟩:St).put d (.osl (Zj S.ss)))):V c fn K (.ops (⟨d,g,.call f [x]⟩::l)::k) S:=by
 subst hf
 exact Zy2 hg (sem_compact Ly hx hj hlen) rfl h
end
end NX
end Go.Proofs.YtacfbmldajmjiaaGreat
/-
  The function narthex/set.Of: its code compiled, a model, and that the code answers as the model. Written by a program of ours (lb.py). No statement of the seat is proved here.
-/
namespace Go.Proofs.YtacfbmldajmjiaaGreat
namespace NX
open Go
set_option maxRecDepth 100000
def laysSort_ren:Go.Shelf.Ren:=⟨(fun | 189=>147 | 125=>164 | 257=>163 | 128=>192 | 129=>193 | 294=>183 | 295=>184 | 296=>185 | 297=>186 | 298=>187 | 299=>188 | 216=>189 | 300=>190 | 301=>191 | 328=>198 | 329=>199 | 330=>200 | 331=>201 | 332=>202 | 215=>197 | 343=>203 | n=>n),(fun | 28=>26 | 3=>3 | 46=>182 | 0=>0 | 51=>198 | 53=>201 | 4=>4 | 183=>212 | 182=>211 | 131=>217 | 5=>5 | 9=>9 | 218=>223 | 222=>227 | 228=>229 | 229=>230 | n=>n),(fun | n=>n)⟩
theorem laysSort:Lays.n189 Tryz.prog laysSort_ren where
 mixed:=by kernel_rfl
 f125:=Tryz.func164.trans (congrArg some (by kernel_rfl))
 f128:=Tryz.func192.trans (congrArg some (by kernel_rfl))
 f129:=Tryz.func193.trans (congrArg some (by kernel_rfl))
 f189:=Tryz.func147.trans (congrArg some (by kernel_rfl))
 f215:=Tryz.func197.trans (congrArg some (by kernel_rfl))
 f216:=Tryz.func189.trans (congrArg some (by kernel_rfl))
 f257:=Tryz.func163.trans (congrArg some (by kernel_rfl))
 f294:=Tryz.func183.trans (congrArg some (by kernel_rfl))
 f295:=Tryz.func184.trans (congrArg some (by kernel_rfl))
 f296:=Tryz.func185.trans (congrArg some (by kernel_rfl))
 f297:=Tryz.func186.trans (congrArg some (by kernel_rfl))
 f298:=Tryz.func187.trans (congrArg some (by kernel_rfl))
 f299:=Tryz.func188.trans (congrArg some (by kernel_rfl))
 f300:=Tryz.func190.trans (congrArg some (by kernel_rfl))
 f301:=Tryz.func191.trans (congrArg some (by kernel_rfl))
 f328:=Tryz.func198.trans (congrArg some (by kernel_rfl))
 f329:=Tryz.func199.trans (congrArg some (by kernel_rfl))
 f330:=Tryz.func200.trans (congrArg some (by kernel_rfl))
 f331:=Tryz.func201.trans (congrArg some (by kernel_rfl))
 f332:=Tryz.func202.trans (congrArg some (by kernel_rfl))
 f343:=Tryz.func203.trans (congrArg some (by kernel_rfl))
 t0:=Tryz.underlying0
 a0:=Tryz.isAgg0
 z0:=Tryz.sizeOf0
 v0:=Tryz.zeroValue0
 t3:=Tryz.underlying3
 a3:=Tryz.isAgg3
 z3:=Tryz.sizeOf3
 v3:=Tryz.zeroValue3
 t4:=Tryz.underlying4
 a4:=Tryz.isAgg4
 z4:=Tryz.sizeOf4
 v4:=Tryz.zeroValue4
 t5:=Tryz.underlying5
 a5:=Tryz.isAgg5
 z5:=Tryz.sizeOf5
 v5:=Tryz.zeroValue5
 t9:=Tryz.underlying9
 a9:=Tryz.isAgg9
 z9:=Tryz.sizeOf9
 v9:=Tryz.zeroValue9
 t28:=Tryz.underlying26
 a28:=Tryz.isAgg26
 z28:=Tryz.sizeOf26
 v28:=Tryz.zeroValue26
 t46:=Tryz.underlying182
 a46:=Tryz.isAgg182
 z46:=Tryz.sizeOf182
 v46:=Tryz.zeroValue182
 t51:=Tryz.underlying198
 a51:=Tryz.isAgg198
 z51:=Tryz.sizeOf198
 v51:=Tryz.zeroValue198
 t53:=Tryz.underlying201
 a53:=Tryz.isAgg201
 z53:=Tryz.sizeOf201
 v53:=Tryz.zeroValue201
 t131:=Tryz.underlying217
 a131:=Tryz.isAgg217
 z131:=Tryz.sizeOf217
 v131:=Tryz.zeroValue217
 t182:=Tryz.underlying211
 a182:=Tryz.isAgg211
 z182:=Tryz.sizeOf211
 v182:=Tryz.zeroValue211
 t183:=Tryz.underlying212
 a183:=Tryz.isAgg212
 z183:=Tryz.sizeOf212
 v183:=Tryz.zeroValue212
 t218:=Tryz.underlying223
 a218:=Tryz.isAgg223
 z218:=Tryz.sizeOf223
 v218:=Tryz.zeroValue223
 t222:=Tryz.underlying227
 a222:=Tryz.isAgg227
 z222:=Tryz.sizeOf227
 v222:=Tryz.zeroValue227
 t228:=Tryz.underlying229
 a228:=Tryz.isAgg229
 z228:=Tryz.sizeOf229
 v228:=Tryz.zeroValue229
 t229:=Tryz.underlying230
 a229:=Tryz.isAgg230
 z229:=Tryz.sizeOf230
 v229:=Tryz.zeroValue230
def Zcc:Go.Shelf.Ren:=⟨(fun | 20=>148 | n=>n),(fun | 22=>26 | 3=>3 | 4=>4 | 0=>0 | n=>n),(fun | n=>n)⟩
theorem laysCompact:Lays2.n20 Tryz.prog Zcc where
 mixed:=by kernel_rfl
 f20:=Tryz.func148.trans (congrArg some (by kernel_rfl))
 t0:=Tryz.underlying0
 a0:=Tryz.isAgg0
 z0:=Tryz.sizeOf0
 v0:=Tryz.zeroValue0
 t3:=Tryz.underlying3
 a3:=Tryz.isAgg3
 z3:=Tryz.sizeOf3
 v3:=Tryz.zeroValue3
 t4:=Tryz.underlying4
 a4:=Tryz.isAgg4
 z4:=Tryz.sizeOf4
 v4:=Tryz.zeroValue4
 t22:=Tryz.underlying26
 a22:=Tryz.isAgg26
 z22:=Tryz.sizeOf26
 v22:=Tryz.zeroValue26
 i3:=by kernel_rfl
@[go_sem] def e123:EC:=.seq (.reg [(Qa 2 (.mv (.c .nl)))]) (.seq (.reg [(Qm 4 0),(Qa 5 (.call 136 [(.t 4)])),(Qm 3 5)]) (.seq (.reg [(Qm 6 3),(Qa 7 (.call 147 [(.t 6)]))]) (.seq (.reg [(Qm 8 3),(Qa 9 (.call 148 [(.t 8)])),(Qm 2 9)]) (.ret))))
theorem ok123:FnOK Tryz.prog 123 Tryz.f123 e123 [.t 2] 1 9:=⟨by kernel_rfl,⟨_,rfl,by kernel_rfl⟩,by kernel_rfl,by kernel_rfl⟩
noncomputable def Zdc (x1:List Int):Option (List Int):=
 (Zv9 x1).bind fun x2=>
 ifb (decide (x2.length<4611686018427387904)) (
 some (Lib.compact (x2.mergeSort fun x y=>decide (x≤y)))) none
theorem k_set_Of (x1:List Int) (r:List Int) (h:Zdc x1=some r):Zs2 Tryz.prog 123 [.sl 1 (List.map Zw4 x1)] (.sl 1 (List.map Zw4 r)):=by
 refine Zw2 ok123 rfl rfl fun w0 H0=>?_
 rw [Zdc] at h
 refine Zn2 100 ?_
 dsimp only [e123,go_sem]
 refine ⟨by simp,?_⟩
 obtain ⟨x2,ex2,h⟩:=Option.bind_eq_some_iff.1 h
 refine Z45 trivial (Zw9 x1 _ ex2) (by first | exact Za4 _ | simp [go_sem]) (by first | rfl | simp [go_sem]) ?_
 refine Zn2 100 ?_
 dsimp only [e123,go_sem]
 refine ⟨by simp,?_⟩
 by_cases hl:x2.length<4611686018427387904
 ·rw [show decide (x2.length<4611686018427387904)=true from decide_eq_true hl] at h
  have h:some (Lib.compact (x2.mergeSort fun x y=>decide (x≤y)))=some r:=h
  refine V_sort laysSort x2 trivial (by kernel_rfl) rfl rfl hl ?_
  refine Zn2 100 ?_
  dsimp only [e123,go_sem]
  refine ⟨by simp,?_⟩
  refine V_compact laysCompact (x2.mergeSort fun x y=>decide (x≤y)) trivial (by kernel_rfl) rfl rfl (by simpa using hl) ?_
  refine Zn2 100 ?_
  dsimp only [e123,go_sem]
  refine ⟨by simp,?_⟩
  refine Za3 1 rfl ?_
  dsimp only [go_sem]
  exact Zq4 (res:=fun (r:List Int)=>.sl 1 (List.map Zw4 r)) ok123 h (by first | exact le_refl _ | simp [go_sem])
 ·rw [show decide (x2.length<4611686018427387904)=false from decide_eq_false hl] at h
  cases h
set_option maxRecDepth 100000
set_option maxHeartbeats 4000000
@[go_sem] def e152_L0:EC:=.seq (.reg [(Qa 15 (.bin .lss (.t 14) (.t 13)))]) (.seq (.ite (.t 15) (.skip) (.exit 0)) (.seq (.blk 1 (.seq (.reg [(Qk 16 2 12 14),(Qe 17 2 16),(Qa 7 (.alloc 30 [.iv 0,.iv 0])),(Qs 2 7 17)]) (.seq (.reg [(Qm 18 1)]) (.blk 2 (.seq (.reg [(Qf 20 0 7),(Ql 21 20),(Qa 22 (.bin .eql (.t 18) (.t 21))),(Qm 19 22)]) (.ite (.t 19) (.reg [(Qm 23 5),(Qf 24 1 7),(Ql 25 24),(Qa 26 (.bsl 3 1 1 [.iv 0] [(0,(.t 25))])),(Qa 27 (.app 3 1 8 (.t 23) (.t 26))),(Qm 5 27)]) (.seq (.reg [(Qf 29 1 7),(Ql 30 29),(Qa 31 (.bin .eql (.t 18) (.t 30))),(Qm 28 31)]) (.ite (.t 28) (.reg [(Qm 32 5),(Qf 33 0 7),(Ql 34 33),(Qa 35 (.bsl 3 1 1 [.iv 0] [(0,(.t 34))])),(Qa 36 (.app 3 1 8 (.t 32) (.t 35))),(Qm 5 36)]) (.skip))))))))) (.reg [(Qv 37 14 1),(Qm 14 37)])))
@[go_sem] def e152:EC:=.seq (.reg [(Qx 2 53 2 0),(Qa 4 (.mv (.c .nl)))]) (.seq (.seq (.reg [(Qe 8 2 2),(Qa 9 (.call 144 [(.t 8)])),(Qa 10 (.bin .neq (.t 9) (.c (.iv 0))))]) (.ite (.t 10) (.seq (.reg [(Qa 4 (.mv (.c .nl)))]) (.ret)) (.skip))) (.seq (.reg [(Qa 5 (.mv (.c .nl)))]) (.seq (.seq (.reg [(Qf 11 1 2),(Ql 12 11),(Qa 13 (.len (.t 12))),(Qi 14 0)]) (.blk 0 (.loop e152_L0))) (.seq (.reg [(Qm 38 5),(Qa 39 (.call 123 [(.t 38)])),(Qm 4 39)]) (.ret)))))
theorem ok152:FnOK Tryz.prog 152 Tryz.f152 e152 [.t 4] 2 38:=⟨by kernel_rfl,⟨_,rfl,by kernel_rfl⟩,by kernel_rfl,by kernel_rfl⟩
noncomputable def Zec:(List Int)→Option (List Int)
| x23=>
 (Zdc x23).bind fun x24=>
 some x24
noncomputable def Zfc (x10:Int):(List Int)→Option ((Int×(List Int)) ⊕ (List Int))
| x15=>
 some (.inl (wr (x10+1),x15))
noncomputable def Zgc (x1:Graph) (x2:Int):(Int×(List Int))→Option ((Int×(List Int)) ⊕ (List Int))
| (x10,x11)=>
 ifb (decide (x10<(ln Edge.row x1.Edges))) (
 (at_ x1.Edges x10).bind fun x12=>
 ifb (decide (x2=x12.A)) (
 (Zb4 8 x11 ([x12.B])).bind fun x13=>
 (Zfc x10) x13) (
 ifb (decide (x2=x12.B)) (
 (Zb4 8 x11 ([x12.A])).bind fun x14=>
 (Zfc x10) x14) (
 (Zfc x10) x11))) (
 Option.map Sum.inr (Zec x11))
noncomputable def Zhc (x1:Graph) (x2:Int):Option (List Int):=
 (Zz6 x1).bind fun x3=>
 ifb (!decide (x3=0)) (
 some ([]:(List Int))) (
 loop (Zgc x1 x2) (0,([]:List Int)))
theorem Zic (x1:Graph) (x2:Int) (r:(List Int)) (h:Zhc x1 x2=some r):Zs2 Tryz.prog 152 [.agg (Graph.row x1),.iv x2] (.sl 1 (List.map Zw4 r)):=by
 refine Zw2 ok152 rfl rfl fun w0 H0=>?_
 rw [Zhc] at h
 refine Zn2 9 ?_;dsimp only [go_sem];refine An ?_;obtain ⟨x3,ex3,h⟩:=Bs h;refine Z13 trivial (Z07 x1 _ ex3) (h:=?_);refine Zn2 2 ?_;dsimp only [go_sem];refine An ?_;refine Zi4 h rfl (fun _ h=>?_) fun _ h=>?_
 ·refine Zn2 4 ?_;dsimp only [go_sem];refine An ?_;exact Zq4 (res:=fun (r:(List Int))=>.sl 1 (List.map Zw4 r)) ok152 h
 ·refine Zn2 13 ?_;dsimp only [go_sem];refine An ?_;refine Zg4 (fun (x23:(List Int))=>(⟨(an 5 (.osl 0::an 34 [])),[],[some ⟨3,1,List.map Zw4 x23⟩]⟩:St)) Zec r ?_ fun J1=>?_
  ·intro x23 h;rw [Zec] at h;(try dsimp only);refine Zn2 3 ?_;dsimp only [go_sem];refine An ?_;refine Za3 0 rfl ?_;dsimp only [go_sem];obtain ⟨x24,ex24,h⟩:=Bs h;refine Z13 trivial (k_set_Of x23 _ ex24) (h:=?_);refine Zn2 2 ?_;dsimp only [go_sem];refine An ?_;exact Zq4 (res:=fun (r:(List Int))=>.sl 1 (List.map Zw4 r)) ok152 h
  ·refine Zn2 1 ?_;dsimp only [go_sem];refine An ?_;refine V_own 5 3 1 rfl rfl ?_;dsimp only [go_sem];refine Zh4 h (fun ((x10,x11):(Int×(List Int)))=>(⟨(.any :: .iv x2::an 3 (.osl 0::an 6 (.sl 2 (List.map Edge.row x1.Edges) :: .iv (ln Edge.row x1.Edges) :: .iv x10::an 25 []))),[],[some ⟨3,1,List.map Zw4 x11⟩]⟩:St)) (by simp [go_sem]) (by rintro ⟨x10,x11⟩;first | rfl | simp [go_sem]) ?_;rintro n1 ⟨x10,x11⟩ y1 h hin1 hout1;rw [Zgc] at h;(try dsimp only);refine Zn2 5 ?_;dsimp only [go_sem];refine An ?_
   refine Zi4 h rfl (fun _ h=>?_) fun _ h=>?_
   ·refine Zn2 5 ?_;dsimp only [go_sem];refine An ?_;obtain ⟨x12,ex12,h⟩:=Bs h;refine Zl4 Edge.row ex12 trivial rfl rfl rfl ?_;refine Zn2 16 ?_;dsimp only [go_sem];refine An ?_;refine Zg4 (fun (x15:(List Int))=>(⟨(.any :: .iv x2::an 3 (.osl 0::an 6 (.sl 2 (List.map Edge.row x1.Edges) :: .iv (ln Edge.row x1.Edges) :: .iv x10::an 25 []))),[],[some ⟨3,1,List.map Zw4 x15⟩]⟩:St)) (Zfc x10) y1 ?_ fun J2=>?_
    ·intro x15 h;rw [Zfc] at h;(try dsimp only);refine Zn2 6 ?_;dsimp only [go_sem];refine An ?_;exact Zr4 h hin1
    ·refine Zi4 h rfl (fun _ h=>?_) fun _ h=>?_
     ·refine Zn2 5 ?_;dsimp only [go_sem];refine An ?_;obtain ⟨x13,ex13,h⟩:=Bs h;refine Zn4 Zw4 ex13 trivial rfl rfl rfl ?_;refine Zn2 2 ?_;dsimp only [go_sem];refine An ?_;refine Z44 2 0 rfl rfl rfl ?_;dsimp only [go_sem];exact Zs4 J2 (s:=x13) h
     ·refine Zn2 7 ?_;dsimp only [go_sem];refine An ?_;refine Zi4 h rfl (fun _ h=>?_) fun _ h=>?_
      ·refine Zn2 5 ?_;dsimp only [go_sem];refine An ?_;obtain ⟨x14,ex14,h⟩:=Bs h;refine Zn4 Zw4 ex14 trivial rfl rfl rfl ?_;refine Zn2 2 ?_;dsimp only [go_sem];refine An ?_;refine Z44 2 0 rfl rfl rfl ?_;dsimp only [go_sem];exact Zs4 J2 (s:=x14) h
      ·refine Zn2 1 ?_;dsimp only [go_sem];refine An ?_;exact Zs4 J2 (s:=x11) h
   ·refine Zn2 1 ?_;dsimp only [go_sem];refine An ?_;exact Zs4 J1 (s:=x11) (Zf4 h hout1)
set_option maxRecDepth 100000
set_option maxHeartbeats 4000000
@[go_sem] def e125_L1:EC:=.seq (.reg [(Qa 34 (.bin .lss (.t 33) (.t 32)))]) (.seq (.ite (.t 34) (.skip) (.exit 2)) (.seq (.blk 3 (.seq (.reg [(Qk 35 1 31 33),(Ql 36 35),(Qm 11 36)]) (.seq (.drw [(Qm 37 1),(Qm 38 8),(Qk 39 1 37 38),(Ql 40 39),(Qm 41 1),(Qm 42 11),(Qk 43 1 41 42),(Ql 44 43),(Qa 45 (.bin .gtr (.t 40) (.t 44))),(Qm 12 45)] [[],[],[0,1],[2],[],[],[4,5],[6],[3,7],[8,0,1,2,3,4,5,6,7,8]] [[2],[2],[0,1,3],[2,8],[6],[6],[4,5,7],[6,8],[3,7,9],[8]]) (.reg [(Qf 46 2 9),(Ql 47 46),(Qm 48 11),(Qm 49 12),(Qm 50 12),(Qm 51 12),(Qm 52 12),(Qa 53 (.not (.t 52))),(Qm 54 12),(Qa 55 (.not (.t 54))),(Qa 56 (.build [.iv 0,.iv 0,.iv 0,.ff,.ff,.ff,.ff,.ff] [(0,1,(.t 48)),(1,1,(.c (.iv 1))),(3,1,(.t 49)),(4,1,(.t 50)),(6,1,(.t 51)),(5,1,(.t 53)),(7,1,(.t 55))])),(Qa 57 (.bsl 66 8 1 [.iv 0,.iv 0,.iv 0,.ff,.ff,.ff,.ff,.ff] [(0,(.t 56))])),(Qa 58 (.app 66 8 32 (.t 47) (.t 57))),(Qf 59 2 9),(Qs 1 59 58)])))) (.reg [(Qv 60 33 1),(Qm 33 60)])))
@[go_sem] def e125_L0:EC:=.seq (.reg [(Qa 25 (.bin .lss (.t 24) (.t 23)))]) (.seq (.ite (.t 25) (.skip) (.exit 0)) (.seq (.blk 1 (.seq (.reg [(Qm 26 24),(Qm 8 26)]) (.seq (.reg [(Qm 27 8),(Qa 28 (.build [.iv 0,.iv 0,.nl] [(0,1,(.t 27))])),(Qa 9 (.alloc 61 [.iv 0,.iv 0,.nl])),(Qs 3 9 28)]) (.seq (.seq (.reg [(Qe 29 2 2),(Qm 30 8),(Qa 31 (.call 152 [(.t 29),(.t 30)])),(Qa 32 (.len (.t 31))),(Qi 33 0)]) (.blk 2 (.loop e125_L1))) (.reg [(Qm 61 7),(Qe 62 3 9),(Qa 63 (.bsl 61 3 1 [.iv 0,.iv 0,.nl] [(0,(.t 62))])),(Qa 64 (.app 61 3 40 (.t 61) (.t 63))),(Qm 7 64)]))))) (.reg [(Qv 65 24 1),(Qm 24 65)])))
@[go_sem] def e125:EC:=.seq (.reg [(Qx 2 53 2 0),(Qa 4 (.mv (.c .nl))),(Qi 5 0)]) (.seq (.seq (.reg [(Qe 13 2 2),(Qa 14 (.call 144 [(.t 13)])),(Qm 6 14)]) (.seq (.reg [(Qm 15 6),(Qa 16 (.bin .neq (.t 15) (.c (.iv 0))))]) (.ite (.t 16) (.seq (.reg [(Qm 17 6),(Qa 4 (.mv (.c .nl))),(Qm 5 17)]) (.ret)) (.skip)))) (.seq (.seq (.reg [(Qe 18 2 2),(Qm 19 1),(Qa 20 (.call 151 [(.t 18),(.t 19)])),(Qa 21 (.not (.t 20)))]) (.ite (.t 21) (.seq (.reg [(Qa 4 (.mv (.c .nl))),(Qi 5 120)]) (.ret)) (.skip))) (.seq (.reg [(Qa 7 (.mv (.c .nl)))]) (.seq (.seq (.reg [(Qf 22 0 2),(Ql 23 22),(Qi 24 0)]) (.blk 0 (.loop e125_L0))) (.seq (.reg [(Qm 66 7),(Qm 4 66),(Qi 5 0)]) (.ret))))))
theorem ok125:FnOK Tryz.prog 125 Tryz.f125 e125 [.t 4,.t 5] 2 65:=⟨by kernel_rfl,⟨_,rfl,by kernel_rfl⟩,by kernel_rfl,by kernel_rfl⟩
noncomputable def Zjc:(List Diner)→Option ((List Diner)×Int)
| x68=>
 some (x68,0)
noncomputable def Zkc (x31:Int) (x32:(List Diner)):(List Side)→Option ((Int×(List Diner)) ⊕ ((List Diner)×Int))
| x59=>
 (Zb4 40 x32 ([(Diner.mk x31 0 x59)])).bind fun x60=>
 some (.inl (wr (x31+1),x60))
noncomputable def Zlc (x2:(List Int)) (x31:Int) (x32:(List Diner)) (x33:(List Int)):(Int×(List Side))→Option ((Int×(List Side)) ⊕ ((Int×(List Diner)) ⊕ ((List Diner)×Int)))
| (x40,x41)=>
 ifb (decide (x40<(ln Zw4 x33))) (
 (at_ x33 x40).bind fun x42=>
 (at_ x2 x31).bind fun x43=>
 (at_ x2 x42).bind fun x44=>
 (Zb4 32 x41 ([(Side.mk x42 1 0 (decide (x44<x43)) (decide (x44<x43)) (!(decide (x44<x43))) (decide (x44<x43)) (!(decide (x44<x43))))])).bind fun x45=>
 some (.inl (wr (x40+1),x45))) (
 Option.map Sum.inr ((Zkc x31 x32) x41))
noncomputable def Zmc (x1:Graph) (x2:(List Int)):(Int×(List Diner))→Option ((Int×(List Diner)) ⊕ ((List Diner)×Int))
| (x31,x32)=>
 ifb (decide (x31<x1.N)) (
 (Zhc x1 x31).bind fun x33=>
 loop (Zlc x2 x31 x32 x33) (0,([]:List Side))) (
 Option.map Sum.inr (Zjc x32))
noncomputable def Znc (x1:Graph) (x2:(List Int)):Option ((List Diner)×Int):=
 (Zz6 x1).bind fun x3=>
 ifb (!decide (x3=0)) (
 some (([]:(List Diner)),x3)) (
 (Zqb x1 x2).bind fun x4=>
 ifb (!x4) (
 some (([]:(List Diner)),120)) (
 loop (Zmc x1 x2) (0,([]:List Diner))))
theorem k_place_Table (x1:Graph) (x2:(List Int)) (r:((List Diner)×Int)) (h:Znc x1 x2=some r):Zs2 Tryz.prog 125 [.agg (Graph.row x1),.sl 1 (List.map Zw4 x2)] (.tup [.sl 3 (List.map Diner.row r.1),.iv r.2]):=by
 refine Zw2 ok125 rfl rfl fun w0 H0=>?_
 rw [Znc] at h
 refine Zn2 10 ?_;dsimp only [go_sem];refine An ?_;obtain ⟨x3,ex3,h⟩:=Bs h;refine Z13 trivial (Z07 x1 _ ex3) (h:=?_);refine Zn2 7 ?_;dsimp only [go_sem];refine An ?_;refine Zi4 h rfl (fun _ h=>?_) fun _ h=>?_
 ·refine Zn2 6 ?_;dsimp only [go_sem];refine An ?_;exact Zq4 (res:=fun (r:((List Diner)×Int))=>.tup [.sl 3 (List.map Diner.row r.1),.iv r.2]) ok125 h
 ·refine Zn2 6 ?_;dsimp only [go_sem];refine An ?_;obtain ⟨x4,ex4,h⟩:=Bs h;refine Z13 trivial (Zrb x1 x2 _ ex4) (h:=?_);refine Zn2 2 ?_;dsimp only [go_sem];refine An ?_;refine Zi4 h rfl (fun _ h=>?_) fun _ h=>?_
  ·refine Zn2 5 ?_;dsimp only [go_sem];refine An ?_;exact Zq4 (res:=fun (r:((List Diner)×Int))=>.tup [.sl 3 (List.map Diner.row r.1),.iv r.2]) ok125 h
  ·refine Zn2 12 ?_;dsimp only [go_sem];refine An ?_;refine Zg4 (fun (x68:(List Diner))=>(⟨(an 7 (.osl 0::an 59 [])),[],[some ⟨61,3,List.map Diner.row x68⟩]⟩:St)) Zjc r ?_ fun J1=>?_
   ·intro x68 h;rw [Zjc] at h;(try dsimp only);refine Zn2 6 ?_;dsimp only [go_sem];refine An ?_;refine Za3 0 rfl ?_;dsimp only [go_sem];exact Zq4 (res:=fun (r:((List Diner)×Int))=>.tup [.sl 3 (List.map Diner.row r.1),.iv r.2]) ok125 h
   ·refine Zn2 1 ?_;dsimp only [go_sem];refine An ?_;refine V_own 7 61 3 rfl rfl ?_;dsimp only [go_sem];refine Zh4 h (fun ((x31,x32):(Int×(List Diner)))=>(⟨(.any :: .sl 1 (List.map Zw4 x2) :: .ptr 0 0::an 4 (.osl 0::an 15 (.iv x1.N :: .iv x31::an 42 []))),[some ⟨53,[.iv x1.N,.sl 2 (List.map Edge.row x1.Edges)]⟩],[some ⟨61,3,List.map Diner.row x32⟩]⟩:St)) (by simp [go_sem]) (by rintro ⟨x31,x32⟩;first | rfl | simp [go_sem]) ?_;rintro n1 ⟨x31,x32⟩ y1 h hin1 hout1;rw [Zmc] at h;(try dsimp only);refine Zn2 5 ?_;dsimp only [go_sem]
    refine An ?_;refine Zi4 h rfl (fun _ h=>?_) fun _ h=>?_
    ·refine Zn2 20 ?_;dsimp only [go_sem];refine An ?_;obtain ⟨x33,ex33,h⟩:=Bs h;refine Z13 trivial (Zic x1 x31 _ ex33) (h:=?_);refine Zn2 3 ?_;dsimp only [go_sem];refine An ?_
     refine Zg4 (fun (x59:(List Side))=>(⟨(.any :: .sl 1 (List.map Zw4 x2) :: .ptr 0 0::an 4 (.osl 0 :: .any :: .ptr 1 0::an 13 (.iv x1.N :: .iv x31::an 42 []))),[some ⟨53,[.iv x1.N,.sl 2 (List.map Edge.row x1.Edges)]⟩,some ⟨61,[.iv x31,.iv 0,.osl 1]⟩],[some ⟨61,3,List.map Diner.row x32⟩,some ⟨66,8,List.map Side.row x59⟩]⟩:St)) (Zkc x31 x32) y1 ?_ fun J2=>?_
     ·intro x59 h;rw [Zkc] at h;(try dsimp only);refine Zn2 3 ?_;dsimp only [go_sem];refine An ?_;refine Za3 1 rfl ?_;dsimp only [go_sem];refine Zn2 1 ?_;dsimp only [go_sem];refine An ?_;obtain ⟨x60,ex60,h⟩:=Bs h;refine Zn4 Diner.row ex60 trivial rfl rfl rfl ?_;refine Zn2 7 ?_;dsimp only [go_sem];refine An ?_;refine Z44 3 0 rfl rfl rfl ?_;dsimp only [go_sem];exact Zr4 h hin1
     ·refine Zn2 1 ?_;dsimp only [go_sem];refine An ?_;refine Z54 1 2 66 8 rfl rfl rfl ?_;dsimp only [go_sem]
      refine Zh4 h (fun ((x40,x41):(Int×(List Side)))=>(⟨(.any :: .sl 1 (List.map Zw4 x2) :: .ptr 0 0::an 4 (.osl 0 :: .iv x31 :: .ptr 1 0::an 13 (.iv x1.N :: .iv x31::an 6 (.sl 1 (List.map Zw4 x33) :: .iv (ln Zw4 x33) :: .iv x40::an 33 [])))),[some ⟨53,[.iv x1.N,.sl 2 (List.map Edge.row x1.Edges)]⟩,some ⟨61,[.iv x31,.iv 0,.osl 1]⟩],[some ⟨61,3,List.map Diner.row x32⟩,some ⟨66,8,List.map Side.row x41⟩]⟩:St)) (by simp [go_sem]) (by rintro ⟨x40,x41⟩;first | rfl | simp [go_sem]) ?_;rintro n2 ⟨x40,x41⟩ y2 h hin2 hout2;rw [Zlc] at h
      (try dsimp only);refine Zn2 5 ?_;dsimp only [go_sem];refine An ?_;refine Zi4 h rfl (fun _ h=>?_) fun _ h=>?_
      ·refine Zn2 5 ?_;dsimp only [go_sem];refine An ?_;obtain ⟨x42,ex42,h⟩:=Bs h;refine Zl4 Zw4 ex42 trivial rfl rfl rfl ?_;refine Zn2 4 ?_;dsimp only [go_sem];refine An ?_;refine Zi3 (by kernel_rfl) fun all hall hs hnap haf=>?_;dsimp only [go_sem];refine Z65 hall hs haf hnap 4 6 ?_;dsimp only [go_sem];refine An ?_;obtain ⟨x43,ex43,h⟩:=Bs h;refine Zm4 hall hs haf hnap 2 Zw4 ex43 rfl rfl trivial rfl rfl rfl rfl ?_;refine Z65 hall hs haf hnap 1 4 ?_;dsimp only [go_sem];refine An ?_;obtain ⟨x44,ex44,h⟩:=Bs h
       refine Zm4 hall hs haf hnap 6 Zw4 ex44 rfl rfl trivial rfl rfl rfl rfl ?_;refine Z65 hall hs haf hnap 3 0 ?_;dsimp only [go_sem];refine An ?_;refine Zs3 rfl ?_ _;refine Zn2 13 ?_;dsimp only [go_sem];refine An ?_;obtain ⟨x45,ex45,h⟩:=Bs h;refine Zn4 Side.row ex45 trivial rfl rfl rfl ?_;refine Zn2 8 ?_;dsimp only [go_sem];refine An ?_;refine Z44 3 1 rfl rfl rfl ?_;dsimp only [go_sem];exact Zr4 h hin2
      ·refine Zn2 1 ?_;dsimp only [go_sem];refine An ?_;exact Zs4 J2 (s:=x41) (Zf4 h hout2)
    ·refine Zn2 1 ?_;dsimp only [go_sem];refine An ?_;exact Zs4 J1 (s:=x32) (Zf4 h hout1)
set_option maxRecDepth 100000
set_option maxHeartbeats 4000000
theorem pw_ext {α:Type} {R:α→α→Prop} (irr:∀x,¬R x x) (asy:∀x y,R x y→¬R y x):∀ {l m:List α},l.Pairwise R→m.Pairwise R→(∀x,x∈l↔x∈m)→l=m
 | [],[],_,_,_=>rfl
 | [],y::m,_,_,h=>absurd ((h y).2 (by simp)) (by simp)
 | x::l,[],_,_,h=>absurd ((h x).1 (by simp)) (by simp)
 | x::l,y::m,hl,hm,h=>by
   rw [List.pairwise_cons] at hl hm
   have hxy:x=y:=by
    rcases List.mem_cons.1 ((h x).1 (by simp)) with e | e
    ·exact e
    ·rcases List.mem_cons.1 ((h y).2 (by simp)) with e2 | e2
     ·exact e2.symm
     ·exact absurd (hl.1 y e2) (asy _ _ (hm.1 x e))
   subst hxy
   rw [pw_ext irr asy hl.2 hm.2 fun z=>?_]
   constructor
   ·intro hz
    rcases List.mem_cons.1 ((h z).1 (List.mem_cons_of_mem _ hz)) with e | e
    ·subst e;exact absurd (hl.1 z hz) (irr z)
    ·exact e
   ·intro hz
    rcases List.mem_cons.1 ((h z).2 (List.mem_cons_of_mem _ hz)) with e | e
    ·subst e;exact absurd (hm.1 z hz) (irr z)
    ·exact e
theorem Edge.lt_trans {x y z:Edge} (h:x.lt y=true) (k:y.lt z=true):x.lt z=true:=by
 simp only [Edge.lt,Bool.or_eq_true,Bool.and_eq_true,decide_eq_true_eq] at *
 omega
theorem Edge.lt_irr (x:Edge):¬x.lt x=true:=by
 simp only [Edge.lt,Bool.or_eq_true,Bool.and_eq_true,decide_eq_true_eq]
 omega
theorem Zoc:∀ {l:List Edge},risB l=true→l.Pairwise fun x y=>x.lt y=true
 | [],_=>List.Pairwise.nil
 | [x],_=>by simp
 | x::y::l,h=>by
   simp only [risB,Bool.and_eq_true] at h
   have ih:=Zoc h.2
   refine List.pairwise_cons.2 ⟨?_,ih⟩
   intro z hz
   rcases List.mem_cons.1 hz with rfl | hz
   ·exact h.1
   ·exact Edge.lt_trans h.1 ((List.pairwise_cons.1 ih).1 z hz)
theorem okG_pw {g:Graph} (h:okG g=true):g.Edges.Pairwise fun x y=>x.lt y=true:=Zoc (Ze7 h).2.2.2.2
def Zpc (a:Int) (e:Edge):Option Int:=if a=e.A then some e.B else if a=e.B then some e.A else none
def Zqc (g:Graph) (a:Int):List Int:=g.Edges.filterMap (Zpc a)
theorem Zrc {g:Graph} (h:okG g=true) (a:Int):(Zqc g a).Pairwise (· < ·):=by
 unfold Zqc
 rw [List.pairwise_filterMap]
 obtain ⟨_,_,_,h4,_⟩:=Ze7 h
 refine List.Pairwise.imp_of_mem ?_ (okG_pw h)
 intro x y hx hy hxy b hb b' hb'
 have k1:=h4 x hx
 have k2:=h4 y hy
 simp only [Edge.lt,Bool.or_eq_true,Bool.and_eq_true,decide_eq_true_eq] at hxy
 unfold Zpc at hb hb'
 split at hb<;>split at hb'
 ·simp at hb hb';omega
 ·split at hb'
  ·simp at hb hb';omega
  ·simp at hb'
 ·split at hb
  ·simp at hb hb';omega
  ·simp at hb
 ·split at hb<;>split at hb'
  ·simp at hb hb';omega
  ·simp at hb'
  ·simp at hb
  ·simp at hb
theorem pw_chain {l:List Int} (h:l.Pairwise (· < ·)) {k:Nat} {x y:Int} (hx:l[k]?=some x) (hy:l[k+1]?=some y):x<y:=by
 rw [List.pairwise_iff_getElem] at h
 obtain ⟨h1,rfl⟩:=List.getElem?_eq_some_iff.1 hx
 obtain ⟨h2,rfl⟩:=List.getElem?_eq_some_iff.1 hy
 exact h k (k+1) h1 h2 (by omega)
theorem Zsc {l:List Int} (h:l.Pairwise (· < ·)):Lib.compact l=l:=by
 refine Lib.compact_all l fun j hj=>?_
 cases j with
 | zero=>exact Lib.keeps_lt_one _ 0 (by omega)
 | succ j=>
   have hx:l[j+1]?=some l[j+1]:=List.getElem?_eq_getElem hj
   have hy:l[j]?=some l[j]:=List.getElem?_eq_getElem (by omega)
   have:=pw_chain h hy hx
   refine Lib.keeps_pos ?_
   simp only [Nat.add_sub_cancel]
   rw [getElem!_pos _ _ (by simpa using hj),getElem!_pos _ _ (by simp;omega)]
   simp only [List.getElem_toArray]
   omega
def Ztc (l:List Int):List Int:=Lib.compact (l.mergeSort fun x y=>decide (x≤y))
theorem s_setL (l:List Int) (hl:l.length≤1000000):Zdc l=some (Ztc l):=by
 simp only [Zdc,Zv9]
 rw [Z06 _ _ (by omega) (by simp;omega),Option.bind_some,List.nil_append,decide_eq_true (by omega),Zv5]
 rfl
theorem s_setOf (l:List Int) (hl:l.length≤1000000) (h:l.Pairwise (· < ·)):Zdc l=some l:=by
 rw [s_setL l hl]
 unfold Ztc
 rw [List.mergeSort_of_pairwise (h.imp fun hxy=>decide_eq_true (by omega)),Zsc h]
theorem Zuc (g:Graph) (a:Int):(Zqc g a).length≤g.Edges.length:=List.length_filterMap_le _ _
theorem s_Near (g:Graph) (a:Int):Zhc g a=some (if okG g then Zqc g a else []):=by
 simp only [Zhc,Zd7,Option.bind_some]
 cases hg:okG g with
 | false=>rfl
 | true=>
   have h400:=(Ze7 hg).2.2.1
   simp only [if_true,decide_true,Bool.not_true,Zw5]
   refine Zn7 g.Edges _ (fun pre=>((pre.length:Int),pre.filterMap (Zpc a))) (Zqc g a) (fun pre e post h=>?_) ?_
   ·have hx:=Zo7 h
    have hm:=Zp7 h
    have hl:(pre.filterMap (Zpc a)).length≤pre.length:=List.length_filterMap_le _ _
    dsimp only [Zgc]
    rw [Z16 hx,Zv5,Zz5 hx,Option.bind_some,Zt7,List.filterMap_append]
    by_cases h1:a=e.A
    ·rw [decide_eq_true h1,Zv5,Z06 _ _ (by omega) (by simp only [List.length_singleton];omega),Option.bind_some,Zfc,Z36 (by omega)]
     simp [Zpc,h1]
    ·by_cases h2:a=e.B
     ·rw [decide_eq_false h1,Zw5,decide_eq_true h2,Zv5,Z06 _ _ (by omega) (by simp only [List.length_singleton];omega),Option.bind_some,Zfc,Z36 (by omega)]
      have:¬e.B=e.A:=fun e'=>h1 (h2.trans e')
      simp [Zpc,h2,this]
     ·rw [decide_eq_false h1,Zw5,decide_eq_false h2,Zw5,Zfc,Z36 (by omega)]
      simp [Zpc,h1,h2]
   ·dsimp only [Zgc]
    rw [Z26,Zw5,Zec]
    have:(g.Edges.filterMap (Zpc a))=Zqc g a:=rfl
    rw [this,s_setOf _ (by have:=Zuc g a;omega) (Zrc hg a)]
    rfl
theorem Zvc {g:Graph} (h:okG g=true) {a b:Int}:b∈Zqc g a↔(⟨a,b⟩:Edge)∈g.Edges∨(⟨b,a⟩:Edge)∈g.Edges:=by
 obtain ⟨_,_,_,h4,_⟩:=Ze7 h
 unfold Zqc
 rw [List.mem_filterMap]
 constructor
 ·rintro ⟨e,he,hb⟩
  unfold Zpc at hb
  split at hb
  ·rename_i h1
   simp at hb;subst hb;subst h1;exact .inl he
  ·split at hb
   ·rename_i h2
    simp at hb;subst hb;subst h2;exact .inr he
   ·simp at hb
 ·rintro (he | he)
  ·exact ⟨_,he,by simp [Zpc]⟩
  ·have:=h4 _ he
   dsimp only at this
   exact ⟨_,he,by unfold Zpc;rw [if_neg (by dsimp only;omega),if_pos rfl]⟩
theorem hasB_iff {g:Graph} (h:okG g=true) {a b:Int}:hasB g a b=true↔b∈Zqc g a:=by
 rw [Zvc h]
 obtain ⟨_,_,_,h4,_⟩:=Ze7 h
 simp only [hasB,List.any_eq_true,Bool.or_eq_true,Bool.and_eq_true,decide_eq_true_eq]
 constructor
 ·rintro ⟨e,he,(⟨rfl,rfl,_⟩ | ⟨rfl,rfl,_⟩)⟩
  ·exact .inl he
  ·exact .inr he
 ·rintro (he | he)
  ·have:=h4 _ he;dsimp only at this
   exact ⟨_,he,.inl ⟨rfl,rfl,by omega⟩⟩
  ·have:=h4 _ he;dsimp only at this
   exact ⟨_,he,.inr ⟨rfl,rfl,by omega⟩⟩
theorem Zwc {g:Graph} (h:okG g=true) {a b:Int} (hb:b∈Zqc g a):0≤b∧b<g.N∧b≠a∧0≤a∧a<g.N:=by
 obtain ⟨_,_,_,h4,_⟩:=Ze7 h
 rcases (Zvc h).1 hb with he | he
 ·have:=h4 _ he;dsimp only at this;omega
 ·have:=h4 _ he;dsimp only at this;omega
def Zxc (c:List Int) (a b:Int):Side:=⟨b,1,0,decide (cg c b<cg c a),decide (cg c b<cg c a),!decide (cg c b<cg c a),decide (cg c b<cg c a),!decide (cg c b<cg c a)⟩
def Zyc (g:Graph) (c:List Int) (a:Nat):Diner:=⟨a,0,(Zqc g a).map (Zxc c a)⟩
def Zzc (g:Graph) (c:List Int):List Diner:=(List.range g.N.toNat).map (Zyc g c)
theorem Z0d {α:Type} (f:Nat→α) (k:Nat):(List.range (k+1)).map f=(List.range k).map f++[f k]:=by simp [List.range_succ]
theorem s_Table2 (g:Graph) (hg:okG g=true) (c:List Int) (hc:(c.length:Int)=g.N) (a:Nat) (ha:(a:Int)<g.N) (L:List Diner) (hL:L.length≤1000):
  loop (Zlc c a L (Zqc g a)) (0,[])=some (.inl (((a+1:Nat):Int),L++[Zyc g c a])):=by
 obtain ⟨g1,g2,g3,_,_⟩:=Ze7 hg
 have hnl:=Zuc g a
 refine Zn7 (Zqc g a) _ (fun pre=>((pre.length:Int),pre.map (Zxc c a))) _ (fun pre b post h=>?_) ?_
 ·have hx:=Zo7 h
  have hm:=Zp7 h
  obtain ⟨b1,b2,_,_,_⟩:=Zwc hg (Zq7 h)
  dsimp only [Zlc]
  rw [Z16 hx,Zv5,Zz5 hx,Option.bind_some,at_cg (c:=c) (Int.natCast_nonneg a) (by omega),Option.bind_some,at_cg (c:=c) b1 (by omega),Option.bind_some,Z06 _ _ (by omega) (by simp;omega),Option.bind_some,Zt7,Z36 (by omega),List.map_append]
  rfl
 ·dsimp only [Zlc]
  rw [Z26,Zw5,Zkc,Z06 _ _ (by omega) (by simp;omega),Option.bind_some,Z36 (by omega)]
  rfl
theorem rightB_len {g:Graph} {c:List Int} (h:Zac g c=true):(c.length:Int)=g.N:=by
 simp only [Zac,Bool.and_eq_true,decide_eq_true_eq] at h;exact h.1
theorem s_Table (g:Graph) (c:List Int) (hc:c.length≤1000000):Znc g c=some (if okG g then (if Zac g c then (Zzc g c,0) else ([],120)) else ([],30)):=by
 simp only [Znc,Zd7,Option.bind_some]
 cases hg:okG g with
 | false=>rfl
 | true=>
   obtain ⟨g1,g2,_,_,_⟩:=Ze7 hg
   simp only [if_true,decide_true,Bool.not_true,Zw5,s_Right g c hc,hg,Bool.true_and,Option.bind_some]
   cases hr:Zac g c with
   | false=>rfl
   | true=>
     simp only [Bool.not_true,Zw5,if_true]
     refine loop_nat g.N.toNat (Zmc g c) (fun k=>((k:Int),(List.range k).map (Zyc g c))) _ (fun k hk=>?_) ?_
     ·dsimp only [Zmc]
      rw [decide_eq_true (by omega),Zv5,s_Near,hg,if_pos rfl,Option.bind_some,s_Table2 g hg c (rightB_len hr) k (by omega) _ (by simp;omega),Z0d]
     ·dsimp only [Zmc]
      rw [decide_eq_false (by omega),Zw5]
      rfl
theorem Z1d {g:Graph} (hg:okG g=true) {c:List Int} (h:Zac g c=true) {a b:Int} (hb:b∈Zqc g a):cg c a≠cg c b:=by
 simp only [Zac,Bool.and_eq_true,List.all_eq_true,Bool.not_eq_true',decide_eq_false_iff_not] at h
 rcases (Zvc hg).1 hb with he | he
 ·exact h.2.2 _ he
 ·exact fun e=>h.2.2 _ he e.symm
set_option maxRecDepth 100000
set_option maxHeartbeats 4000000
@[go_sem] def e166:EC:=.seq (.reg [(Qa 2 (.mv (.c .ff)))]) (.seq (.reg [(Qm 3 0),(Qa 4 (.bin .lss (.t 3) (.c (.iv 0)))),(Qm 2 4)]) (.ret))
theorem ok166:FnOK Tryz.prog 166 Tryz.f166 e166 [.t 2] 1 4:=⟨by kernel_rfl,⟨_,rfl,by kernel_rfl⟩,by kernel_rfl,by kernel_rfl⟩
noncomputable def Z2d (x1:Int):Option Bool:=
 some (decide (x1<0))
theorem Z3d (x1:Int) (r:Bool) (h:Z2d x1=some r):Zs2 Tryz.prog 166 [.iv x1] (.bv r):=by
 refine Zw2 ok166 rfl rfl fun w0 H0=>?_
 rw [Z2d] at h
 refine Zn2 10 ?_;dsimp only [go_sem];refine An ?_;exact Zq4 (res:=fun (r:Bool)=>.bv r) ok166 h
set_option maxRecDepth 100000
set_option maxHeartbeats 4000000
@[go_sem] def e167:EC:=.seq (.reg [(Qa 4 (.mv (.c .ff)))]) (.seq (.reg [(Ql 5 1),(Qm 6 0),(Qk 7 1 5 6),(Ql 8 7),(Qa 9 (.bin .eql (.t 8) (.c (.iv 0)))),(Qm 10 9),(Qg 11 10 true (.mv (.t 0))),(Qn 12 10 true 2),(Qg 13 10 true (.bin .gtr (.t 11) (.t 12))),(Qp 14 10 13),(Qm 4 14)]) (.ret))
theorem ok167:FnOK Tryz.prog 167 Tryz.f167 e167 [.t 4] 3 12:=⟨by kernel_rfl,⟨_,rfl,by kernel_rfl⟩,by kernel_rfl,by kernel_rfl⟩
noncomputable def Z4d:Bool→Option Bool
| x5=>
 some x5
noncomputable def Z5d (x1:Int) (x2:(List Int)) (x3:Int):Option Bool:=
 (at_ x2 x1).bind fun x4=>
 ifb (decide (x4=0)) (
 Z4d (decide (x3<x1))) (
 Z4d false)
theorem Z6d (x1:Int) (x2:(List Int)) (x3:Int) (r:Bool) (h:Z5d x1 x2 x3=some r):Zs2 Tryz.prog 167 [.iv x1,.elt ((Zx4 1 Zw4) x2) 0,.elt (Zw4 x3) 0] (.bv r):=by
 refine Zw2 ok167 rfl rfl fun w0 H0=>?_
 rw [Z5d] at h
 refine Zn2 8 ?_;dsimp only [go_sem];refine An ?_;obtain ⟨x4,ex4,h⟩:=Bs h;refine Zl4 Zw4 ex4 trivial rfl rfl rfl ?_;refine Zn2 3 ?_;dsimp only [go_sem];refine An ?_;refine Zg4 (fun (x5:Bool)=>(⟨(an 4 (.bv x5::an 10 [])),[],[]⟩:St)) Z4d r ?_ fun J1=>?_
 ·intro x5 h;rw [Z4d] at h;(try dsimp only);exact Zq4 (res:=fun (r:Bool)=>.bv r) ok167 h
 ·refine Zp4 10 h rfl (fun _ h=>?_) fun _ h=>?_
  ·dsimp only [go_sem];refine Zn2 6 ?_;dsimp only [go_sem];refine An ?_;exact Zs4 J1 (s:=decide (x3<x1)) h
  ·dsimp only [go_sem];refine Zn2 6 ?_;dsimp only [go_sem];refine An ?_;exact Zs4 J1 (s:=false) h
set_option maxRecDepth 100000
set_option maxHeartbeats 4000000
@[go_sem] def e168:EC:=.seq (.reg [(Qa 5 (.mv (.c .ff)))]) (.seq (.drw [(Ql 6 1),(Qm 7 0),(Qk 8 1 6 7),(Ql 9 8),(Ql 10 2),(Ql 11 3),(Qk 12 1 10 11),(Ql 13 12),(Qa 14 (.bin .eql (.t 9) (.t 13))),(Qm 5 14)] [[],[],[0,1],[2],[],[],[4,5],[6],[3,7],[8,0,1,2,3,4,5,6,7,8]] [[2],[2],[0,1,3],[2,8],[6],[6],[4,5,7],[6,8],[3,7,9],[8]]) (.ret))
theorem ok168:FnOK Tryz.prog 168 Tryz.f168 e168 [.t 5] 4 11:=⟨by kernel_rfl,⟨_,rfl,by kernel_rfl⟩,by kernel_rfl,by kernel_rfl⟩
noncomputable def Z7d (x1:Int) (x2:(List Int)) (x3:(List Int)) (x4:Int):Option Bool:=
 (at_ x2 x1).bind fun x5=>
 (at_ x3 x4).bind fun x6=>
 some (decide (x5=x6))
theorem Z8d (x1:Int) (x2:(List Int)) (x3:(List Int)) (x4:Int) (r:Bool) (h:Z7d x1 x2 x3 x4=some r):Zs2 Tryz.prog 168 [.iv x1,.elt ((Zx4 1 Zw4) x2) 0,.elt ((Zx4 1 Zw4) x3) 0,.elt (Zw4 x4) 0] (.bv r):=by
 refine Zw2 ok168 rfl rfl fun w0 H0=>?_
 rw [Z7d] at h
 refine Zn2 5 ?_;dsimp only [go_sem];refine An ?_;refine Zi3 (by kernel_rfl) fun all hall hs hnap haf=>?_;dsimp only [go_sem];refine Z65 hall hs haf hnap 4 6 ?_;dsimp only [go_sem];refine An ?_;obtain ⟨x5,ex5,h⟩:=Bs h;refine Zm4 hall hs haf hnap 2 Zw4 ex5 rfl rfl trivial rfl rfl rfl rfl ?_;refine Z65 hall hs haf hnap 1 4 ?_;dsimp only [go_sem];refine An ?_;obtain ⟨x6,ex6,h⟩:=Bs h;refine Zm4 hall hs haf hnap 6 Zw4 ex6 rfl rfl trivial rfl rfl rfl rfl ?_;refine Z65 hall hs haf hnap 3 0 ?_;dsimp only [go_sem];refine An ?_;refine Zs3 rfl ?_ _
 exact Zq4 (res:=fun (r:Bool)=>.bv r) ok168 h
set_option maxRecDepth 100000
set_option maxHeartbeats 4000000
@[go_sem] def e150_L1:EC:=.seq (.seq (.reg [(Qm 47 9),(Qa 48 (.mkf 168 [(.t 3),(.t 7),(.t 8)])),(Qa 49 (.call 103 [(.t 47),(.t 48)]))]) (.ite (.t 49) (.skip) (.exit 2))) (.blk 3 (.reg [(Ql 50 7),(Ql 51 8),(Qk 52 1 50 51),(Ql 53 52),(Qv 54 53 1),(Qk 55 1 50 51),(Qs 1 55 54)]))
@[go_sem] def e150_L0:EC:=.seq (.reg [(Qa 29 (.bin .lss (.t 28) (.t 27)))]) (.seq (.ite (.t 29) (.skip) (.exit 0)) (.seq (.blk 1 (.seq (.reg [(Qm 30 28),(Qa 8 (.alloc 3 [.iv 0])),(Qs 1 8 30)]) (.seq (.reg [(Qe 31 2 2),(Ql 32 8),(Qa 33 (.call 152 [(.t 31),(.t 32)])),(Qm 9 33)]) (.seq (.seq (.reg [(Ql 34 3),(Ql 35 8),(Qk 36 1 34 35),(Ql 37 36),(Qa 38 (.bin .neq (.t 37) (.c (.iv 0)))),(Qm 39 38),(Qg 40 39 false (.mv (.t 9))),(Qg 41 39 false (.mkf 167 [(.t 3),(.t 8)])),(Qg 42 39 false (.call 103 [(.t 40),(.t 41)])),(Qq 43 39 42)]) (.ite (.t 43) (.exit 1) (.skip))) (.seq (.reg [(Ql 44 7),(Ql 45 8),(Qk 46 1 44 45),(Qb (.store 1 (.t 46) (.c (.iv 1))))]) (.blk 2 (.loop e150_L1))))))) (.reg [(Qv 56 28 1),(Qm 28 56)])))
@[go_sem] def e150:EC:=.seq (.reg [(Qx 2 53 2 0),(Qx 3 26 1 1),(Qa 4 (.mv (.c .nl))),(Qi 5 0)]) (.seq (.seq (.reg [(Qe 10 2 2),(Qa 11 (.call 144 [(.t 10)])),(Qm 6 11)]) (.seq (.reg [(Qm 12 6),(Qa 13 (.bin .neq (.t 12) (.c (.iv 0))))]) (.ite (.t 13) (.seq (.reg [(Qm 14 6),(Qa 4 (.mv (.c .nl))),(Qm 5 14)]) (.ret)) (.skip)))) (.seq (.seq (.reg [(Ql 15 3),(Qa 16 (.len (.t 15))),(Qf 17 0 2),(Ql 18 17),(Qa 19 (.bin .neq (.t 16) (.t 18))),(Qm 20 19),(Qn 21 20 false 3),(Qg 22 20 false (.call 103 [(.t 21),(.c (.clo 166 []))])),(Qq 23 20 22)]) (.ite (.t 23) (.seq (.reg [(Qa 4 (.mv (.c .nl))),(Qi 5 110)]) (.ret)) (.skip))) (.seq (.reg [(Ql 24 3),(Qa 25 (.call 136 [(.t 24)])),(Qa 7 (.alloc 26 [.nl])),(Qs 1 7 25)]) (.seq (.seq (.reg [(Qf 26 0 2),(Ql 27 26),(Qi 28 0)]) (.blk 0 (.loop e150_L0))) (.seq (.reg [(Ql 57 7),(Qm 4 57),(Qi 5 0)]) (.ret))))))
theorem ok150:FnOK Tryz.prog 150 Tryz.f150 e150 [.t 4,.t 5] 2 56:=⟨by kernel_rfl,⟨_,rfl,by kernel_rfl⟩,by kernel_rfl,by kernel_rfl⟩
noncomputable def Z9d:(List Int)→Option ((List Int)×Int)
| x54=>
 some (x54,0)
noncomputable def Zad (x26:Int):(List Int)→Option ((Int×(List Int)) ⊕ ((List Int)×Int))
| x46=>
 some (.inl (wr (x26+1),x46))
noncomputable def Zbd (x2:(List Int)) (x26:Int) (x28:(List Int)):(List Int)→Option ((List Int) ⊕ ((Int×(List Int)) ⊕ ((List Int)×Int)))
| x35=>
 (Z57 x28 ((fun z=>Z7d z x2 x35 x26))).bind fun x36=>
 ifb x36 (
 (at_ x35 x26).bind fun x37=>
 some (.inl (x35.set (x26).toNat (wr (x37+1))))) (
 Option.map Sum.inr ((Zad x26) x35))
noncomputable def Zcd (x2:(List Int)) (x26:Int) (x27:(List Int)) (x28:(List Int)):Bool→Option ((Int×(List Int)) ⊕ ((List Int)×Int))
| x31=>
 ifb x31 (
 (Zad x26) x27) (
 (at_ x27 x26).bind fun _=>
 loop (Zbd x2 x26 x28) (x27.set (x26).toNat 1))
noncomputable def Zdd (x1:Graph) (x2:(List Int)):(Int×(List Int))→Option ((Int×(List Int)) ⊕ ((List Int)×Int))
| (x26,x27)=>
 ifb (decide (x26<x1.N)) (
 (Zhc x1 x26).bind fun x28=>
 (at_ x2 x26).bind fun x29=>
 ifb (!decide (x29=0)) (
 (Zcd x2 x26 x27 x28) true) (
 (Z57 x28 ((fun z=>Z5d z x2 x26))).bind fun x30=>
 (Zcd x2 x26 x27 x28) x30)) (
 Option.map Sum.inr (Z9d x27))
noncomputable def Zed (x1:Graph) (x2:(List Int)):Bool→Option ((List Int)×Int)
| x5=>
 ifb x5 (
 some (([]:(List Int)),110)) (
 (Zv9 x2).bind fun x6=>
 loop (Zdd x1 x2) (0,x6))
noncomputable def Zfd (x1:Graph) (x2:(List Int)):Option ((List Int)×Int):=
 (Zz6 x1).bind fun x3=>
 ifb (!decide (x3=0)) (
 some (([]:(List Int)),x3)) (
 ifb (!decide ((ln Zw4 x2)=x1.N)) (
 (Zed x1 x2) true) (
 (Z57 x2 ((fun z=>Z2d z))).bind fun x4=>
 (Zed x1 x2) x4))
theorem Zgd (x1:Graph) (x2:(List Int)) (r:((List Int)×Int)) (h:Zfd x1 x2=some r):Zs2 Tryz.prog 150 [.agg (Graph.row x1),.sl 1 (List.map Zw4 x2)] (.tup [.sl 1 (List.map Zw4 r.1),.iv r.2]):=by
 refine Zw2 ok150 rfl rfl fun w0 H0=>?_
 rw [Zfd] at h
 refine Zn2 11 ?_;dsimp only [go_sem];refine An ?_;obtain ⟨x3,ex3,h⟩:=Bs h;refine Z13 trivial (Z07 x1 _ ex3) (h:=?_);refine Zn2 7 ?_;dsimp only [go_sem];refine An ?_;refine Zi4 h rfl (fun _ h=>?_) fun _ h=>?_
 ·refine Zn2 6 ?_;dsimp only [go_sem];refine An ?_;exact Zq4 (res:=fun (r:((List Int)×Int))=>.tup [.sl 1 (List.map Zw4 r.1),.iv r.2]) ok150 h
 ·refine Zn2 10 ?_;dsimp only [go_sem];refine An ?_;refine Zg4 (fun (x5:Bool)=>(⟨(.any :: .any :: .ptr 0 0 :: .ptr 1 0::an 19 (.bv x5::an 34 [])),[some ⟨53,[.iv x1.N,.sl 2 (List.map Edge.row x1.Edges)]⟩,some ⟨26,[.sl 1 (List.map Zw4 x2)]⟩],[]⟩:St)) (Zed x1 x2) r ?_ fun J1=>?_
  ·intro x5 h;rw [Zed] at h;(try dsimp only);refine Zi4 h rfl (fun _ h=>?_) fun _ h=>?_
   ·refine Zn2 5 ?_;dsimp only [go_sem];refine An ?_;exact Zq4 (res:=fun (r:((List Int)×Int))=>.tup [.sl 1 (List.map Zw4 r.1),.iv r.2]) ok150 h
   ·refine Zn2 4 ?_;dsimp only [go_sem];refine An ?_;obtain ⟨x6,ex6,h⟩:=Bs h;refine Z45 trivial (Zw9 x2 _ ex6) (h:=?_);refine Zn2 10 ?_;dsimp only [go_sem];refine An ?_;refine Zg4 (fun (x54:(List Int))=>(⟨(an 7 (.ptr 2 0::an 50 [])),[none,none,some ⟨26,[.osl 0]⟩],[some ⟨3,1,List.map Zw4 x54⟩]⟩:St)) Z9d r ?_ fun J2=>?_
    ·intro x54 h;rw [Z9d] at h;(try dsimp only);refine Zn2 6 ?_;dsimp only [go_sem];refine An ?_;refine Za3 0 rfl ?_;dsimp only [go_sem];exact Zq4 (res:=fun (r:((List Int)×Int))=>.tup [.sl 1 (List.map Zw4 r.1),.iv r.2]) ok150 h
    ·refine Zn2 1 ?_;dsimp only [go_sem];refine An ?_;refine Zh4 h (fun ((x26,x27):(Int×(List Int)))=>(⟨(.any :: .any :: .ptr 0 0 :: .ptr 1 0::an 3 (.ptr 2 0::an 19 (.iv x1.N :: .iv x26::an 29 []))),[some ⟨53,[.iv x1.N,.sl 2 (List.map Edge.row x1.Edges)]⟩,some ⟨26,[.sl 1 (List.map Zw4 x2)]⟩,some ⟨26,[.osl 0]⟩],[some ⟨3,1,List.map Zw4 x27⟩]⟩:St)) (by simp [go_sem]) (by rintro ⟨x26,x27⟩;first | rfl | simp [go_sem]) ?_;rintro n1 ⟨x26,x27⟩ y1 h hin1 hout1;rw [Zdd] at h;(try dsimp only);refine Zn2 5 ?_;dsimp only [go_sem];refine An ?_
     refine Zi4 h rfl (fun _ h=>?_) fun _ h=>?_
     ·refine Zn2 2 ?_;dsimp only [go_sem];refine An ?_;refine Zg4 (fun (x46:(List Int))=>(⟨(.any :: .any :: .ptr 0 0 :: .ptr 1 0::an 3 (.ptr 2 0::an 19 (.iv x1.N :: .iv x26::an 29 []))),[some ⟨53,[.iv x1.N,.sl 2 (List.map Edge.row x1.Edges)]⟩,some ⟨26,[.sl 1 (List.map Zw4 x2)]⟩,some ⟨26,[.osl 0]⟩],[some ⟨3,1,List.map Zw4 x46⟩]⟩:St)) (Zad x26) y1 ?_ fun J3=>?_
      ·intro x46 h;rw [Zad] at h;(try dsimp only);refine Zn2 4 ?_;dsimp only [go_sem];refine An ?_;exact Zr4 h hin1
      ·refine Zn2 11 ?_;dsimp only [go_sem];refine An ?_;obtain ⟨x28,ex28,h⟩:=Bs h;refine Z13 trivial (Zic x1 x26 _ ex28) (h:=?_);refine Zn2 7 ?_;dsimp only [go_sem];refine An ?_;obtain ⟨x29,ex29,h⟩:=Bs h;refine Zl4 Zw4 ex29 trivial rfl rfl rfl ?_;refine Zn2 3 ?_;dsimp only [go_sem];refine An ?_
       refine Zg4 (fun (x31:Bool)=>(⟨(.any :: .any :: .ptr 0 0 :: .ptr 1 0::an 3 (.ptr 2 0 :: .ptr 3 0 :: .sl 1 (List.map Zw4 x28)::an 17 (.iv x1.N :: .iv x26::an 14 (.bv x31::an 14 [])))),[some ⟨53,[.iv x1.N,.sl 2 (List.map Edge.row x1.Edges)]⟩,some ⟨26,[.sl 1 (List.map Zw4 x2)]⟩,some ⟨26,[.osl 0]⟩,some ⟨3,[.iv x26]⟩],[some ⟨3,1,List.map Zw4 x27⟩]⟩:St)) (Zcd x2 x26 x27 x28) y1 ?_ fun J4=>?_
       ·intro x31 h;rw [Zcd] at h;(try dsimp only);refine Zi4 h rfl (fun _ h=>?_) fun _ h=>?_
        ·refine Zn2 1 ?_;dsimp only [go_sem];refine An ?_;exact Zs4 J3 (s:=x27) h
        ·refine Zn2 5 ?_;dsimp only [go_sem];refine An ?_;obtain ⟨x32,ex32,h⟩:=Bs h;refine Z95 Zw4 ex32 trivial rfl rfl rfl ?_;refine Ze5 [.iv 1] Zw4 (y':=1) ex32 trivial rfl rfl rfl (by first | exact Za4 _ | simp [go_sem]) rfl rfl rfl rfl ?_;refine Zn2 2 ?_;dsimp only [go_sem];refine An ?_
         refine Zh4 h (fun (x35:(List Int))=>(⟨(.any :: .any :: .ptr 0 0 :: .ptr 1 0::an 3 (.ptr 2 0 :: .ptr 3 0 :: .sl 1 (List.map Zw4 x28)::an 17 (.iv x1.N :: .iv x26::an 29 []))),[some ⟨53,[.iv x1.N,.sl 2 (List.map Edge.row x1.Edges)]⟩,some ⟨26,[.sl 1 (List.map Zw4 x2)]⟩,some ⟨26,[.osl 0]⟩,some ⟨3,[.iv x26]⟩],[some ⟨3,1,List.map Zw4 x35⟩]⟩:St)) (by simp [go_sem]) (by intro x35;first | rfl | simp [go_sem]) ?_;rintro n2 x35 y2 h hin2 hout2;rw [Zbd] at h;(try dsimp only);refine Zn2 5 ?_;dsimp only [go_sem];refine An ?_
         obtain ⟨x36,ex36,h⟩:=Bs h;refine Zu4 trivial (((((Zt4.refl _).slice 0 rfl).block 1 rfl rfl).block 2 rfl rfl).block 3 rfl rfl) (Z67 x28 _ _ ((fun z=>Z7d z x2 x35 x26)) ⟨by kernel_rfl,rfl,fun z r hz=>Z8d z x2 x35 x26 r hz⟩ _ ex36) (h:=?_);refine Zn2 1 ?_;dsimp only [go_sem];refine An ?_;refine Zi4 h rfl (fun _ h=>?_) fun _ h=>?_
         ·refine Zn2 5 ?_;dsimp only [go_sem];refine An ?_;obtain ⟨x37,ex37,h⟩:=Bs h;refine Z95 Zw4 ex37 trivial rfl rfl rfl ?_;refine Za5 Zw4 ex37 trivial rfl rfl rfl ?_;refine Zn2 1 ?_;dsimp only [go_sem];refine An ?_;refine Z95 Zw4 ex37 trivial rfl rfl rfl ?_;refine Ze5 [.iv (wr (x37+1))] Zw4 (y':=wr (x37+1)) ex37 trivial rfl rfl rfl (by first | exact Za4 _ | simp [go_sem]) rfl rfl rfl rfl ?_;refine Zn2 2 ?_;dsimp only [go_sem];refine An ?_;exact Zr4 h hin2
         ·refine Zn2 2 ?_;dsimp only [go_sem];refine An ?_;exact Zs4 J3 (s:=x35) (Zf4 h hout2)
       ·refine Zp4 39 h rfl (fun _ h=>?_) fun _ h=>?_
        ·dsimp only [go_sem];refine Zn2 5 ?_;dsimp only [go_sem];refine An ?_;exact Zs4 J4 (s:=true) h
        ·dsimp only [go_sem];refine Zn2 2 ?_;dsimp only [go_sem];refine An ?_;obtain ⟨x30,ex30,h⟩:=Bs h;refine Zu4 trivial (((Zt4.refl _).block 1 rfl rfl).block 3 rfl rfl) (Z67 x28 _ _ ((fun z=>Z5d z x2 x26)) ⟨by kernel_rfl,rfl,fun z r hz=>Z6d z x2 x26 r hz⟩ _ ex30) (h:=?_);refine Zn2 2 ?_;dsimp only [go_sem];refine An ?_;exact Zs4 J4 (s:=x30) h
     ·refine Zn2 1 ?_;dsimp only [go_sem];refine An ?_;exact Zs4 J2 (s:=x27) (Zf4 h hout1)
  ·refine Zp4 20 h rfl (fun _ h=>?_) fun _ h=>?_
   ·dsimp only [go_sem];refine Zn2 4 ?_;dsimp only [go_sem];refine An ?_;exact Zs4 J1 (s:=true) h
   ·dsimp only [go_sem];refine Zn2 1 ?_;dsimp only [go_sem];refine An ?_;obtain ⟨x4,ex4,h⟩:=Bs h;refine Z13 trivial (Z67 x2 _ _ ((fun z=>Z2d z)) ⟨by kernel_rfl,rfl,fun z r hz=>Z3d z r hz⟩ _ ex4) (h:=?_);refine Zn2 2 ?_;dsimp only [go_sem];refine An ?_;exact Zs4 J1 (s:=x4) h
set_option maxRecDepth 100000
set_option maxHeartbeats 4000000
@[go_sem] def e124_L0:EC:=.seq (.seq (.reg [(Qm 16 6),(Qa 17 (.call 149 [(.t 16),(.c (.iv 0))]))]) (.ite (.t 17) (.skip) (.exit 0))) (.blk 1 (.seq (.reg [(Qe 19 2 1),(Qm 20 6),(Qa 21 (.call 150 [(.t 19),(.t 20)])),(Qm 18 21),(Qa 22 (.ext (.t 18) 0)),(Qa 23 (.ext (.t 18) 1)),(Qm 6 22)]) (.reg [(Qm 24 7),(Qv 25 24 1),(Qm 7 25)])))
@[go_sem] def e124:EC:=.seq (.reg [(Qx 1 53 2 0),(Qa 2 (.mv (.c .nl))),(Qi 3 0),(Qi 4 0)]) (.seq (.seq (.reg [(Qe 8 2 1),(Qa 9 (.call 144 [(.t 8)])),(Qm 5 9)]) (.seq (.reg [(Qm 10 5),(Qa 11 (.bin .neq (.t 10) (.c (.iv 0))))]) (.ite (.t 11) (.seq (.reg [(Qm 12 5),(Qa 2 (.mv (.c .nl))),(Qi 3 0),(Qm 4 12)]) (.ret)) (.skip)))) (.seq (.reg [(Qf 13 0 1),(Ql 14 13),(Qa 15 (.mks 3 1 8 [.iv 0] (.t 14) (.t 14))),(Qm 6 15),(Qi 7 0)]) (.seq (.blk 0 (.loop e124_L0)) (.seq (.reg [(Qm 26 6),(Qm 27 7),(Qm 2 26),(Qm 3 27),(Qi 4 0)]) (.ret)))))
theorem ok124:FnOK Tryz.prog 124 Tryz.f124 e124 [.t 2,.t 3,.t 4] 1 27:=⟨by kernel_rfl,⟨_,rfl,by kernel_rfl⟩,by kernel_rfl,by kernel_rfl⟩
noncomputable def Zhd:((List Int)×Int)→Option ((List Int)×Int×Int)
| (x17,x18)=>
 some (x17,x18,0)
noncomputable def Zid (x1:Graph):((List Int)×Int)→Option (((List Int)×Int) ⊕ ((List Int)×Int×Int))
| (x8,x9)=>
 (Z6a x8 0).bind fun x10=>
 ifb x10 (
 (Zfd x1 x8).bind fun x11=>
 some (.inl (x11.1,wr (x9+1)))) (
 Option.map Sum.inr (Zhd (x8,x9)))
noncomputable def Zjd (x1:Graph):Option ((List Int)×Int×Int):=
 (Zz6 x1).bind fun x2=>
 ifb (!decide (x2=0)) (
 some (([]:(List Int)),0,x2)) (
 (mk_ 8 x1.N 0).bind fun x3=>
 loop (Zid x1) (x3,0))
theorem k_colour_Run (x1:Graph) (r:((List Int)×Int×Int)) (h:Zjd x1=some r):Zs2 Tryz.prog 124 [.agg (Graph.row x1)] (.tup [.sl 1 (List.map Zw4 r.1),.iv r.2.1,.iv r.2.2]):=by
 refine Zw2 ok124 rfl rfl fun w0 H0=>?_
 rw [Zjd] at h
 refine Zn2 11 ?_;dsimp only [go_sem];refine An ?_;obtain ⟨x2,ex2,h⟩:=Bs h;refine Z13 trivial (Z07 x1 _ ex2) (h:=?_);refine Zn2 7 ?_;dsimp only [go_sem];refine An ?_;refine Zi4 h rfl (fun _ h=>?_) fun _ h=>?_
 ·refine Zn2 7 ?_;dsimp only [go_sem];refine An ?_;exact Zq4 (res:=fun (r:((List Int)×Int×Int))=>.tup [.sl 1 (List.map Zw4 r.1),.iv r.2.1,.iv r.2.2]) ok124 h
 ·refine Zn2 5 ?_;dsimp only [go_sem];refine An ?_;obtain ⟨x3,ex3,h⟩:=Bs h;refine V_mksM Zw4 ex3 trivial rfl rfl rfl rfl ?_;refine Zn2 4 ?_;dsimp only [go_sem];refine An ?_;refine Zg4 (fun ((x17,x18):((List Int)×Int))=>(⟨(an 6 (.sl 1 (List.map Zw4 x17) :: .iv x18::an 20 [])),[],[]⟩:St)) Zhd r ?_ fun J1=>?_
  ·rintro ⟨x17,x18⟩ h;rw [Zhd] at h;(try dsimp only);refine Zn2 8 ?_;dsimp only [go_sem];refine An ?_;exact Zq4 (res:=fun (r:((List Int)×Int×Int))=>.tup [.sl 1 (List.map Zw4 r.1),.iv r.2.1,.iv r.2.2]) ok124 h
  ·refine Zn2 1 ?_;dsimp only [go_sem];refine An ?_;refine Za3 0 rfl ?_;dsimp only [go_sem];refine Zh4 h (fun ((x8,x9):((List Int)×Int))=>(⟨(.any :: .ptr 0 0::an 4 (.sl 1 (List.map Zw4 x8) :: .iv x9::an 20 [])),[some ⟨53,[.iv x1.N,.sl 2 (List.map Edge.row x1.Edges)]⟩],[]⟩:St)) (by simp [go_sem]) (by rintro ⟨x8,x9⟩;first | rfl | simp [go_sem]) ?_;rintro n1 ⟨x8,x9⟩ y1 h hin1 hout1;rw [Zid] at h;(try dsimp only);refine Zn2 4 ?_;dsimp only [go_sem];refine An ?_;obtain ⟨x10,ex10,h⟩:=Bs h
   refine Z13 trivial (Z7a x8 0 _ ex10) (h:=?_);refine Zn2 1 ?_;dsimp only [go_sem];refine An ?_;refine Zi4 h rfl (fun _ h=>?_) fun _ h=>?_
   ·refine Zn2 6 ?_;dsimp only [go_sem];refine An ?_;obtain ⟨x11,ex11,h⟩:=Bs h;refine Z13 trivial (Zgd x1 x8 _ ex11) (h:=?_);refine Zn2 11 ?_;dsimp only [go_sem];refine An ?_;exact Zr4 h hin1
   ·refine Zn2 1 ?_;dsimp only [go_sem];refine An ?_;exact Zs4 J1 (s:=(x8,x9)) (Zf4 h hout1)
def lsf (p:Nat→Bool):Nat→Nat→Nat
 | 0,k=>k
 | f+1,k=>if p k then k else lsf p f (k+1)
theorem lsf_spec (p:Nat→Bool):∀(f k:Nat),p (k+f)=true→p (lsf p f k)=true∧k≤lsf p f k∧lsf p f k≤k+f
 | 0,k,h=>⟨h,Nat.le_refl _,Nat.le_refl _⟩
 | f+1,k,h=>by
   simp only [lsf]
   split
   ·rename_i h1;exact ⟨h1,Nat.le_refl _,by omega⟩
   ·obtain ⟨h1,h2,h3⟩:=lsf_spec p f (k+1) (by rw [show k+1+f=k+(f+1) by omega];exact h)
    exact ⟨h1,by omega,by omega⟩
def Zkd (c:List Int) (near:List Int) (k:Nat):Bool:=near.any fun b=>decide (cg c b=(k:Int))
def Zld (c near:List Int):Nat:=lsf (fun k=>!Zkd c near k) 200 1
def Zmd (c near:List Int) (a:Int):Bool:=decide (cg c a=0)&&!near.any fun b=>decide (cg c b=0)&&decide (a<b)
def newC (g:Graph) (c:List Int) (a:Nat):Int:=if Zmd c (Zqc g a) a then (Zld c (Zqc g a):Int) else cg c a
def Znd (g:Graph) (c:List Int):List Int:=(List.range g.N.toNat).map (newC g c)
structure ColI (g:Graph) (c:List Int):Prop where
 len:(c.length:Int)=g.N
 lo:∀x∈c,0≤x
 hi:∀x∈c,x≤100
theorem cg_mem {c:List Int} {a:Int} (h0:0≤a) (h:a<c.length):cg c a∈c:=by
 obtain ⟨x,h1,h2⟩:=at_lt h0 h
 unfold cg
 rw [h2]
 exact List.mem_iff_getElem?.2 ⟨_,h2⟩
theorem Zod {g:Graph} (hg:okG g=true) {c:List Int} (hc:ColI g c) (a:Int):Zkd c (Zqc g a) (Zld c (Zqc g a))=false∧1≤Zld c (Zqc g a)∧Zld c (Zqc g a)≤201:=by
 have h:=lsf_spec (fun k=>!Zkd c (Zqc g a) k) 200 1 (by
  simp only [Bool.not_eq_true']
  unfold Zkd
  rw [List.any_eq_false]
  intro b hb
  obtain ⟨b1,b2,_⟩:=Zwc hg hb
  have:=hc.hi _ (cg_mem (c:=c) b1 (by rw [hc.len];exact b2))
  simp;omega)
 have h1:=h.1
 simp only [Bool.not_eq_true'] at h1
 exact ⟨h1,h.2.1,h.2.2⟩
theorem Zpd (l:List Int) (x:Int) (hl:l.length≤1000000):Z6a l x=some (decide (x∈l)):=by
 have h1:Z4a l x=some (plc (l.findIdx? fun y=>decide (x=y))):=by
  unfold Z4a
  refine Z86 l _ (fun y=>decide (x=y)) (by omega) (fun k y hy=>?_) ?_
  ·simp only [Z3a,Z16 hy,Zv5,Zz5 hy,Option.bind_some,Z46 hy (show l.length≤4000000000000000000 by omega)]
   cases decide (x=y)<;>rfl
  ·simp only [Z3a,Z26,Zw5,Z2a,Option.map_some]
 simp only [Z6a,h1,Option.bind_some,Z66,Z96]
 congr 1
 rw [Bool.eq_iff_iff,List.any_eq_true,decide_eq_true_iff]
 constructor
 ·rintro ⟨y,hy,h⟩
  have:x=y:=by simpa using h
  exact this ▸ hy
 ·intro h;exact ⟨x,h,by simp⟩
theorem s_Round2 (g:Graph) (hg:okG g=true) (c:List Int) (hc:ColI g c) (a:Nat) (ha:(a:Int)<g.N) (A B:List Int) (hA:A.length=a):
  loop (Zbd c a (Zqc g a)) (A++1::B)=some (.inl (((a+1:Nat):Int),A++(Zld c (Zqc g a):Int)::B)):=by
 obtain ⟨g1,g2,g3,_,_⟩:=Ze7 hg
 have hnl:=Zuc g a
 have at1:∀y:Int,at_ (A++y::B) (a:Int)=some y:=fun y=>by rw [←hA];exact Zr7 rfl
 have st1:∀y z:Int,(A++y::B).set ((a:Int)).toNat z=A++z::B:=fun y z=>by rw [←hA];exact Zs7 _ _ _ _
 have step:∀k:Nat,Z57 (Zqc g a) (fun z=>Z7d z c (A++(k:Int)::B) a)=some (Zkd c (Zqc g a) k):=fun k=>by
  refine Zb7 (Zqc g a) _ (fun b=>decide (cg c b=(k:Int))) (by omega) (fun b hb=>?_)
  obtain ⟨b1,b2,_⟩:=Zwc hg hb
  simp only [Z7d]
  rw [at_cg (c:=c) b1 (by rw [hc.len];exact b2),Option.bind_some,at1,Option.bind_some]
 have key:∀f k:Nat,k+f=201→1≤k→Zkd c (Zqc g a) 201=false→loop (Zbd c a (Zqc g a)) (A++(k:Int)::B)=some (.inl (((a+1:Nat):Int),A++(lsf (fun k=>!Zkd c (Zqc g a) k) f k:Int)::B)):=by
  intro f
  induction f with
  | zero=>
    intro k hk _ h201
    have:k=201:=by omega
    subst this
    rw [Ze4]
    dsimp only [Zbd]
    rw [step,Option.bind_some,h201,Zw5]
    dsimp only [Zad]
    rw [Z36 (by omega)]
    rfl
  | succ f ih=>
    intro k hk h1 h201
    rw [Ze4]
    dsimp only [Zbd]
    rw [step,Option.bind_some]
    cases hu:Zkd c (Zqc g a) k with
    | true=>
      rw [Zv5,at1,Option.bind_some,st1,Z36 (by omega)]
      dsimp only
      rw [ih (k+1) (by omega) (by omega) h201]
      simp [lsf,hu]
    | false=>
      rw [Zw5]
      dsimp only [Zad]
      rw [Z36 (by omega)]
      simp [lsf,hu]
 refine key 200 1 rfl (Nat.le_refl _) ?_
 unfold Zkd
 rw [List.any_eq_false]
 intro b hb
 obtain ⟨b1,b2,_⟩:=Zwc hg hb
 have:=hc.hi _ (cg_mem (c:=c) b1 (by rw [hc.len];exact b2))
 simp;omega
theorem drop_cons {c:List Int} {k:Nat} (h:k<c.length):c.drop k=cg c k::c.drop (k+1):=by
 rw [List.drop_eq_getElem_cons h]
 congr 1
 unfold cg
 simp [h]
theorem s_Round (g:Graph) (hg:okG g=true) (c:List Int) (hc:ColI g c):Zfd g c=some (Znd g c,0):=by
 obtain ⟨g1,g2,g3,_,_⟩:=Ze7 hg
 have hlen:=hc.len
 simp only [Zfd,Zd7,hg,if_true,decide_true,Bool.not_true,Zw5,Option.bind_some,Zy4,hlen]
 rw [Zb7 c (fun z=>Z2d z) (fun x=>decide (x<0)) (by omega) (fun x _=>rfl),Option.bind_some]
 have e0:c.any (fun x=>decide (x<0))=false:=by
  rw [List.any_eq_false];intro x hx;have:=hc.lo x hx;simp;omega
 rw [e0]
 simp only [Zed,Zw5,Zv9]
 rw [Z06 _ _ (by omega) (by simp;omega),Option.bind_some,List.nil_append]
 refine (loop_nat g.N.toNat (Zdd g c) (fun k=>((k:Int),(List.range k).map (newC g c)++c.drop k)) (Znd g c,0) (fun k hk=>?_) ?_)
 ·have hkl:k<c.length:=by omega
  obtain ⟨g1',_⟩:=Ze7 hg
  dsimp only [Zdd]
  rw [decide_eq_true (by omega),Zv5,s_Near,hg,if_pos rfl,Option.bind_some,at_cg (c:=c) (Int.natCast_nonneg k) (by omega),Option.bind_some,drop_cons hkl,Z0d]
  have hA:((List.range k).map (newC g c)).length=k:=by simp
  have keep:newC g c k=cg c k→Zcd c k ((List.range k).map (newC g c)++cg c k::c.drop (k+1)) (Zqc g k) true=some (.inl (((k+1:Nat):Int),((List.range k).map (newC g c)++[newC g c k])++c.drop (k+1))):=fun e=>by
   dsimp only [Zcd,Zad]
   rw [Zv5,Z36 (by omega),e];simp
  by_cases h0:cg c k=0
  ·rw [decide_eq_true h0,Bool.not_true,Zw5]
   have hcf:Z57 (Zqc g k) (fun z=>Z5d z c k)=some ((Zqc g k).any fun b=>decide (cg c b=0)&&decide ((k:Int)<b)):=by
    refine Zb7 (Zqc g k) _ (fun b=>decide (cg c b=0)&&decide ((k:Int)<b)) (by have:=Zuc g k;omega) (fun b hb=>?_)
    obtain ⟨b1,b2,_⟩:=Zwc hg hb
    simp only [Z5d,Z4d]
    rw [at_cg (c:=c) b1 (by omega),Option.bind_some]
    cases decide (cg c b=0)<;>rfl
   rw [hcf,Option.bind_some]
   cases ht:(Zqc g k).any fun b=>decide (cg c b=0)&&decide ((k:Int)<b) with
   | true=>
     refine keep ?_
     unfold newC Zmd
     rw [ht];simp
   | false=>
     have e:newC g c k=(Zld c (Zqc g k):Int):=by
      unfold newC Zmd
      rw [ht,decide_eq_true h0];simp
     dsimp only [Zcd]
     have at1:=Zr7 (l:=(List.range k).map (newC g c)++cg c k::c.drop (k+1)) rfl
     rw [hA] at at1
     have st1:=Zs7 ((List.range k).map (newC g c)) (c.drop (k+1)) (cg c k) 1
     rw [hA] at st1
     rw [Zw5,at1,Option.bind_some,st1,s_Round2 g hg c hc k (by omega) _ _ hA,e]
     simp
  ·rw [decide_eq_false h0,Bool.not_false,Zv5]
   refine keep ?_
   unfold newC Zmd
   rw [decide_eq_false h0];simp
 ·dsimp only [Zdd]
  rw [decide_eq_false (by omega),Zw5,List.drop_eq_nil_of_le (by omega),List.append_nil]
  rfl
theorem Zqd {g:Graph} {c:List Int} {a:Int} (h0:0≤a) (h:a<g.N):(Zzc g c)[a.toNat]?=some (Zyc g c a.toNat):=by
 unfold Zzc
 rw [List.getElem?_map,List.getElem?_range (by omega)];rfl
theorem Zrd {g:Graph} (hg:okG g=true) (c:List Int):((Zzc g c).length:Int)=g.N:=by
 have:=(Ze7 hg).1
 simp [Zzc];omega
theorem Zsd (g:Graph) (c:List Int) (a:Nat) (b:Int):Zw7 (Zyc g c a) b=if b∈Zqc g a then some (Zxc c a b) else none:=by
 unfold Zw7 Zyc
 dsimp only
 rw [List.find?_map]
 have e:((fun x:Side=>decide (x.Peer=b))∘Zxc c a)=fun z=>decide (z=b):=rfl
 rw [e]
 by_cases h:b∈Zqc g a
 ·rw [if_pos h]
  have:(Zqc g a).find? (fun z=>decide (z=b))=some b:=by
   cases hf:(Zqc g a).find? (fun z=>decide (z=b)) with
   | none=>rw [List.find?_eq_none] at hf;exact absurd (by simp) (hf b h)
   | some z=>have:=List.find?_some hf;simp at this;rw [this]
  rw [this];rfl
 ·rw [if_neg h]
  have:(Zqc g a).find? (fun z=>decide (z=b))=none:=by
   rw [List.find?_eq_none];intro z hz;simp;rintro rfl;exact h hz
  rw [this];rfl
theorem Ztd {g:Graph} (hg:okG g=true) {a b:Int} (h:b∈Zqc g a):a∈Zqc g b:=by
 rw [Zvc hg] at *;exact h.symm
theorem tableT_pw {g:Graph} (hg:okG g=true) (c:List Int) (d:Diner) (hd:d∈Zzc g c):d.Sides.Pairwise fun x y=>x.Peer<y.Peer:=by
 obtain ⟨a,_,rfl⟩:=List.mem_map.1 hd
 simp only [Zyc,List.pairwise_map]
 exact Zrc hg a
theorem graphP_T {g:Graph} (hg:okG g=true) (c:List Int):Zb8 (Zzc g c)=(g,true):=by
 obtain ⟨g1,g2,g3,g4,g5⟩:=Ze7 hg
 have hlen:=Zrd hg c
 have hall:Z88 (Zzc g c) 0 (Zzc g c)=true:=by
  rw [Zib]
  intro k d hd
  have hk:=(List.getElem?_eq_some_iff.1 hd).1
  have e:=Zqd (g:=g) (c:=c) (a:=(k:Int)) (by omega) (by omega)
  rw [Int.toNat_natCast,hd] at e
  simp at e;subst e
  refine ⟨by simp [Zyc],?_⟩
  rw [Nat.zero_add,Zhb]
  refine ⟨fun x hx=>?_,tableT_pw hg c _ (List.mem_iff_getElem?.2 ⟨_,hd⟩),by simp⟩
  obtain ⟨b,hb,rfl⟩:=List.mem_map.1 hx
  obtain ⟨b1,b2,b3,_,_⟩:=Zwc hg hb
  have hs:Zw7 (Zyc g c b.toNat) k=some (Zxc c b.toNat k):=by
   rw [Zsd,if_pos]
   rw [Int.toNat_of_nonneg b1];exact Ztd hg hb
  have hs':(Zw7 (Zyc g c b.toNat) (k:Int)).isSome=true:=by rw [hs];rfl
  show (decide (0≤b)&&(decide (b<((Zzc g c).length:Int))&&(!decide (b=(k:Int))&&(match (Zzc g c)[b.toNat]? with | some e=>(Zw7 e k).isSome | none=>false))))=true
  rw [decide_eq_true b1,decide_eq_true (by omega),decide_eq_false b3,Zqd (c:=c) b1 b2]
  simpa using hs'
 have hedges:Z98 0 (Zzc g c)=g.Edges:=by
  refine pw_ext (R:=fun x y=>x.lt y=true) Edge.lt_irr (fun x y h1 h2=>Edge.lt_irr x (Edge.lt_trans h1 h2)) (edgesL_pw (tableT_pw hg c)) (okG_pw hg) fun e=>?_
  rw [Zkb]
  constructor
  ·rintro ⟨k,d,hd,he⟩
   have hk:=(List.getElem?_eq_some_iff.1 hd).1
   have e':=Zqd (g:=g) (c:=c) (a:=(k:Int)) (by omega) (by omega)
   rw [Int.toNat_natCast,hd] at e'
   simp at e';subst e'
   obtain ⟨h1,h2,x,hx,h3⟩:=Zjb.1 he
   obtain ⟨b,hb,rfl⟩:=List.mem_map.1 hx
   simp only [Zxc] at h3
   subst h3
   rw [Nat.zero_add] at h1 h2
   rcases (Zvc hg).1 hb with hb | hb
   ·obtain ⟨e1,e2⟩:=e;dsimp only at h1 hb;rw [h1];exact hb
   ·have:=g4 _ hb;dsimp only at this;omega
  ·intro he
   have h:=g4 e he
   refine ⟨e.A.toNat,Zyc g c e.A.toNat,Zqd h.1 (by omega),Zjb.2 ⟨by omega,by omega,Zxc c e.A.toNat e.B,?_,rfl⟩⟩
   simp only [Zyc]
   refine List.mem_map_of_mem ?_
   rw [Zvc hg,Int.toNat_of_nonneg h.1]
   exact .inl he
 have hG:(⟨(Zzc g c).length,Z98 0 (Zzc g c)⟩:Graph)=g:=by
  rw [hedges,hlen]
 unfold Zb8
 rw [hG,hall,hg];rfl
def key (d:Diner):Int×List Int:=(d.ID,d.Sides.map (·.Peer))
def sideK (K:List (Int×List Int)) (i:Nat) (p:Int):Bool:=decide (0≤p)&&(decide (p<K.length)&&(!decide (p=i)&&(match K[p.toNat]? with | some e=>decide ((i:Int)∈e.2) | none=>false)))
def okFromK (K:List (Int×List Int)) (i:Nat):Option Int→List Int→Bool
 | _,[]=>true
 | p,x::r=>(match p with | none=>true | some q=>decide (q<x))&&(sideK K i x&&okFromK K i (some x) r)
def okAllK (K:List (Int×List Int)):Nat→List (Int×List Int)→Bool
 | _,[]=>true
 | i,d::r=>decide (d.1=i)&&(okFromK K i none d.2&&okAllK K (i+1) r)
def edgesK:Nat→List (Int×List Int)→List Edge
 | _,[]=>[]
 | i,d::r=>((d.2.filter fun x=>decide ((i:Int)<x)).map fun x=>⟨i,x⟩)++edgesK (i+1) r
theorem Zud (d:Diner) (i:Int):(Zw7 d i).isSome=decide (i∈d.Sides.map (·.Peer)):=by
 unfold Zw7
 rw [Bool.eq_iff_iff,List.find?_isSome,decide_eq_true_iff,List.mem_map]
 simp
theorem sideB_key (l:List Diner) (i:Nat) (x:Side):Z58 l i x=sideK (l.map key) i x.Peer:=by
 unfold Z58 sideK
 rw [List.length_map,List.getElem?_map]
 cases l[x.Peer.toNat]? with
 | none=>rfl
 | some e=>simp only [Option.map_some,key,Zud]
theorem Zvd (l:List Diner) (i:Nat):∀(xs:List Side) (p:Option Int),Z68 l i p xs=okFromK (l.map key) i p (xs.map (·.Peer))
 | [],_=>rfl
 | x::r,p=>by
   simp only [Z68,List.map_cons,okFromK,Zvd l i r,sideB_key]
   cases p<;>rfl
theorem Zwd (l:List Diner):∀(r:List Diner) (i:Nat),Z88 l i r=okAllK (l.map key) i (r.map key)
 | [],_=>rfl
 | d::r,i=>by
   simp only [Z88,List.map_cons,okAllK,Zwd l r,Zvd]
   rfl
theorem Zxd:∀(r:List Diner) (i:Nat),Z98 i r=edgesK i (r.map key)
 | [],_=>rfl
 | d::r,i=>by
   simp only [Z98,List.map_cons,edgesK,Zxd r,Z78,key,List.filter_map,List.map_map]
   rfl
theorem graphP_key {l m:List Diner} (h:l.map key=m.map key):Zb8 l=Zb8 m:=by
 have hl:l.length=m.length:=by have:=congrArg List.length h;simpa using this
 unfold Zb8
 rw [Zwd,Zwd,Zxd,Zxd,h,hl]
theorem pw_len:∀(l:List Int) (q n:Int),l.Pairwise (· < ·)→(∀x∈l,q≤x∧x<n)→l=[]∨(l.length:Int)≤n-q
 | [],_,_,_,_=>.inl rfl
 | x::l,q,n,h,hb=>by
   rw [List.pairwise_cons] at h
   have h1:=hb x (by simp)
   right
   rcases pw_len l (x+1) n h.2 (fun y hy=>⟨by have:=h.1 y hy;omega,(hb y (by simp [hy])).2⟩) with rfl | h2
   ·simp only [List.length_cons,List.length_nil];omega
   ·simp only [List.length_cons];omega
theorem near_few {g:Graph} (hg:okG g=true) (a:Int):((Zqc g a).length:Int)≤g.N:=by
 rcases pw_len (Zqc g a) 0 g.N (Zrc hg a) (fun x hx=>by have:=Zwc hg hx;omega) with h | h
 ·rw [h];exact (Ze7 hg).1
 ·omega
def has (x:Side) (k:Int):Bool:=if k=1 then x.Fork else x.Token
def bn (b:Bool):Nat:=if b then 1 else 0
def hasD (d:Diner) (k b:Int):Nat:=match Zw7 d b with | some x=>bn (has x k) | none=>0
def cnt (M:List Mail) (k a b:Int):Nat:=M.count ⟨a,b,⟨k,1,0⟩⟩
structure LocD (d:Diner):Prop where
 lo:0≤d.Phase
 hi:d.Phase≤2
 side:∀x∈d.Sides,x.Epoch=1∧x.State=0∧(x.Dirty=true→x.Fork=true)
 eat:d.Phase=2→∀x∈d.Sides,x.Fork=true∧x.Dirty=true
def mailG (g:Graph) (m:Mail):Prop:=(m.Msg.Kind=1∨m.Msg.Kind=2)∧m.Msg.Epoch=1∧m.Msg.Num=0∧m.To∈Zqc g m.From
structure Inv (g:Graph) (s:Scene):Prop where
 len:(s.Diners.length:Int)=g.N
 shp:∀(a:Nat) d,s.Diners[a]?=some d→d.ID=a∧d.Sides.map (·.Peer)=Zqc g a
 loc:∀d∈s.Diners,LocD d
 mail:∀m∈s.Mail,mailG g m
 one:∀(a b:Nat) da db,s.Diners[a]?=some da→s.Diners[b]?=some db→(b:Int)∈Zqc g a→∀k,(k=1∨k=2)→hasD da k b+hasD db k a+cnt s.Mail k a b+cnt s.Mail k b a=1
theorem Inv.set {g:Graph} {s:Scene} (hg:okG g=true) (h:Inv g s) {a:Nat} {d d':Diner} (hd:s.Diners[a]?=some d) (hid:d'.ID=d.ID) (hp:d'.Sides.map (·.Peer)=d.Sides.map (·.Peer)) (hl:LocD d')
  {M:List Mail} (hm:∀m∈M,mailG g m) (ho:∀k p q:Int,p≠a→q≠a→cnt M k p q=cnt s.Mail k p q)
  (hc:∀b∈Zqc g a,∀k,(k=1∨k=2)→hasD d' k b+cnt M k a b+cnt M k b a=hasD d k b+cnt s.Mail k a b+cnt s.Mail k b a):Inv g ⟨s.Diners.set a d',M⟩:=by
 have hlt:=(List.getElem?_eq_some_iff.1 hd).1
 have get:∀(k:Nat) e,(s.Diners.set a d')[k]?=some e→(k=a∧e=d')∨(k≠a∧s.Diners[k]?=some e):=fun k e he=>by
  rw [List.getElem?_set] at he
  split at he
  ·rename_i hk
   simp at he
   exact .inl ⟨hk.symm,he.symm⟩
  ·rename_i hk
   exact .inr ⟨fun e=>hk e.symm,he⟩
 refine ⟨by simpa using h.len,fun k e he=>?_,fun e he=>?_,hm,fun x y dx dy hx hy hxy k hk=>?_⟩
 ·rcases get k e he with ⟨rfl,rfl⟩ | ⟨_,he⟩
  ·rw [hid,hp];exact h.shp k d hd
  ·exact h.shp k e he
 ·obtain ⟨k,hk⟩:=List.mem_iff_getElem?.1 he
  rcases get k e hk with ⟨_,rfl⟩ | ⟨_,he⟩
  ·exact hl
  ·exact h.loc e (List.mem_iff_getElem?.2 ⟨_,he⟩)
 ·dsimp only at hx hy ⊢
  have hne:=(Zwc hg hxy).2.2.1
  have hyx:=Ztd hg hxy
  rcases get x dx hx with ⟨rfl,rfl⟩ | ⟨x1,hx'⟩<;>rcases get y dy hy with ⟨rfl,rfl⟩ | ⟨y1,hy'⟩
  ·exact absurd rfl hne
  ·have:=hc y hxy k hk
   have:=h.one x y d dy hd hy' hxy k hk
   omega
  ·have:=hc x hyx k hk
   have:=h.one x y dx d hx' hd hxy k hk
   omega
  ·rw [ho k x y (by omega) (by omega),ho k y x (by omega) (by omega)]
   exact h.one x y dx dy hx' hy' hxy k hk
theorem fire2_peer (ph:Int) (x:Side):(Zc9 ph x).Peer=x.Peer∧(Zc9 ph x).Epoch=x.Epoch∧(Zc9 ph x).State=x.State:=by
 unfold Zc9 Zb9
 split<;>split<;>exact ⟨rfl,rfl,rfl⟩
theorem Zyd (ph:Int) (x:Side) (h:x.Dirty=true→x.Fork=true):(Zc9 ph x).Dirty=true→(Zc9 ph x).Fork=true:=by
 unfold Zc9 Zb9
 split<;>split<;>simp_all
theorem fire2_eats (x:Side):Zc9 2 x=x:=by
 unfold Zc9 Zb9
 simp
theorem fire_side (id ph k:Int) (x:Side) (hk:k=1∨k=2) (he:x.Epoch=1):bn (has (Zc9 ph x) k)+(Zd9 id ph x).count ⟨id,x.Peer,⟨k,1,0⟩⟩=bn (has x k):=by
 obtain ⟨p,e,st,f,d,t,bo,ask⟩:=x
 dsimp only at he
 subst he
 unfold Zd9 Zc9 Zb9 has bn
 generalize h1:decide (ph=1)=q1
 generalize h2:decide (ph=2)=q2
 rcases hk with rfl | rfl<;>cases f<;>cases d<;>cases t<;>cases q1<;>cases q2<;>simp
theorem Zzd {id ph:Int} {x:Side} {m:Mail} (h:m∈Zd9 id ph x):m.From=id∧m.To=x.Peer∧(m.Msg.Kind=1∨m.Msg.Kind=2)∧m.Msg.Epoch=x.Epoch∧m.Msg.Num=0:=by
 unfold Zd9 at h
 rw [List.mem_append] at h
 rcases h with h | h
 ·split at h
  ·simp at h;subst h;exact ⟨rfl,rfl,.inl rfl,rfl,rfl⟩
  ·simp at h
 ·split at h
  ·simp at h;subst h;exact ⟨rfl,rfl,.inr rfl,rfl,rfl⟩
  ·simp at h
theorem Z0e {M:List Mail} {m:Mail} (h:m∉M):M.count m=0:=List.count_eq_zero.2 h
theorem Z1e (id ph k b:Int):∀(l:List Side),l.Pairwise (fun x y=>x.Peer<y.Peer)→(l.flatMap (Zd9 id ph)).count ⟨id,b,⟨k,1,0⟩⟩=match l.find? (fun x=>decide (x.Peer=b)) with | some x=>(Zd9 id ph x).count ⟨id,x.Peer,⟨k,1,0⟩⟩ | none=>0
 | [],_=>rfl
 | x::l,h=>by
   rw [List.pairwise_cons] at h
   rw [List.flatMap_cons,List.count_append,Z1e id ph k b l h.2,List.find?_cons]
   by_cases hx:x.Peer=b
   ·have:l.find? (fun x=>decide (x.Peer=b))=none:=by
     rw [List.find?_eq_none]
     intro y hy
     have:=h.1 y hy
     simp;omega
    rw [this,decide_eq_true hx,←hx];simp
   ·rw [decide_eq_false hx,Z0e (fun hm=>hx (Zzd hm).2.1.symm)];simp
theorem Z2e {d:Diner} {k p q:Int} (hp:p≠d.ID):(Zg9 d).count ⟨p,q,⟨k,1,0⟩⟩=0:=by
 refine Z0e fun h=>?_
 obtain ⟨x,_,hx⟩:=List.mem_flatMap.1 h
 exact hp (Zzd hx).1
def Z3e (d:Diner) (x:Side):Side:=if decide (d.Phase=1)&&(d.Sides.map (Zc9 d.Phase)).all (·.Fork) then Ze9 (Zc9 d.Phase x) else Zc9 d.Phase x
theorem Z4e (d:Diner):(Zf9 d).Sides=d.Sides.map (Z3e d):=by
 unfold Zf9 Z3e
 split
 ·simp only [List.map_map];rfl
 ·rfl
theorem Z5e (d:Diner):(Zf9 d).ID=d.ID:=by unfold Zf9;split<;>rfl
theorem Z6e (d:Diner) (x:Side):(Z3e d x).Peer=x.Peer∧(Z3e d x).Epoch=x.Epoch∧(Z3e d x).State=x.State∧∀k,has (Z3e d x) k=has (Zc9 d.Phase x) k:=by
 obtain ⟨h1,h2,h3⟩:=fire2_peer d.Phase x
 unfold Z3e
 split
 ·exact ⟨h1,h2,h3,fun k=>rfl⟩
 ·exact ⟨h1,h2,h3,fun k=>rfl⟩
theorem Z7e (d:Diner) (f:Side→Side) (hf:∀x,(f x).Peer=x.Peer) (i p b:Int):Zw7 ⟨i,p,d.Sides.map f⟩ b=(Zw7 d b).map f:=by
 unfold Zw7
 dsimp only
 rw [List.find?_map]
 congr 2
 funext x
 simp only [Function.comp,hf]
theorem Z8e (d:Diner) (b:Int):Zw7 (Zf9 d) b=(Zw7 d b).map (Z3e d):=by
 have:=Z7e d (Z3e d) (fun x=>(Z6e d x).1) (Zf9 d).ID (Zf9 d).Phase b
 rw [←Z4e] at this
 exact this
theorem Z9e {d:Diner} {b:Int} {x:Side} (h:Zw7 d b=some x):x∈d.Sides∧x.Peer=b:=by
 unfold Zw7 at h
 exact ⟨List.mem_of_find?_eq_some h,by simpa using List.find?_some h⟩
theorem LocD.fire {d:Diner} (h:LocD d):LocD (Zf9 d):=by
 have hs:∀y∈(Zf9 d).Sides,∃x∈d.Sides,y=Z3e d x:=fun y hy=>by
  rw [Z4e] at hy
  obtain ⟨x,hx,rfl⟩:=List.mem_map.1 hy
  exact ⟨x,hx,rfl⟩
 have hph:(Zf9 d).Phase=2→(decide (d.Phase=1)&&(d.Sides.map (Zc9 d.Phase)).all (·.Fork))=true∨d.Phase=2:=fun h2=>by
  unfold Zf9 at h2
  split at h2
  ·rename_i h1;exact .inl h1
  ·exact .inr h2
 have allF:(decide (d.Phase=1)&&(d.Sides.map (Zc9 d.Phase)).all (·.Fork))=true→∀x∈d.Sides,(Zc9 d.Phase x).Fork=true:=fun h1 x hx=>by
  rw [Bool.and_eq_true,List.all_eq_true] at h1
  exact h1.2 _ (List.mem_map_of_mem hx)
 refine ⟨?_,?_,fun y hy=>?_,fun h2 y hy=>?_⟩
 ·unfold Zf9;split
  ·show (0:Int)≤2;omega
  ·exact h.lo
 ·unfold Zf9;split
  ·exact Int.le_refl _
  ·exact h.hi
 ·obtain ⟨x,hx,rfl⟩:=hs y hy
  obtain ⟨s1,s2,s3⟩:=h.side x hx
  obtain ⟨p1,p2,p3,_⟩:=Z6e d x
  refine ⟨by rw [p2,s1],by rw [p3,s2],?_⟩
  unfold Z3e
  split
  ·rename_i h1;exact fun _=>allF h1 x hx
  ·exact Zyd _ _ s3
 ·obtain ⟨x,hx,rfl⟩:=hs y hy
  rcases hph h2 with h1 | h1
  ·unfold Z3e
   rw [if_pos h1]
   exact ⟨allF h1 x hx,rfl⟩
  ·unfold Z3e
   rw [h1,show (decide ((2:Int)=1)&&(d.Sides.map (Zc9 2)).all (·.Fork))=false from rfl,if_neg (by simp),fire2_eats]
   exact h.eat h1 x hx
theorem Inv.pw {g:Graph} {s:Scene} (hg:okG g=true) (h:Inv g s) {a:Nat} {d:Diner} (hd:s.Diners[a]?=some d):d.Sides.Pairwise fun x y=>x.Peer<y.Peer:=by
 have:=Zrc hg a
 rw [←(h.shp a d hd).2,List.pairwise_map] at this
 exact this
theorem Inv.fire {g:Graph} {s:Scene} (hg:okG g=true) (h:Inv g s) {a:Nat} {d:Diner} (hd:s.Diners[a]?=some d):Inv g ⟨s.Diners.set a (Zf9 d),s.Mail++Zg9 d⟩:=by
 obtain ⟨hid,hsh⟩:=h.shp a d hd
 have hdm:=List.mem_iff_getElem?.2 ⟨_,hd⟩
 have hloc:=h.loc d hdm
 refine h.set hg hd (Z5e d) ?_ hloc.fire (fun m hm=>?_) (fun k p q hp hq=>?_) (fun b hb k hk=>?_)
 ·rw [Z4e,List.map_map]
  refine List.map_congr_left fun x _=>(Z6e d x).1
 ·rcases List.mem_append.1 hm with hm | hm
  ·exact h.mail m hm
  ·obtain ⟨x,hx,hxm⟩:=List.mem_flatMap.1 hm
   obtain ⟨m1,m2,m3,m4,m5⟩:=Zzd hxm
   refine ⟨m3,by rw [m4];exact (hloc.side x hx).1,m5,?_⟩
   rw [m1,m2,hid,←hsh]
   exact List.mem_map_of_mem hx
 ·unfold cnt
  rw [List.count_append,Z2e (by rw [hid];exact hp)]
  rfl
 ·have hne:=(Zwc hg hb).2.2.1
  unfold cnt
  rw [List.count_append,List.count_append,Z2e (p:=b) (by rw [hid];exact hne)]
  have e:=Z1e d.ID d.Phase k b d.Sides (h.pw hg hd)
  rw [hid] at e
  unfold Zg9
  rw [hid,e]
  unfold hasD
  rw [Z8e]
  unfold Zw7
  cases hf:d.Sides.find? (fun x=>decide (x.Peer=b)) with
  | none=>simp
  | some x=>
    have hx:=List.mem_of_find?_eq_some hf
    have:=fire_side (a:Int) d.Phase k x hk (hloc.side x hx).1
    have h3:=(Z6e d x).2.2.2 k
    simp only [Option.map_some,h3]
    omega
def Zae (d:Drinker) (x:Side):Bool:=decide (x.Peer∈d.Need)
def Zbe (nd:Bool) (th:Int) (x:Side):Bool:=nd&&(decide (th=2)||(decide (th=1)&&x.Fork))
def Zce (nd:Bool) (th:Int) (x:Side):Side:=if x.Bottle&&(x.Ask&&!Zbe nd th x) then {x with Bottle:=false} else x
def Zde (nd:Bool) (th:Int) (x:Side):Side:=if decide (th=1)&&(nd&&((Zce nd th x).Ask&&!(Zce nd th x).Bottle)) then {Zce nd th x with Ask:=false} else Zce nd th x
def Zee (id:Int) (nd:Bool) (th:Int) (x:Side):List Mail:=
 (if x.Bottle&&(x.Ask&&!Zbe nd th x) then [⟨id,x.Peer,⟨3,x.Epoch,0⟩⟩] else []) ++
 (if decide (th=1)&&(nd&&((Zce nd th x).Ask&&!(Zce nd th x).Bottle)) then [⟨id,x.Peer,⟨4,x.Epoch,0⟩⟩] else [])
theorem Zfe (nd:Bool) (th:Int) (x:Side):(Zde nd th x).Peer=x.Peer∧(Zde nd th x).Epoch=x.Epoch∧(Zde nd th x).State=x.State∧(Zde nd th x).Fork=x.Fork∧(Zde nd th x).Dirty=x.Dirty∧(Zde nd th x).Token=x.Token:=by
 unfold Zde Zce
 split<;>split<;>exact ⟨rfl,rfl,rfl,rfl,rfl,rfl⟩
theorem botM_len (id:Int) (nd:Bool) (th:Int) (x:Side):(Zee id nd th x).length≤2:=by
 unfold Zee
 rw [List.length_append]
 have h1:∀(c:Bool) (m:Mail),(if c then [m] else []).length≤1:=by intro c m;cases c<;>simp
 have:=h1 (x.Bottle&&(x.Ask&&!Zbe nd th x)) ⟨id,x.Peer,⟨3,x.Epoch,0⟩⟩
 have:=h1 (decide (th=1)&&(nd&&((Zce nd th x).Ask&&!(Zce nd th x).Bottle))) ⟨id,x.Peer,⟨4,x.Epoch,0⟩⟩
 omega
theorem botMs_len (N:List Int) (id th:Int) (l:List Side):(l.flatMap fun x=>Zee id (decide (x.Peer∈N)) th x).length≤2*l.length:=by
 induction l with
 | nil=>simp
 | cons x l ih=>have:=botM_len id (decide (x.Peer∈N)) th x;rw [List.flatMap_cons,List.length_append,List.length_cons];omega
theorem s_setHas (l:List Int) (x:Int) (hl:l.length≤1000000):Z8a l x=some (decide (x∈l)):=by
 simp only [Z8a,Zpd l x hl,Option.bind_some]
theorem s_send2 (y:Side) (k id ph th:Int) (N:List Int) (l:List Side) (E:List Mail) (hE:E.length≤1000000):Zwa y k id ph th N l E=some (E++[⟨id,y.Peer,⟨k,y.Epoch,0⟩⟩]):=by
 simp only [Zwa]
 rw [Z06 _ _ (by omega) (by simp;omega),Option.bind_some]
theorem bot_step (id ph th:Int) (N:List Int) (hN:N.length≤1000000) (l:List Side) (hl:l.length≤5000) (pre post:List Side) (x:Side) (h:l=pre++x::post) (all:Bool) (A:List Side) (hA:A.length=pre.length) (E:List Mail) (hE:E.length≤900000):
  Z7b id ph th N l (all,(pre.length:Int),A++x::post,E)=some (.inl (all&&(!decide (x.Peer∈N)||(Zde (decide (x.Peer∈N)) th x).Bottle),((pre.length+1:Nat):Int),A++Zde (decide (x.Peer∈N)) th x::post,E++Zee id (decide (x.Peer∈N)) th x)):=by
 have hx:=Zo7 h
 have hm:=Zp7 h
 have at1:∀y:Side,at_ (A++y::post) (pre.length:Int)=some y:=fun y=>by rw [←hA];exact Zr7 rfl
 have st1:∀y z:Side,(A++y::post).set ((pre.length:Int)).toNat z=A++z::post:=fun y z=>by rw [←hA];exact Zs7 _ _ _ _
 generalize hnd:decide (x.Peer∈N)=nd
 have j7:∀(S:List Side) (E':List Mail) z,Z1b (pre.length:Int) S E' z=some (.inl (z,((pre.length+1:Nat):Int),S,E')):=fun S E' z=>by
  dsimp only [Z1b]
  rw [Z36 (by omega)]
 have j6:∀(y:Side) (E':List Mail),Z2b all (pre.length:Int) nd (A++y::post,E')=some (.inl (all&&(!nd||y.Bottle),((pre.length+1:Nat):Int),A++y::post,E')):=fun y E'=>by
  dsimp only [Z2b]
  rw [at1,Option.bind_some]
  simp only [j7]
  cases all<;>cases nd<;>rfl
 have j4:∀(y:Side) (E':List Mail),E'.length≤950000→Z4b id ph th N all (pre.length:Int) nd (A++y::post,E') =
   if decide (th=1)&&(nd&&(y.Ask&&!y.Bottle)) then some (.inl (all&&(!nd||y.Bottle),((pre.length+1:Nat):Int),A++{y with Ask:=false}::post,E'++[⟨id,y.Peer,⟨4,y.Epoch,0⟩⟩])) else some (.inl (all&&(!nd||y.Bottle),((pre.length+1:Nat):Int),A++y::post,E')):=fun y E' hE'=>by
  have j5:∀z,Z3b id ph th N all (pre.length:Int) nd (A++y::post) E' z=if z then some (.inl (all&&(!nd||y.Bottle),((pre.length+1:Nat):Int),A++{y with Ask:=false}::post,E'++[⟨id,y.Peer,⟨4,y.Epoch,0⟩⟩])) else some (.inl (all&&(!nd||y.Bottle),((pre.length+1:Nat):Int),A++y::post,E')):=fun z=>by
   cases z with
   | false=>dsimp only [Z3b];rw [Zw5,j6];rfl
   | true=>
     dsimp only [Z3b]
     rw [Zv5,at1,Option.bind_some,st1,s_send2 _ _ _ _ _ _ _ _ (by omega),Option.bind_some,j6]
     rfl
  dsimp only [Z4b]
  rw [at1,Option.bind_some]
  simp only [j5]
  cases decide (th=1)<;>cases nd<;>cases y.Ask<;>rfl
 have j3:∀z,Z5b id ph th N all (pre.length:Int) (A++x::post) E x nd z=if z then Z4b id ph th N all (pre.length:Int) nd (A++{x with Bottle:=false}::post,E++[⟨id,x.Peer,⟨3,x.Epoch,0⟩⟩]) else Z4b id ph th N all (pre.length:Int) nd (A++x::post,E):=fun z=>by
  cases z with
  | false=>dsimp only [Z5b];rw [Zw5];rfl
  | true=>
    dsimp only [Z5b]
    rw [Zv5,st1,s_send2 _ _ _ _ _ _ _ _ (by omega),Option.bind_some]
    rfl
 have j2:∀z,Z6b id ph th N all (pre.length:Int) (A++x::post) E x nd z=Z5b id ph th N all (pre.length:Int) (A++x::post) E x nd (x.Bottle&&(x.Ask&&!z)):=fun z=>by
  dsimp only [Z6b]
  cases x.Bottle<;>cases x.Ask<;>rfl
 have e:Z7b id ph th N l (all,(pre.length:Int),A++x::post,E)=Z5b id ph th N all (pre.length:Int) (A++x::post) E x nd (x.Bottle&&(x.Ask&&!Zbe nd th x)):=by
  dsimp only [Z7b]
  rw [Z16 hx,Zv5,at1,Option.bind_some,s_setHas N _ hN,Option.bind_some,hnd]
  simp only [j2]
  unfold Zbe
  cases nd<;>cases decide (th=2)<;>cases decide (th=1)<;>rfl
 rw [e,j3]
 cases hz:(x.Bottle&&(x.Ask&&!Zbe nd th x)) with
 | false=>
   have b1:Zce nd th x=x:=by unfold Zce;rw [hz];rfl
   rw [if_neg (by simp),j4 _ _ (by omega)]
   unfold Zde Zee
   rw [b1,hz]
   cases (decide (th=1)&&(nd&&(x.Ask&&!x.Bottle)))<;>simp
 | true=>
   have b1:Zce nd th x={x with Bottle:=false}:=by unfold Zce;rw [hz];rfl
   rw [if_pos rfl,j4 _ _ (by simp;omega)]
   unfold Zde Zee
   rw [b1,hz]
   cases (decide (th=1)&&(nd&&(x.Ask&&!false)))<;>simp
theorem s_bottles (id ph th:Int) (N:List Int) (hN:N.length≤1000000) (l:List Side) (hl:l.length≤5000) (E:List Mail) (hE:E.length≤800000):
  Z8b id ph th N l E=some (if decide (th=1)&&(l.map fun x=>Zde (decide (x.Peer∈N)) th x).all (fun x=>!decide (x.Peer∈N)||x.Bottle) then 2 else th,l.map fun x=>Zde (decide (x.Peer∈N)) th x,E++l.flatMap fun x=>Zee id (decide (x.Peer∈N)) th x):=by
 have:=Zm7 l (Z7b id ph th N l) (fun pre=>((pre.map fun x=>Zde (decide (x.Peer∈N)) th x).all (fun x=>!decide (x.Peer∈N)||x.Bottle),(pre.length:Int),(pre.map fun x=>Zde (decide (x.Peer∈N)) th x)++l.drop pre.length,E++pre.flatMap fun x=>Zee id (decide (x.Peer∈N)) th x))
  (fun _ _=>some (if decide (th=1)&&(l.map fun x=>Zde (decide (x.Peer∈N)) th x).all (fun x=>!decide (x.Peer∈N)||x.Bottle) then 2 else th,l.map fun x=>Zde (decide (x.Peer∈N)) th x,E++l.flatMap fun x=>Zee id (decide (x.Peer∈N)) th x)) (fun pre x post h=>.inl ⟨by
    have hd:l.drop pre.length=x::post:=by rw [h];simp
    have hd':l.drop (pre++[x]).length=post:=by rw [h];simp
    have hm:=Zp7 h
    have hE':=botMs_len N id th pre
    rw [hd,hd',bot_step id ph th N hN l hl pre post x h _ _ (by simp) _ (by rw [List.length_append];omega),Zt7]
    have hp:=(Zfe (decide (x.Peer∈N)) th x).1
    simp [hp],rfl⟩) (by
  dsimp only [Z7b]
  rw [Z26,Zw5]
  dsimp only [Z0b]
  rw [List.drop_length,List.append_nil]
  cases decide (th=1) with
  | false=>rfl
  | true=>cases (l.map fun x=>Zde (decide (x.Peer∈N)) th x).all (fun x=>!decide (x.Peer∈N)||x.Bottle)<;>rfl)
 unfold Z8b
 simpa using this
def Zge (d:Drinker):Int:=if decide (d.Thirst=1)&&decide (d.Diner.Phase=0) then 1 else if decide (d.Diner.Phase=2)&&(!decide (d.Thirst=1)&&!d.Diner.Sides.any (fun x=>decide (x.State=1))) then 0 else d.Diner.Phase
def Zhe (d:Drinker):Diner:=⟨d.Diner.ID,Zge d,d.Diner.Sides⟩
def Zie (d:Drinker):List Side:=(Zf9 (Zhe d)).Sides.map fun x=>Zde (Zae d x) d.Thirst x
def Zje (d:Drinker):Int:=if decide (d.Thirst=1)&&(Zie d).all (fun x=>!Zae d x||x.Bottle) then 2 else d.Thirst
def Zke (d:Drinker):Drinker:=⟨⟨d.Diner.ID,(Zf9 (Zhe d)).Phase,Zie d⟩,Zje d,d.Need⟩
def Zle (d:Drinker):List Mail:=Zg9 (Zhe d)++(Zf9 (Zhe d)).Sides.flatMap fun x=>Zee d.Diner.ID (Zae d x) d.Thirst x
theorem Zme (l:List Side) (p:Side→Option Bool) (q:Side→Bool) (hl:l.length≤4000000000000000000) (hp:∀x∈l,p x=some (q x)):Zg8 l p=some (l.any q):=by
 unfold Zg8
 rw [Z97 l p q hl hp,Option.bind_some,Z66,Z96]
theorem pre_ok {d:Drinker} (h:okD d.Diner=true):okD (Zhe d)=true:=by
 simp only [okD,Bool.and_eq_true,decide_eq_true_eq] at h ⊢
 refine ⟨h.1,?_,?_,h.2.2.2⟩
 ·show 0≤Zge d
  unfold Zge;split
  ·omega
  ·split<;>omega
 ·show Zge d≤2
  unfold Zge;split
  ·omega
  ·split<;>omega
theorem fireD_len (d:Diner):(Zf9 d).Sides.length=d.Sides.length:=by rw [Z4e];simp
theorem s_once (d:Drinker) (h:okD d.Diner=true) (hN:d.Need.length≤1000000) (out:List Mail) (ho:out.length≤700000):
  Zdb d.Diner.ID d.Diner.Phase d.Diner.Sides d.Thirst d.Need out=some ((Zke d).Diner.ID,(Zke d).Diner.Phase,(Zke d).Thirst,(Zke d).Diner.Sides,out++Zle d):=by
 have hl:=Z99 h
 have hp:=pre_ok h
 have hms:=Zh9 d.Diner.Sides d.Diner.ID (Zge d)
 have e0:(Zhe d).Sides=d.Diner.Sides:=rfl
 have hfl:=fireD_len (Zhe d)
 rw [e0] at hfl
 have j2:Zab d.Diner.ID d.Diner.Sides d.Thirst d.Need out (Zge d)=some ((Zke d).Diner.ID,(Zke d).Diner.Phase,(Zke d).Thirst,(Zke d).Diner.Sides,out++Zle d):=by
  dsimp only [Zab]
  have e1:(⟨d.Diner.ID,Zge d,d.Diner.Sides⟩:Diner)=Zhe d:=rfl
  have hml:(Zg9 (Zhe d)).length≤130:=by unfold Zg9;rw [e0];show (d.Diner.Sides.flatMap (Zd9 d.Diner.ID (Zge d))).length≤130;omega
  rw [e1,s_Fire,hp,if_pos rfl,Option.bind_some]
  dsimp only
  rw [Z06 _ _ (by omega) (by omega),Option.bind_some,s_bottles _ _ _ _ hN _ (by omega) _ (by rw [List.length_append];omega),Option.bind_some]
  rw [Z5e,List.append_assoc]
  rfl
 have hph:∀z:Int,z=Zge d→Zab d.Diner.ID d.Diner.Sides d.Thirst d.Need out z=some ((Zke d).Diner.ID,(Zke d).Diner.Phase,(Zke d).Thirst,(Zke d).Diner.Sides,out++Zle d):=fun z e=>by rw [e];exact j2
 have hcf:=Zme d.Diner.Sides (fun z=>Zz9 z) (fun x=>decide (x.State=1)) (by omega) (fun x _=>rfl)
 dsimp only [Zdb,Zcb,Zbb]
 rw [hcf,Option.bind_some]
 unfold Zge at hph
 by_cases h1:d.Thirst=1
 ·rw [decide_eq_true h1] at hph ⊢
  by_cases h2:d.Diner.Phase=0
  ·rw [decide_eq_true h2] at hph ⊢
   exact hph 1 rfl
  ·rw [decide_eq_false h2] at hph ⊢
   have:=hph d.Diner.Phase (by simp)
   rw [Zv5,Zw5,this]
   cases decide (d.Diner.Phase=2)<;>rfl
 ·rw [decide_eq_false h1] at hph ⊢
  rw [Zw5,Zw5]
  by_cases h2:d.Diner.Phase=2
  ·rw [decide_eq_true h2] at hph ⊢
   cases hop:d.Diner.Sides.any (fun x=>decide (x.State=1)) with
   | true=>
     rw [hop] at hph
     exact hph d.Diner.Phase (by simp)
   | false=>
     rw [hop] at hph
     exact hph 0 (by simp)
  ·rw [decide_eq_false h2] at hph ⊢
   exact hph d.Diner.Phase (by simp)
def Zne (x:Side):Nat:=bn x.Fork+bn x.Token+bn x.Bottle+bn x.Ask
def bits (l:List Side):Nat:=(l.map Zne).sum
def rank (th ph:Int):Nat:=if th=1 then (if ph=0 then 5 else if ph=1 then 4 else 3) else (if ph=1 then 2 else if ph=2 then 1 else 0)
def mu (d:Drinker):Nat:=bits d.Diner.Sides+rank d.Thirst d.Diner.Phase
theorem fire2_bits (id ph:Int) (x:Side):Zne (Zc9 ph x)+(Zd9 id ph x).length=Zne x:=by
 obtain ⟨p,e,st,f,d,t,bo,ask⟩:=x
 unfold Zd9 Zc9 Zb9 Zne bn
 generalize h1:decide (ph=1)=q1
 generalize h2:decide (ph=2)=q2
 cases f<;>cases d<;>cases t<;>cases q1<;>cases q2<;>simp<;>omega
theorem bot2_bits (id:Int) (nd:Bool) (th:Int) (x:Side):Zne (Zde nd th x)+(Zee id nd th x).length=Zne x:=by
 obtain ⟨p,e,st,f,d,t,bo,ask⟩:=x
 unfold Zee Zde Zce Zbe Zne bn
 generalize h1:decide (th=1)=q1
 generalize h2:decide (th=2)=q2
 cases bo<;>cases ask<;>cases nd<;>cases q1<;>cases q2<;>cases f<;>simp<;>omega
theorem fire3_bits (d:Diner) (x:Side):Zne (Z3e d x)=Zne (Zc9 d.Phase x):=by unfold Z3e;split<;>rfl
theorem Zoe (d:Drinker):bits (Zke d).Diner.Sides+(Zle d).length=bits d.Diner.Sides:=by
 have key:∀l:List Side,((l.map fun x=>Zde (Zae d (Z3e (Zhe d) x)) d.Thirst (Z3e (Zhe d) x)).map Zne).sum+((l.flatMap (Zd9 d.Diner.ID (Zge d))).length+((l.map (Z3e (Zhe d))).flatMap fun x=>Zee d.Diner.ID (Zae d x) d.Thirst x).length)=(l.map Zne).sum:=by
  intro l
  induction l with
  | nil=>rfl
  | cons x l ih=>
    have h1:=fire2_bits d.Diner.ID (Zge d) x
    have h2:=bot2_bits d.Diner.ID (Zae d (Z3e (Zhe d) x)) d.Thirst (Z3e (Zhe d) x)
    have h3:=fire3_bits (Zhe d) x
    have e:(Zhe d).Phase=Zge d:=rfl
    rw [e] at h3
    simp only [List.map_cons,List.sum_cons,List.flatMap_cons,List.length_append]
    omega
 have:=key d.Diner.Sides
 unfold bits Zle
 rw [List.length_append,Z4e]
 show (((Zie d).map Zne).sum+_=_)
 unfold Zie
 rw [Z4e]
 simp only [List.map_map] at this ⊢
 exact this
theorem Zpe (d:Diner):(Zf9 d).Phase=d.Phase∧(decide (d.Phase=1)&&(d.Sides.map (Zc9 d.Phase)).all (·.Fork))=false∨d.Phase=1∧(Zf9 d).Phase=2:=by
 unfold Zf9
 cases hq:decide (d.Phase=1)&&(d.Sides.map (Zc9 d.Phase)).all (·.Fork) with
 | false=>exact .inl ⟨rfl,rfl⟩
 | true=>
   rw [Bool.and_eq_true,decide_eq_true_eq] at hq
   exact .inr ⟨hq.1,rfl⟩
theorem fireM_nil {id ph:Int} {x:Side} (h:Zd9 id ph x=[]):Zc9 ph x=x:=by
 obtain ⟨p,e,st,f,d,t,bo,ask⟩:=x
 unfold Zd9 at h
 unfold Zc9
 rw [List.append_eq_nil_iff] at h
 obtain ⟨h1,h2⟩:=h
 split at h1
 ·simp at h1
 ·rename_i q1
  split at h2
  ·simp at h2
  ·rename_i q2
   rw [if_neg q2]
   unfold Zb9
   rw [if_neg q1]
theorem botM_nil {id:Int} {nd:Bool} {th:Int} {x:Side} (h:Zee id nd th x=[]):Zde nd th x=x:=by
 unfold Zee at h
 unfold Zde
 rw [List.append_eq_nil_iff] at h
 obtain ⟨h1,h2⟩:=h
 split at h1
 ·simp at h1
 ·rename_i q1
  split at h2
  ·simp at h2
  ·rename_i q2
   rw [if_neg q2]
   unfold Zce
   rw [if_neg q1]
theorem Zqe {α:Type} {f:α→α}:∀ {l:List α},(∀x∈l,f x=x)→l.map f=l
 | [],_=>rfl
 | x::l,h=>by rw [List.map_cons,h x (by simp),Zqe fun y hy=>h y (by simp [hy])]
theorem rank_le {th ph ph' th':Int} (h0:0≤ph) (h2:ph≤2) (d:Drinker) (hd:d.Thirst=th∧d.Diner.Phase=ph) (h1:ph'=Zge d∨Zge d=1∧ph'=2) (ht:th'=th∨th=1∧th'=2):rank th' ph'<rank th ph∨th'=th∧ph'=ph∧Zge d=ph:=by
 obtain ⟨d1,d2⟩:=hd
 unfold Zge at h1 ⊢
 rw [d1,d2] at h1 ⊢
 unfold rank
 have hp:ph=0∨ph=1∨ph=2:=by omega
 by_cases ht1:th=1
 ·subst ht1
  rcases hp with rfl | rfl | rfl<;>rcases ht with rfl | ⟨_,rfl⟩<;>simp at h1 ⊢ <;>rcases h1 with rfl | h1<;>simp_all
 ·have:th'=th:=by rcases ht with h | h;exact h;exact absurd h.1 ht1
  subst this
  rcases hp with rfl | rfl | rfl
  ·simp [ht1] at h1 ⊢;rcases h1 with rfl | h1<;>simp_all
  ·simp [ht1] at h1 ⊢;rcases h1 with rfl | h1<;>simp_all
  ·cases hop:d.Diner.Sides.any (fun x=>decide (x.State=1))<;>simp [ht1,hop] at h1 ⊢ <;>simp_all
theorem Zre {d:Drinker} (h0:0≤d.Diner.Phase) (h2:d.Diner.Phase≤2):Zke d=d∧Zle d=[]∨mu (Zke d)<mu d:=by
 have hb:=Zoe d
 have hf:=Zpe (Zhe d)
 have ht:Zje d=d.Thirst∨d.Thirst=1∧Zje d=2:=by
  unfold Zje
  cases hh:decide (d.Thirst=1)&&(Zie d).all (fun x=>!Zae d x||x.Bottle) with
  | false=>left;rfl
  | true=>right;rw [Bool.and_eq_true,decide_eq_true_eq] at hh;exact ⟨hh.1,rfl⟩
 have e1:(Zke d).Diner.Phase=(Zf9 (Zhe d)).Phase:=rfl
 have e2:(Zke d).Thirst=Zje d:=rfl
 have hr:=rank_le (th':=Zje d) (ph':=(Zf9 (Zhe d)).Phase) h0 h2 d ⟨rfl,rfl⟩ (by
  rcases hf with ⟨q,_⟩ | ⟨q1,q2⟩
  ·exact .inl q
  ·exact .inr ⟨q1,q2⟩) ht
 unfold mu
 rw [e1,e2]
 rcases hr with hr | ⟨r1,r2,r3⟩
 ·right;omega
 ·by_cases hm:(Zle d).length=0
  ·left
   have hm':Zle d=[]:=List.eq_nil_of_length_eq_zero hm
   refine ⟨?_,hm'⟩
   unfold Zle at hm'
   rw [List.append_eq_nil_iff] at hm'
   obtain ⟨m1,m2⟩:=hm'
   have hsame:∀x∈d.Diner.Sides,Z3e (Zhe d) x=x:=fun x hx=>by
    have hnil:Zd9 d.Diner.ID (Zge d) x=[]:=by
     have:∀y∈Zd9 d.Diner.ID (Zge d) x,y∈Zg9 (Zhe d):=fun y hy=>List.mem_flatMap.2 ⟨x,hx,hy⟩
     rw [m1] at this
     cases hc:Zd9 d.Diner.ID (Zge d) x with
     | nil=>rfl
     | cons y l=>exact absurd (this y (by rw [hc];simp)) (by simp)
    have h2x:Zc9 (Zge d) x=x:=fireM_nil hnil
    unfold Z3e
    rw [show (Zhe d).Phase=Zge d from rfl]
    split
    ·rename_i hc
     exfalso
     rcases hf with ⟨q,q'⟩ | ⟨q1,q2⟩
     ·have:=q';rw [show (Zhe d).Phase=Zge d from rfl] at this;rw [this] at hc;simp at hc
     ·rw [show (Zhe d).Phase=Zge d from rfl] at q1
      rw [q1] at r3
      rw [q2] at r2
      omega
    ·exact h2x
   have hS:(Zf9 (Zhe d)).Sides=d.Diner.Sides:=by
    rw [Z4e];exact Zqe hsame
   have hB:Zie d=d.Diner.Sides:=by
    unfold Zie
    rw [hS]
    refine Zqe fun x hx=>?_
    have hnil:Zee d.Diner.ID (Zae d x) d.Thirst x=[]:=by
     rw [hS] at m2
     have:∀y∈Zee d.Diner.ID (Zae d x) d.Thirst x,y∈d.Diner.Sides.flatMap fun x=>Zee d.Diner.ID (Zae d x) d.Thirst x:=fun y hy=>List.mem_flatMap.2 ⟨x,hx,hy⟩
     rw [m2] at this
     cases hc:Zee d.Diner.ID (Zae d x) d.Thirst x with
     | nil=>rfl
     | cons y l=>exact absurd (this y (by rw [hc];simp)) (by simp)
    exact botM_nil hnil
   unfold Zke
   rw [hB,r1,r2]
  ·right
   rw [r1,r2]
   omega
set_option maxRecDepth 100000
set_option maxHeartbeats 4000000
@[go_sem] def e122:EC:=.seq (.reg [(Qx 2 66 8 0),(Qa 3 (.mv (.c .ff)))]) (.seq (.reg [(Qf 4 0 2),(Ql 5 4),(Ql 6 1),(Qa 7 (.bin .eql (.t 5) (.t 6))),(Qm 8 7),(Qh 9 8 true 2 2),(Qn 10 8 true 9),(Qg 11 8 true (.bin .eql (.t 10) (.c (.iv 0)))),(Qp 12 8 11),(Qm 3 12)]) (.ret))
theorem ok122:FnOK Tryz.prog 122 Tryz.f122 e122 [.t 3] 2 11:=⟨by kernel_rfl,⟨_,rfl,by kernel_rfl⟩,by kernel_rfl,by kernel_rfl⟩
noncomputable def Zse:Bool→Option Bool
| x3=>
 some x3
noncomputable def Zte (x1:Side) (x2:Int):Option Bool:=
 ifb (decide (x1.Peer=x2)) (
 Zse (decide (x1.State=0))) (
 Zse false)
theorem Zue (x1:Side) (x2:Int) (r:Bool) (h:Zte x1 x2=some r):Zs2 Tryz.prog 122 [.agg (Side.row x1),.elt (Zw4 x2) 0] (.bv r):=by
 refine Zw2 ok122 rfl rfl fun w0 H0=>?_
 rw [Zte] at h
 refine Zn2 12 ?_;dsimp only [go_sem];refine An ?_;refine Zg4 (fun (x3:Bool)=>(⟨(an 3 (.bv x3::an 9 [])),[],[]⟩:St)) Zse r ?_ fun J1=>?_
 ·intro x3 h;rw [Zse] at h;(try dsimp only);exact Zq4 (res:=fun (r:Bool)=>.bv r) ok122 h
 ·refine Zp4 8 h rfl (fun _ h=>?_) fun _ h=>?_
  ·dsimp only [go_sem];refine Zn2 6 ?_;dsimp only [go_sem];refine An ?_;exact Zs4 J1 (s:=decide (x1.State=0)) h
  ·dsimp only [go_sem];refine Zn2 6 ?_;dsimp only [go_sem];refine An ?_;exact Zs4 J1 (s:=false) h
set_option maxRecDepth 100000
set_option maxHeartbeats 4000000
@[go_sem] def e121:EC:=.seq (.reg [(Qx 2 3 1 0),(Qa 3 (.mv (.c .ff)))]) (.seq (.reg [(Qf 4 0 1),(Qf 5 2 4),(Ql 6 5),(Qa 7 (.mkf 122 [(.t 2)])),(Qa 8 (.call 99 [(.t 6),(.t 7)])),(Qa 9 (.not (.t 8))),(Qm 3 9)]) (.ret))
theorem ok121:FnOK Tryz.prog 121 Tryz.f121 e121 [.t 3] 2 8:=⟨by kernel_rfl,⟨_,rfl,by kernel_rfl⟩,by kernel_rfl,by kernel_rfl⟩
noncomputable def Zve (x1:Int) (x2:Drinker):Option Bool:=
 (Zg8 x2.Diner.Sides ((fun z=>Zte z x1))).bind fun x3=>
 some (!x3)
theorem Zwe (x1:Int) (x2:Drinker) (r:Bool) (h:Zve x1 x2=some r):Zs2 Tryz.prog 121 [.iv x1,.elt (Drinker.row x2) 0] (.bv r):=by
 refine Zw2 ok121 rfl rfl fun w0 H0=>?_
 rw [Zve] at h
 refine Zn2 11 ?_;dsimp only [go_sem];refine An ?_;obtain ⟨x3,ex3,h⟩:=Bs h;refine Zu4 trivial ((Zt4.refl _).block 0 rfl rfl) (Zh8 x2.Diner.Sides _ _ ((fun z=>Zte z x1)) ⟨by kernel_rfl,rfl,fun z r hz=>Zue z x1 r hz⟩ _ ex3) (h:=?_);refine Zn2 3 ?_;dsimp only [go_sem];refine An ?_;exact Zq4 (res:=fun (r:Bool)=>.bv r) ok121 h
set_option maxRecDepth 100000
set_option maxHeartbeats 4000000
@[go_sem] def e77:EC:=.seq (.reg [(Qx 2 63 5 0),(Qa 4 (.alloc 63 [.iv 0,.iv 0,.nl,.iv 0,.nl])),(Qi 5 0)]) (.seq (.reg [(Qa 8 (.mkf 121 [(.t 2)])),(Qm 6 8)]) (.seq (.reg [(Qe 9 5 2),(Qa 10 (.call 58 [(.t 9)])),(Qm 7 10)]) (.seq (.blk 0 (.seq (.reg [(Qm 12 7),(Qa 13 (.bin .neq (.t 12) (.c (.iv 0)))),(Qm 11 13)]) (.ite (.t 11) (.skip) (.seq (.reg [(Qf 15 3 2),(Ql 16 15),(Qa 17 (.bin .neq (.t 16) (.c (.iv 0)))),(Qm 14 17)]) (.ite (.t 14) (.reg [(Qi 7 152)]) (.seq (.reg [(Qm 19 1),(Qm 20 6),(Qa 21 (.call 103 [(.t 19),(.t 20)])),(Qm 18 21)]) (.ite (.t 18) (.reg [(Qi 7 151)]) (.skip)))))))) (.seq (.seq (.reg [(Qm 22 7),(Qa 23 (.bin .neq (.t 22) (.c (.iv 0))))]) (.ite (.t 23) (.seq (.reg [(Qa 24 (.build [.iv 0,.iv 0,.nl,.iv 0,.nl] [])),(Qm 25 7),(Qs 5 4 24),(Qm 5 25)]) (.ret)) (.skip))) (.seq (.reg [(Qe 26 5 2),(Qa 27 (.call 120 [(.t 26)])),(Qs 5 2 27)]) (.seq (.reg [(Qm 28 1),(Qa 29 (.call 123 [(.t 28)])),(Qf 30 3 2),(Qb (.store 1 (.t 30) (.c (.iv 1)))),(Qf 31 4 2),(Qs 1 31 29)]) (.seq (.reg [(Qe 32 5 2),(Qs 5 4 32),(Qi 5 0)]) (.ret))))))))
theorem ok77:FnOK Tryz.prog 77 Tryz.f77 e77 [.c 4 (some 5),.t 5] 2 31:=⟨by kernel_rfl,⟨_,rfl,by kernel_rfl⟩,by kernel_rfl,by kernel_rfl⟩
noncomputable def Zxe (x1:Drinker) (x2:(List Int)):Int→Option (Drinker×Int)
| x5=>
 ifb (!decide (x5=0)) (
 some ((Drinker.mk ((Diner.mk 0 0 (([]:(List Side))))) 0 (([]:(List Int)))),x5)) (
 (Zx9 x1).bind fun x6=>
 (Zdc x2).bind fun x7=>
 some ((Drinker.mk x6.Diner 1 x7),0))
noncomputable def Zye (x1:Drinker) (x2:(List Int)):Option (Drinker×Int):=
 (Zt9 x1).bind fun x3=>
 ifb (!decide (x3=0)) (
 (Zxe x1 x2) x3) (
 ifb (!decide (x1.Thirst=0)) (
 (Zxe x1 x2) 152) (
 (Z57 x2 ((fun z=>Zve z x1))).bind fun x4=>
 ifb x4 (
 (Zxe x1 x2) 151) (
 (Zxe x1 x2) x3)))
theorem k_drink_Open (x1:Drinker) (x2:(List Int)) (r:(Drinker×Int)) (h:Zye x1 x2=some r):Zs2 Tryz.prog 77 [.agg (Drinker.row x1),.sl 1 (List.map Zw4 x2)] (.tup [.agg (Drinker.row r.1),.iv r.2]):=by
 refine Zw2 ok77 rfl rfl fun w0 H0=>?_
 rw [Zye] at h
 refine Zn2 14 ?_;dsimp only [go_sem];refine An ?_;obtain ⟨x3,ex3,h⟩:=Bs h;refine Z13 trivial (Zu9 x1 _ ex3) (h:=?_);refine Zn2 10 ?_;dsimp only [go_sem];refine An ?_;refine Zg4 (fun (x5:Int)=>(⟨(.any :: .sl 1 (List.map Zw4 x2) :: .ptr 0 0 :: .any :: .ptr 1 0 :: .any :: .any :: .iv x5::an 25 []),[some ⟨63,[.iv x1.Diner.ID,.iv x1.Diner.Phase,.sl 8 (List.map Side.row x1.Diner.Sides),.iv x1.Thirst,.sl 1 (List.map Zw4 x1.Need)]⟩,some ⟨63,[.iv 0,.iv 0,.nl,.iv 0,.nl]⟩],[]⟩:St)) (Zxe x1 x2) r ?_ fun J1=>?_
 ·intro x5 h;rw [Zxe] at h;(try dsimp only);refine Zn2 7 ?_;dsimp only [go_sem];refine An ?_;refine Zi4 h rfl (fun _ h=>?_) fun _ h=>?_
  ·refine Zn2 7 ?_;dsimp only [go_sem];refine An ?_;exact Zq4 (res:=fun (r:(Drinker×Int))=>.tup [.agg (Drinker.row r.1),.iv r.2]) ok77 h
  ·refine Zn2 4 ?_;dsimp only [go_sem];refine An ?_;obtain ⟨x6,ex6,h⟩:=Bs h;refine Z13 trivial (Zy9 x1 _ ex6) (h:=?_);refine Zn2 5 ?_;dsimp only [go_sem];refine An ?_;obtain ⟨x7,ex7,h⟩:=Bs h;refine Z13 trivial (k_set_Of x2 _ ex7) (h:=?_);refine Zn2 11 ?_;dsimp only [go_sem];refine An ?_;exact Zq4 (res:=fun (r:(Drinker×Int))=>.tup [.agg (Drinker.row r.1),.iv r.2]) ok77 h
 ·refine Zi4 h rfl (fun _ h=>?_) fun _ h=>?_
  ·refine Zn2 1 ?_;dsimp only [go_sem];refine An ?_;exact Zs4 J1 (s:=x3) h
  ·refine Zn2 7 ?_;dsimp only [go_sem];refine An ?_;refine Zi4 h rfl (fun _ h=>?_) fun _ h=>?_
   ·refine Zn2 3 ?_;dsimp only [go_sem];refine An ?_;exact Zs4 J1 (s:=152) h
   ·refine Zn2 4 ?_;dsimp only [go_sem];refine An ?_;obtain ⟨x4,ex4,h⟩:=Bs h;refine Zu4 trivial ((Zt4.refl _).block 0 rfl rfl) (Z67 x2 _ _ ((fun z=>Zve z x1)) ⟨by kernel_rfl,rfl,fun z r hz=>Zwe z x1 r hz⟩ _ ex4) (h:=?_);refine Zn2 2 ?_;dsimp only [go_sem];refine An ?_;refine Zi4 h rfl (fun _ h=>?_) fun _ h=>?_
    ·refine Zn2 3 ?_;dsimp only [go_sem];refine An ?_;exact Zs4 J1 (s:=151) h
    ·refine Zn2 1 ?_;dsimp only [go_sem];refine An ?_;exact Zs4 J1 (s:=x3) h
set_option maxRecDepth 100000
set_option maxHeartbeats 4000000
@[go_sem] def e75:EC:=.seq (.reg [(Qx 1 63 5 0),(Qa 2 (.alloc 63 [.iv 0,.iv 0,.nl,.iv 0,.nl])),(Qi 3 0)]) (.seq (.seq (.reg [(Qe 5 5 1),(Qa 6 (.call 58 [(.t 5)])),(Qm 4 6)]) (.seq (.reg [(Qm 7 4),(Qa 8 (.bin .neq (.t 7) (.c (.iv 0))))]) (.ite (.t 8) (.seq (.reg [(Qa 9 (.build [.iv 0,.iv 0,.nl,.iv 0,.nl] [])),(Qm 10 4),(Qs 5 2 9),(Qm 3 10)]) (.ret)) (.skip)))) (.seq (.seq (.reg [(Qf 11 3 1),(Ql 12 11),(Qa 13 (.bin .eql (.t 12) (.c (.iv 0))))]) (.ite (.t 13) (.seq (.reg [(Qa 14 (.build [.iv 0,.iv 0,.nl,.iv 0,.nl] [])),(Qs 5 2 14),(Qi 3 152)]) (.ret)) (.skip))) (.seq (.reg [(Qe 15 5 1),(Qa 16 (.call 120 [(.t 15)])),(Qs 5 1 16)]) (.seq (.reg [(Qf 17 3 1),(Qb (.store 1 (.t 17) (.c (.iv 0)))),(Qf 18 4 1),(Qb (.store 1 (.t 18) (.c .nl)))]) (.seq (.reg [(Qe 19 5 1),(Qs 5 2 19),(Qi 3 0)]) (.ret))))))
theorem ok75:FnOK Tryz.prog 75 Tryz.f75 e75 [.c 2 (some 5),.t 3] 1 19:=⟨by kernel_rfl,⟨_,rfl,by kernel_rfl⟩,by kernel_rfl,by kernel_rfl⟩
noncomputable def Zze (x1:Drinker):Option (Drinker×Int):=
 (Zt9 x1).bind fun x2=>
 ifb (!decide (x2=0)) (
 some ((Drinker.mk ((Diner.mk 0 0 (([]:(List Side))))) 0 (([]:(List Int)))),x2)) (
 ifb (decide (x1.Thirst=0)) (
 some ((Drinker.mk ((Diner.mk 0 0 (([]:(List Side))))) 0 (([]:(List Int)))),152)) (
 (Zx9 x1).bind fun x3=>
 some ((Drinker.mk x3.Diner 0 (([]:(List Int)))),0)))
theorem k_drink_Close (x1:Drinker) (r:(Drinker×Int)) (h:Zze x1=some r):Zs2 Tryz.prog 75 [.agg (Drinker.row x1)] (.tup [.agg (Drinker.row r.1),.iv r.2]):=by
 refine Zw2 ok75 rfl rfl fun w0 H0=>?_
 rw [Zze] at h
 refine Zn2 10 ?_;dsimp only [go_sem];refine An ?_;obtain ⟨x2,ex2,h⟩:=Bs h;refine Z13 trivial (Zu9 x1 _ ex2) (h:=?_);refine Zn2 7 ?_;dsimp only [go_sem];refine An ?_;refine Zi4 h rfl (fun _ h=>?_) fun _ h=>?_
 ·refine Zn2 7 ?_;dsimp only [go_sem];refine An ?_;exact Zq4 (res:=fun (r:(Drinker×Int))=>.tup [.agg (Drinker.row r.1),.iv r.2]) ok75 h
 ·refine Zn2 8 ?_;dsimp only [go_sem];refine An ?_;refine Zi4 h rfl (fun _ h=>?_) fun _ h=>?_
  ·refine Zn2 6 ?_;dsimp only [go_sem];refine An ?_;exact Zq4 (res:=fun (r:(Drinker×Int))=>.tup [.agg (Drinker.row r.1),.iv r.2]) ok75 h
  ·refine Zn2 4 ?_;dsimp only [go_sem];refine An ?_;obtain ⟨x3,ex3,h⟩:=Bs h;refine Z13 trivial (Zy9 x1 _ ex3) (h:=?_);refine Zn2 15 ?_;dsimp only [go_sem];refine An ?_;exact Zq4 (res:=fun (r:(Drinker×Int))=>.tup [.agg (Drinker.row r.1),.iv r.2]) ok75 h
set_option maxRecDepth 100000
set_option maxHeartbeats 4000000
@[go_sem] def e137:EC:=.seq (.reg [(Qx 3 66 8 0),(Qa 4 (.mv (.c .ff)))]) (.seq (.reg [(Qf 5 0 3),(Ql 6 5),(Ql 7 1),(Qa 8 (.bin .eql (.t 6) (.t 7))),(Qm 9 8),(Qh 10 9 true 1 3),(Qn 11 9 true 10),(Qh 12 9 true 1 2),(Qn 13 9 true 12),(Qg 14 9 true (.bin .eql (.t 11) (.t 13))),(Qp 15 9 14),(Qm 4 15)]) (.ret))
theorem ok137:FnOK Tryz.prog 137 Tryz.f137 e137 [.t 4] 3 13:=⟨by kernel_rfl,⟨_,rfl,by kernel_rfl⟩,by kernel_rfl,by kernel_rfl⟩
noncomputable def Z0f:Bool→Option Bool
| x4=>
 some x4
noncomputable def Z1f (x1:Side) (x2:Int) (x3:Msg):Option Bool:=
 ifb (decide (x1.Peer=x2)) (
 Z0f (decide (x1.Epoch=x3.Epoch))) (
 Z0f false)
theorem k_drink_Get_1 (x1:Side) (x2:Int) (x3:Msg) (r:Bool) (h:Z1f x1 x2 x3=some r):Zs2 Tryz.prog 137 [.agg (Side.row x1),.elt (Zw4 x2) 0,.elt (Msg.row x3) 0] (.bv r):=by
 refine Zw2 ok137 rfl rfl fun w0 H0=>?_
 rw [Z1f] at h
 refine Zn2 12 ?_;dsimp only [go_sem];refine An ?_;refine Zg4 (fun (x4:Bool)=>(⟨(an 4 (.bv x4::an 11 [])),[],[]⟩:St)) Z0f r ?_ fun J1=>?_
 ·intro x4 h;rw [Z0f] at h;(try dsimp only);exact Zq4 (res:=fun (r:Bool)=>.bv r) ok137 h
 ·refine Zp4 9 h rfl (fun _ h=>?_) fun _ h=>?_
  ·dsimp only [go_sem];refine Zn2 8 ?_;dsimp only [go_sem];refine An ?_;exact Zs4 J1 (s:=decide (x1.Epoch=x3.Epoch)) h
  ·dsimp only [go_sem];refine Zn2 8 ?_;dsimp only [go_sem];refine An ?_;exact Zs4 J1 (s:=false) h
set_option maxRecDepth 100000
set_option maxHeartbeats 4000000
@[go_sem] def e91:EC:=.seq (.reg [(Qx 3 63 5 0),(Qx 4 3 1 1),(Qx 5 93 3 2),(Qa 6 (.alloc 63 [.iv 0,.iv 0,.nl,.iv 0,.nl])),(Qi 7 0)]) (.seq (.seq (.reg [(Qe 13 5 3),(Qa 14 (.call 58 [(.t 13)])),(Qm 8 14)]) (.seq (.reg [(Qm 15 8),(Qa 16 (.bin .neq (.t 15) (.c (.iv 0))))]) (.ite (.t 16) (.seq (.reg [(Qa 17 (.build [.iv 0,.iv 0,.nl,.iv 0,.nl] [])),(Qm 18 8),(Qs 5 6 17),(Qm 7 18)]) (.ret)) (.skip)))) (.seq (.reg [(Qe 19 5 3),(Qa 20 (.call 120 [(.t 19)])),(Qs 5 3 20)]) (.seq (.reg [(Qf 21 0 3),(Qf 22 2 21),(Ql 23 22),(Qa 24 (.mkf 137 [(.t 4),(.t 5)])),(Qa 25 (.call 116 [(.t 23),(.t 24)])),(Qm 9 25)]) (.seq (.seq (.reg [(Qm 26 9),(Qa 27 (.bin .lss (.t 26) (.c (.iv 0)))),(Qm 28 27),(Qh 29 28 false 2 5),(Qn 30 28 false 29),(Qg 31 28 false (.bin .neq (.t 30) (.c (.iv 0)))),(Qq 32 28 31),(Qm 33 32),(Qh 34 33 false 0 5),(Qn 35 33 false 34),(Qg 36 33 false (.bin .neq (.t 35) (.c (.iv 3)))),(Qg 37 33 false (.mv (.t 36))),(Qh 38 37 true 0 5),(Qn 39 37 true 38),(Qg 40 37 true (.bin .neq (.t 39) (.c (.iv 4)))),(Qg 41 33 false (.pick (.t 37) (.t 40) (.c .ff))),(Qq 42 33 41)]) (.ite (.t 42) (.seq (.reg [(Qf 44 0 3),(Qe 45 3 44),(Ql 46 4),(Qe 47 3 5),(Qa 48 (.call 138 [(.t 45),(.t 46),(.t 47)])),(Qm 43 48),(Qa 49 (.ext (.t 43) 0)),(Qa 50 (.ext (.t 43) 1)),(Qa 10 (.alloc 61 [.iv 0,.iv 0,.nl])),(Qs 3 10 49),(Qm 11 50)]) (.seq (.seq (.reg [(Qm 51 11),(Qa 52 (.bin .neq (.t 51) (.c (.iv 0))))]) (.ite (.t 52) (.seq (.reg [(Qa 53 (.build [.iv 0,.iv 0,.nl,.iv 0,.nl] [])),(Qm 54 11),(Qs 5 6 53),(Qm 7 54)]) (.ret)) (.skip))) (.seq (.reg [(Qe 55 3 10),(Qf 56 0 3),(Qs 3 56 55)]) (.seq (.reg [(Qe 57 5 3),(Qs 5 6 57),(Qi 7 0)]) (.ret))))) (.skip))) (.seq (.reg [(Qf 58 0 3),(Qf 59 2 58),(Ql 60 59),(Qm 61 9),(Qk 62 8 60 61),(Qf 63 6 62),(Qm 12 63)]) (.seq (.seq (.reg [(Qf 64 0 5),(Ql 65 64),(Qa 66 (.bin .eql (.t 65) (.c (.iv 4))))]) (.ite (.t 66) (.reg [(Qf 67 0 3),(Qf 68 2 67),(Ql 69 68),(Qm 70 9),(Qk 71 8 69 70),(Qf 72 7 71),(Qm 12 72)]) (.skip))) (.seq (.seq (.reg [(Qm 73 12),(Qa 74 (.nilchk (.t 73))),(Ql 75 74)]) (.ite (.t 75) (.seq (.reg [(Qa 76 (.build [.iv 0,.iv 0,.nl,.iv 0,.nl] [])),(Qs 5 6 76),(Qi 7 132)]) (.ret)) (.skip))) (.seq (.reg [(Qm 77 12),(Qa 78 (.nilchk (.t 77))),(Qb (.store 1 (.t 78) (.c .tt)))]) (.seq (.reg [(Qe 79 5 3),(Qs 5 6 79),(Qi 7 0)]) (.ret))))))))))
theorem ok91:FnOK Tryz.prog 91 Tryz.f91 e91 [.c 6 (some 5),.t 7] 3 77:=⟨by kernel_rfl,⟨_,rfl,by kernel_rfl⟩,by kernel_rfl,by kernel_rfl⟩
noncomputable def Z2f (x1:Drinker):Option ((List Side)×(List Int)):=
 (Zx8 x1.Diner.Sides).bind fun x2=>
 (Zv9 x1.Need).bind fun x3=>
 some (x2,x3)
theorem Z3f (x1:Drinker) (r:((List Side)×(List Int))) (h:Z2f x1=some r):FunT Tryz.prog 120 [.agg [.iv x1.Diner.ID,.iv x1.Diner.Phase,.sl 8 (List.map Side.row x1.Diner.Sides),.iv x1.Thirst,.sl 1 (List.map Zw4 x1.Need)]] [none,none,none,none] [] (.agg [.iv x1.Diner.ID,.iv x1.Diner.Phase,.osl 0,.iv x1.Thirst,.osl 1]) [none,none,none,none] [some ⟨66,8,List.map Side.row r.1⟩,some ⟨3,1,List.map Zw4 r.2⟩]:=by
 refine Zj5 ok120 rfl rfl rfl (by first | rfl | simp [go_sem]) fun w0 M0=>?_
 rw [Z2f] at h
 dsimp only [lun,List.cons_append,List.nil_append]
 refine Zn2 6 ?_;dsimp only [go_sem];refine An ?_;refine Zi3 (by kernel_rfl) fun all hall hs hnap haf=>?_;dsimp only [go_sem];refine Z65 hall hs haf hnap 5 7 ?_;dsimp only [go_sem];refine An ?_;refine Zt3 3 rfl ?_;obtain ⟨x2,ex2,h⟩:=Bs h;refine Z55 hall rfl trivial (Zy8 x1.Diner.Sides _ ex2) (h:=?_);dsimp only [go_sem];refine Z65 hall hs haf hnap 2 4 ?_;dsimp only [go_sem];refine An ?_;refine Zt3 6 rfl ?_;obtain ⟨x3,ex3,h⟩:=Bs h;refine Z55 hall rfl trivial (Zw9 x1.Need _ ex3) (h:=?_);dsimp only [go_sem]
 refine Zt3 9 rfl ?_;refine Zy3 hall rfl trivial ?_;dsimp only [go_sem];refine Z65 hall hs haf hnap 1 1 ?_;dsimp only [go_sem];refine An ?_;refine Zt3 11 rfl ?_;refine Zy3 hall rfl trivial ?_;dsimp only [go_sem];refine Zs3 rfl ?_ _;refine Zn2 5 ?_;dsimp only [go_sem];refine An ?_;obtain rfl:=Option.some.inj h;exact Zk5 ok120 rfl (by simp [go_sem])
noncomputable def Z4f (x1:Drinker) (x2:Int) (x3:Msg) (x5:((List Side)×(List Int))) (x6:Int):Bool→Option (Drinker×Int)
| x7=>
 ifb x7 (
 (Z29 ((Diner.mk x1.Diner.ID x1.Diner.Phase x5.1)) x2 x3).bind fun x8=>
 ifb (!decide (x8.2=0)) (
 some ((Drinker.mk ((Diner.mk 0 0 (([]:(List Side))))) 0 (([]:(List Int)))),x8.2)) (
 some ((Drinker.mk x8.1 x1.Thirst x5.2),0))) (
 (at_ x5.1 x6).bind fun x9=>
 ifb (decide (x3.Kind=4)) (
 ifb x9.Ask (
 some ((Drinker.mk ((Diner.mk 0 0 (([]:(List Side))))) 0 (([]:(List Int)))),132)) (
 some ((Drinker.mk ((Diner.mk x1.Diner.ID x1.Diner.Phase (x5.1.set (x6).toNat ((Side.mk x9.Peer x9.Epoch x9.State x9.Fork x9.Dirty x9.Token x9.Bottle true))))) x1.Thirst x5.2),0))) (
 ifb x9.Bottle (
 some ((Drinker.mk ((Diner.mk 0 0 (([]:(List Side))))) 0 (([]:(List Int)))),132)) (
 some ((Drinker.mk ((Diner.mk x1.Diner.ID x1.Diner.Phase (x5.1.set (x6).toNat ((Side.mk x9.Peer x9.Epoch x9.State x9.Fork x9.Dirty x9.Token true x9.Ask))))) x1.Thirst x5.2),0))))
noncomputable def Z5f (x1:Drinker) (x2:Int) (x3:Msg):Option (Drinker×Int):=
 (Zt9 x1).bind fun x4=>
 ifb (!decide (x4=0)) (
 some ((Drinker.mk ((Diner.mk 0 0 (([]:(List Side))))) 0 (([]:(List Int)))),x4)) (
 (Z2f x1).bind fun x5=>
 (Zi6 x5.1 ((fun z=>Z1f z x2 x3))).bind fun x6=>
 ifb (decide (x6<0)) (
 (Z4f x1 x2 x3 x5 x6) true) (
 ifb (!decide (x3.Num=0)) (
 (Z4f x1 x2 x3 x5 x6) true) (
 ifb (!decide (x3.Kind=3)) (
 (Z4f x1 x2 x3 x5 x6) (!decide (x3.Kind=4))) (
 (Z4f x1 x2 x3 x5 x6) false))))
theorem k_drink_Get (x1:Drinker) (x2:Int) (x3:Msg) (r:(Drinker×Int)) (h:Z5f x1 x2 x3=some r):Zs2 Tryz.prog 91 [.agg (Drinker.row x1),.iv x2,.agg (Msg.row x3)] (.tup [.agg (Drinker.row r.1),.iv r.2]):=by
 refine Zw2 ok91 rfl rfl fun w0 H0=>?_
 rw [Z5f] at h
 refine Zn2 12 ?_;dsimp only [go_sem];refine An ?_;obtain ⟨x4,ex4,h⟩:=Bs h;refine Z13 trivial (Zu9 x1 _ ex4) (h:=?_);refine Zn2 7 ?_;dsimp only [go_sem];refine An ?_;refine Zi4 h rfl (fun _ h=>?_) fun _ h=>?_
 ·refine Zn2 7 ?_;dsimp only [go_sem];refine An ?_;exact Zq4 (res:=fun (r:(Drinker×Int))=>.tup [.agg (Drinker.row r.1),.iv r.2]) ok91 h
 ·refine Zn2 4 ?_;dsimp only [go_sem];refine An ?_;obtain ⟨x5,ex5,h⟩:=Bs h;refine Zm5 [false,false,false,false] [] trivial (Z3f x1 _ ex5) (h:=?_);dsimp only [go_sem];refine Zn2 8 ?_;dsimp only [go_sem];refine An ?_;obtain ⟨x6,ex6,h⟩:=Bs h;refine Zu4 trivial ((((Zt4.refl _).slice 0 rfl).block 1 rfl rfl).block 2 rfl rfl) (Zj6 x5.1 _ _ ((fun z=>Z1f z x2 x3)) ⟨by kernel_rfl,rfl,fun z r hz=>k_drink_Get_1 z x2 x3 r hz⟩ _ ex6) (h:=?_);refine Zn2 8 ?_;dsimp only [go_sem];refine An ?_
  refine Zg4 (fun (x7:Bool)=>(⟨(an 3 (.ptr 0 0 :: .ptr 1 0 :: .ptr 2 0 :: .ptr 3 0 :: .any :: .any :: .iv x6::an 32 (.bv x7::an 37 []))),[some ⟨63,[.iv x1.Diner.ID,.iv x1.Diner.Phase,.osl 0,.iv x1.Thirst,.osl 1]⟩,some ⟨3,[.iv x2]⟩,some ⟨93,[.iv x3.Kind,.iv x3.Epoch,.iv x3.Num]⟩,some ⟨63,[.iv 0,.iv 0,.nl,.iv 0,.nl]⟩],[some ⟨66,8,List.map Side.row x5.1⟩,some ⟨3,1,List.map Zw4 x5.2⟩]⟩:St)) (Z4f x1 x2 x3 x5 x6) r ?_ fun J1=>?_
  ·intro x7 h;rw [Z4f] at h;(try dsimp only);refine Zi4 h rfl (fun _ h=>?_) fun _ h=>?_
   ·refine Zn2 6 ?_;dsimp only [go_sem];refine An ?_;refine Za3 0 rfl ?_;dsimp only [go_sem];obtain ⟨x8,ex8,h⟩:=Bs h;refine Z13 trivial (k_dine_Get ((Diner.mk x1.Diner.ID x1.Diner.Phase x5.1)) x2 x3 _ ex8) (h:=?_);refine Zn2 13 ?_;dsimp only [go_sem];refine An ?_;refine Zi4 h rfl (fun _ h=>?_) fun _ h=>?_
    ·refine Zn2 7 ?_;dsimp only [go_sem];refine An ?_;exact Zq4 (res:=fun (r:(Drinker×Int))=>.tup [.agg (Drinker.row r.1),.iv r.2]) ok91 h
    ·refine Zn2 13 ?_;dsimp only [go_sem];refine An ?_;refine Za3 1 rfl ?_;dsimp only [go_sem];exact Zq4 (res:=fun (r:(Drinker×Int))=>.tup [.agg (Drinker.row r.1),.iv r.2]) ok91 h
   ·refine Zn2 7 ?_;dsimp only [go_sem];refine An ?_;obtain ⟨x9,ex9,h⟩:=Bs h;refine Z95 Side.row ex9 trivial rfl rfl rfl ?_;refine Zn2 10 ?_;dsimp only [go_sem];refine An ?_;refine Zi4 h rfl (fun _ h=>?_) fun _ h=>?_
    ·refine Zn2 5 ?_;dsimp only [go_sem];refine An ?_;refine Z95 Side.row ex9 trivial rfl rfl rfl ?_;refine Zn2 8 ?_;dsimp only [go_sem];refine An ?_;refine Za5 Side.row ex9 trivial rfl rfl rfl ?_;refine Zn2 1 ?_;dsimp only [go_sem];refine An ?_;refine Zi4 h rfl (fun _ h=>?_) fun _ h=>?_
     ·refine Zn2 6 ?_;dsimp only [go_sem];refine An ?_;exact Zq4 (res:=fun (r:(Drinker×Int))=>.tup [.agg (Drinker.row r.1),.iv r.2]) ok91 h
     ·refine Zn2 5 ?_;dsimp only [go_sem];refine An ?_;refine Ze5 [.bv true] Side.row (y':=(Side.mk x9.Peer x9.Epoch x9.State x9.Fork x9.Dirty x9.Token x9.Bottle true)) ex9 trivial rfl rfl rfl (by first | exact Za4 _ | simp [go_sem]) rfl rfl rfl rfl ?_;refine Zn2 7 ?_;dsimp only [go_sem];refine An ?_;refine Za3 0 rfl ?_;dsimp only [go_sem];refine Za3 1 rfl ?_;dsimp only [go_sem];exact Zq4 (res:=fun (r:(Drinker×Int))=>.tup [.agg (Drinker.row r.1),.iv r.2]) ok91 h
    ·refine Zn2 6 ?_;dsimp only [go_sem];refine An ?_;refine Za5 Side.row ex9 trivial rfl rfl rfl ?_;refine Zn2 1 ?_;dsimp only [go_sem];refine An ?_;refine Zi4 h rfl (fun _ h=>?_) fun _ h=>?_
     ·refine Zn2 6 ?_;dsimp only [go_sem];refine An ?_;exact Zq4 (res:=fun (r:(Drinker×Int))=>.tup [.agg (Drinker.row r.1),.iv r.2]) ok91 h
     ·refine Zn2 5 ?_;dsimp only [go_sem];refine An ?_;refine Ze5 [.bv true] Side.row (y':=(Side.mk x9.Peer x9.Epoch x9.State x9.Fork x9.Dirty x9.Token true x9.Ask)) ex9 trivial rfl rfl rfl (by first | exact Za4 _ | simp [go_sem]) rfl rfl rfl rfl ?_;refine Zn2 7 ?_;dsimp only [go_sem];refine An ?_;refine Za3 0 rfl ?_;dsimp only [go_sem];refine Za3 1 rfl ?_;dsimp only [go_sem];exact Zq4 (res:=fun (r:(Drinker×Int))=>.tup [.agg (Drinker.row r.1),.iv r.2]) ok91 h
  ·refine Zp4 28 h rfl (fun _ h=>?_) fun _ h=>?_
   ·dsimp only [go_sem];refine Zn2 15 ?_;dsimp only [go_sem];refine An ?_;exact Zs4 J1 (s:=true) h
   ·dsimp only [go_sem];refine Zn2 5 ?_;dsimp only [go_sem];refine An ?_;refine Zp4 33 h rfl (fun _ h=>?_) fun _ h=>?_
    ·dsimp only [go_sem];refine Zn2 10 ?_;dsimp only [go_sem];refine An ?_;exact Zs4 J1 (s:=true) h
    ·dsimp only [go_sem];refine Zn2 4 ?_;dsimp only [go_sem];refine An ?_;refine Zp4 37 h rfl (fun _ h=>?_) fun _ h=>?_
     ·dsimp only [go_sem];refine Zn2 6 ?_;dsimp only [go_sem];refine An ?_;exact Zs4 J1 (s:=!decide (x3.Kind=4)) h
     ·dsimp only [go_sem];refine Zn2 6 ?_;dsimp only [go_sem];refine An ?_;exact Zs4 J1 (s:=false) h
theorem Z6f (id:Int) (f:Side→Side):∀(l:List Side) (q:Int),(∀x∈l,(f x).Peer=x.Peer∧∀q,Z39 id q x=true→Z39 id q (f x)=true)→Z49 id q l=true→Z49 id q (l.map f)=true
 | [],_,_,_=>rfl
 | x::l,q,h,hk=>by
   obtain ⟨h1,h2⟩:=h x (by simp)
   simp only [List.map_cons,Z49,Bool.and_eq_true] at hk ⊢
   refine ⟨h2 q hk.1,?_⟩
   rw [h1]
   exact Z6f id f l x.Peer (fun y hy=>h y (by simp [hy])) hk.2
theorem okD_map {d:Diner} (h:okD d=true) {p:Int} (h0:0≤p) (h2:p≤2) (f:Side→Side) (hf:∀x∈d.Sides,(f x).Peer=x.Peer∧∀q,Z39 d.ID q x=true→Z39 d.ID q (f x)=true):okD ⟨d.ID,p,d.Sides.map f⟩=true:=by
 simp only [okD,Bool.and_eq_true,decide_eq_true_eq] at h ⊢
 exact ⟨h.1,h0,h2,by simpa using h.2.2.2.1,Z6f d.ID f d.Sides (-1) hf h.2.2.2.2⟩
theorem sideD_of {id q:Int} {x y:Side} (hp:y.Peer=x.Peer) (he:y.Epoch=x.Epoch) (hs:y.State=x.State) (hd:(x.Dirty=true→x.Fork=true)→y.Dirty=true→y.Fork=true) (h:Z39 id q x=true):Z39 id q y=true:=by
 unfold Z39 at h ⊢
 rw [hp,he,hs]
 simp only [Bool.and_eq_true] at h ⊢
 refine ⟨h.1,h.2.1,h.2.2.1,h.2.2.2.1,h.2.2.2.2.1,h.2.2.2.2.2.1,?_⟩
 have h7:=h.2.2.2.2.2.2
 cases hyd:y.Dirty with
 | false=>rfl
 | true=>
   have:x.Dirty=true→x.Fork=true:=fun e=>by
    rw [e] at h7
    cases hf:x.Fork with
    | true=>rfl
    | false=>rw [hf] at h7;simp at h7
   rw [hd this hyd];rfl
theorem fireD_ok {d:Diner} (h:okD d=true):okD (Zf9 d)=true:=by
 have hh:=h
 simp only [okD,Bool.and_eq_true,decide_eq_true_eq] at hh
 have hp:0≤(Zf9 d).Phase∧(Zf9 d).Phase≤2:=by
  rcases Zpe d with ⟨q,_⟩ | ⟨_,q⟩
  ·rw [q];exact ⟨hh.2.1,hh.2.2.1⟩
  ·rw [q];omega
 have:=okD_map h hp.1 hp.2 (Z3e d) fun x hx=>by
  obtain ⟨p1,p2,p3,_⟩:=Z6e d x
  refine ⟨p1,fun q=>sideD_of p1 p2 p3 fun hd=>?_⟩
  unfold Z3e
  split
  ·rename_i hc
   rw [Bool.and_eq_true,List.all_eq_true] at hc
   exact fun _=>hc.2 (Zc9 d.Phase x) (List.mem_map_of_mem hx)
  ·exact Zyd _ _ hd
 rw [←Z4e] at this
 rw [show Zf9 d=⟨d.ID,(Zf9 d).Phase,(Zf9 d).Sides⟩ by rw [←Z5e d]]
 exact this
theorem once_ok {d:Drinker} (h:okD d.Diner=true):okD (Zke d).Diner=true:=by
 have h1:=fireD_ok (pre_ok h)
 have hh:=h1
 simp only [okD,Bool.and_eq_true,decide_eq_true_eq] at hh
 have:=okD_map h1 hh.2.1 hh.2.2.1 (fun x=>Zde (Zae d x) d.Thirst x) fun x _=>by
  obtain ⟨p1,p2,p3,p4,p5,_⟩:=Zfe (Zae d x) d.Thirst x
  exact ⟨p1,fun q=>sideD_of p1 p2 p3 fun hd e=>by rw [p4];rw [p5] at e;exact hd e⟩
 rw [Z5e] at this
 exact this
def fireN:Nat→Drinker→List Mail→Drinker×List Mail
 | 0,d,out=>(d,out)
 | n+1,d,out=>if Zke d=d then (d,out) else fireN n (Zke d) (out++Zle d)
def fireDr (d:Drinker):Drinker×List Mail:=fireN 300 d []
theorem Z7f (l:List Int) (hl:l.length≤1000000):Zv9 l=some l:=by
 simp only [Zv9]
 rw [Z06 _ _ (by omega) (by simp;omega)];rfl
theorem s_EqualInt (l m:List Int) (hl:l.length≤1000000):Zda l m=some (decide (l=m)):=by
 simp only [Zda,ln_dec]
 by_cases h:l.length=m.length
 ·simp only [h,decide_true,Bool.not_true,Zw5]
  rw [Zu7 l m _ (fun x y=>decide (x=y)) h (by omega) (fun k x y hx hy=>by
   simp only [Zca,Z16 hx,Zv5,Zz5 hx,Zz5 hy,Option.bind_some,Z46 hx (show l.length≤4000000000000000000 by omega),Zx5]
   cases decide (x=y)<;>rfl) (by simp only [Zca,Z26,Zw5,Zba,Option.map_some]),Zv7 l m h]
 ·simp [h,len_ne h]
theorem s_drOwn (d:Drinker) (hs:d.Diner.Sides.length≤1000000) (hn:d.Need.length≤1000000):Zx9 d=some d:=by
 simp only [Zx9,Z89 _ hs,Z7f _ hn,Option.bind_some]
theorem s_drSame (a b:Drinker) (hs:a.Diner.Sides.length≤1000000) (hn:a.Need.length≤1000000):Zga a b=some (decide (a=b)):=by
 obtain ⟨⟨i,p,s⟩,t,n⟩:=a
 obtain ⟨⟨i',p',s'⟩,t',n'⟩:=b
 simp only at hs hn
 simp only [Zga,Zaa,Z9a,Zfa,s_EqualSide s s' hs,s_EqualInt n n' hn,Option.bind_some,Drinker.mk.injEq,Diner.mk.injEq]
 by_cases h1:i=i'<;>by_cases h2:p=p'<;>by_cases h3:s=s'<;>by_cases h4:t=t'<;>by_cases h5:n=n'<;>simp [h1,h2,h3,h4,h5]
theorem bits_le (l:List Side):bits l≤4*l.length:=by
 induction l with
 | nil=>simp [bits]
 | cons x l ih=>
   have:Zne x≤4:=by unfold Zne bn;split<;>split<;>split<;>split<;>omega
   unfold bits at ih ⊢
   simp only [List.map_cons,List.sum_cons,List.length_cons]
   omega
theorem mu_le {d:Drinker} (h:okD d.Diner=true):mu d≤257:=by
 have h1:=Z99 h
 have h2:=bits_le d.Diner.Sides
 have:rank d.Thirst d.Diner.Phase≤5:=by unfold rank;(repeat' split)<;>omega
 unfold mu;omega
theorem Z8f {d:Diner} (h:okD d=true):0≤d.Phase∧d.Phase≤2:=by
 simp only [okD,Bool.and_eq_true,decide_eq_true_eq] at h
 exact ⟨h.2.1,h.2.2.1⟩
theorem fire_loop (x3:Drinker) (hN:x3.Need.length≤1000000):∀(n:Nat) (d:Drinker) (out:List Mail),d.Need=x3.Need→okD d.Diner=true→mu d≤n→out.length+bits d.Diner.Sides≤600000→
  loop (Zfb x3) (d.Diner.ID,d.Diner.Phase,d.Diner.Sides,d.Thirst,out)=some ((fireN (n+1) d out).1,(fireN (n+1) d out).2,0):=fun n=>by
 have step:∀(d:Drinker) (out:List Mail),d.Need=x3.Need→okD d.Diner=true→out.length+bits d.Diner.Sides≤600000→Zfb x3 (d.Diner.ID,d.Diner.Phase,d.Diner.Sides,d.Thirst,out)=if Zke d=d then some (.inr (d,out,0)) else some (.inl ((Zke d).Diner.ID,(Zke d).Diner.Phase,(Zke d).Diner.Sides,(Zke d).Thirst,out++Zle d)):=fun d out hd hk ho=>by
  have hl:=Z99 hk
  have hp:=Z8f hk
  have e:(⟨⟨d.Diner.ID,d.Diner.Phase,d.Diner.Sides⟩,d.Thirst,x3.Need⟩:Drinker)=d:=by rw [←hd]
  dsimp only [Zfb]
  have ho2:=s_once d hk (by rw [hd];exact hN) out (by omega)
  rw [hd] at ho2
  rw [e,s_drOwn d (by omega) (by rw [hd];exact hN),Option.bind_some,ho2,Option.bind_some]
  dsimp only
  have e2:(⟨⟨(Zke d).Diner.ID,(Zke d).Diner.Phase,(Zke d).Diner.Sides⟩,(Zke d).Thirst,x3.Need⟩:Drinker)=Zke d:=by rw [←hd];rfl
  rw [e2,s_drSame d _ (by omega) (by rw [hd];exact hN),Option.bind_some]
  by_cases hq:Zke d=d
  ·rw [if_pos hq,decide_eq_true hq.symm,Zv5]
   have hm:Zle d=[]:=by
    rcases Zre hp.1 hp.2 with h1 | h1
    ·exact h1.2
    ·rw [hq] at h1;omega
   rw [hm,List.append_nil,hq];rfl
  ·rw [if_neg hq,decide_eq_false fun e=>hq e.symm,Zw5]
 induction n with
 | zero=>
   intro d out hd hk hm ho
   have hp:=Z8f hk
   have hq:Zke d=d:=by
    rcases Zre hp.1 hp.2 with h1 | h1
    ·exact h1.1
    ·omega
   rw [Ze4,step d out hd hk ho,if_pos hq]
   unfold fireN
   rw [if_pos hq]
 | succ n ih=>
   intro d out hd hk hm ho
   have hp:=Z8f hk
   rw [Ze4,step d out hd hk ho]
   unfold fireN
   by_cases hq:Zke d=d
   ·rw [if_pos hq,if_pos hq]
   ·rw [if_neg hq,if_neg hq]
    have hb:=Zoe d
    refine ih (Zke d) (out++Zle d) hd (once_ok hk) ?_ (by rw [List.length_append];omega)
    rcases Zre hp.1 hp.2 with h1 | h1
    ·exact absurd h1.1 hq
    ·omega
def okI:Option Int→List Int→Bool
 | _,[]=>true
 | p,x::r=>(match p with | none=>true | some q=>decide (q<x))&&okI (some x) r
def Z9f (d:Diner) (p:Int):Bool:=d.Sides.any fun x=>decide (x.Peer=p)
def okDr (d:Drinker):Bool:=okD d.Diner&&(decide (0≤d.Thirst)&&(decide (d.Thirst≤2)&&(okI none d.Need&&(!(decide (d.Thirst=0)&&decide (0<d.Need.length))&&d.Need.all (Z9f d.Diner)))))
def Zaf:Drinker:=⟨Za9,0,[]⟩
theorem s_setValid (l:List Int) (hl:l.length≤1000000):Zp9 l=some (okI none l):=by
 unfold Zp9
 refine Zm7 l (Zo9 l) (fun pre=>(pre.length:Int)) (fun pre post=>some (okI pre.getLast? post)) (fun pre x post h=>?_) ?_
 ·have hx:=Zo7 h
  have hm:=Zp7 h
  have j2:∀z,Zn9 (pre.length:Int) z=if z then some (.inr false) else some (.inl ((pre.length+1:Nat):Int)):=fun z=>by
   cases z with
   | true=>rfl
   | false=>dsimp only [Zn9];rw [Zw5,Z36 (by omega)];rfl
  dsimp only [Zo9]
  rw [Z16 hx,Zv5]
  rcases List.eq_nil_or_concat pre with rfl | ⟨q,y,rfl⟩
  ·left
   rw [show decide ((0:Int)<(([]:List Int).length:Nat))=false from rfl,Zw5,j2]
   exact ⟨rfl,rfl⟩
  ·rw [List.concat_eq_append] at *
   have hy:l[q.length]?=some y:=by rw [h];simp
   rw [decide_eq_true (show (0:Int)<((q++[y]).length:Nat) by rw [Zt7];omega),Zv5]
   have e1:wr (((q++[y]).length:Nat)-1)=(q.length:Int):=by rw [Zt7] at hm ⊢;rw [Zy5 (by omega) (by omega)];omega
   rw [e1,Zz5 hy,Option.bind_some,Zz5 hx,Option.bind_some,j2]
   by_cases hc:x≤y
   ·right
    refine ⟨false,by rw [decide_eq_true hc];rfl,?_⟩
    have:¬y<x:=by omega
    simp [okI,this]
   ·left
    have:y<x:=by omega
    refine ⟨by rw [decide_eq_false hc,Zt7 (q++[y])];rfl,?_⟩
    simp [okI,this]
 ·dsimp only [Zo9]
  rw [Z26,Zw5];rfl
theorem Zbf (d:Drinker) (hn:d.Need.length≤1000000):Zt9 d=some (if okDr d then 0 else 150):=by
 simp only [Zt9,Z79,Option.bind_some]
 unfold okDr
 cases hk:okD d.Diner with
 | false=>rfl
 | true=>
   have hl:=Z99 hk
   rw [if_pos rfl,show decide ((0:Int)=0)=true from rfl,Bool.not_true,Zw5]
   by_cases h1:d.Thirst<0
   ·rw [decide_eq_true h1,Zv5,decide_eq_false (show ¬0≤d.Thirst by omega)];rfl
   ·rw [decide_eq_false h1,Zw5,decide_eq_true (show 0≤d.Thirst by omega)]
    by_cases h2:2<d.Thirst
    ·rw [decide_eq_true h2,decide_eq_false (show ¬d.Thirst≤2 by omega)];rfl
    ·rw [decide_eq_false h2,decide_eq_true (show d.Thirst≤2 by omega)]
     dsimp only [Zs9]
     rw [Zw5,s_setValid _ hn,Option.bind_some]
     cases hv:okI none d.Need with
     | false=>rfl
     | true=>
       rw [Bool.not_true,Zw5]
       have j3:∀z,Zr9 d z=some (if (!z&&d.Need.all (Z9f d.Diner))=true then 0 else 150):=fun z=>by
        cases z with
        | true=>rfl
        | false=>
          dsimp only [Zr9]
          rw [Zw5,Zb7 d.Need (fun z=>Zk9 z d) (fun p=>!Z9f d.Diner p) (by omega) (fun p _=>by
           simp only [Zk9]
           rw [Zme d.Diner.Sides (fun z=>Zi9 z p) (fun x=>decide (x.Peer=p)) (by omega) (fun x _=>rfl),Option.bind_some]
           rfl),Option.bind_some]
          have e1:d.Need.any (fun p=>!Z9f d.Diner p)=!d.Need.all (Z9f d.Diner):=Zf7 _ _ _ fun _=>rfl
          rw [e1]
          cases d.Need.all (Z9f d.Diner)<;>rfl
       rw [Zy4]
       simp only [j3,Bool.true_and]
       have e3:decide ((0:Int)<(d.Need.length:Nat))=decide (0<d.Need.length):=by rw [decide_eq_decide];omega
       rw [e3]
       cases decide (d.Thirst=0)<;>rfl
theorem s_drFire (d:Drinker) (hn:d.Need.length≤1000000):Zgb d=some (if okDr d then ((fireDr d).1,(fireDr d).2,0) else (Zaf,[],150)):=by
 simp only [Zgb,Zbf d hn,Option.bind_some]
 cases hk:okDr d with
 | false=>rfl
 | true=>
   have hk2:okD d.Diner=true:=by unfold okDr at hk;rw [Bool.and_eq_true] at hk;exact hk.1
   have hl:=Z99 hk2
   have hb:=bits_le d.Diner.Sides
   have hm:=mu_le hk2
   rw [if_pos rfl,show decide ((0:Int)=0)=true from rfl,Bool.not_true,Zw5,s_drOwn d (by omega) hn,Option.bind_some,fire_loop d hn 299 d [] rfl hk2 (by omega) (by simp only [List.length_nil];omega),if_pos rfl]
   rfl
def Zcf (d:Diner) (p:Int):Bool:=!d.Sides.any fun x=>decide (x.Peer=p)&&decide (x.State=0)
def Zdf (d:Drinker) (need:List Int):Drinker×Int:=if okDr d then (if d.Thirst=0 then (if need.any (Zcf d.Diner) then (Zaf,151) else (⟨d.Diner,1,Ztc need⟩,0)) else (Zaf,152)) else (Zaf,150)
def Zef (d:Drinker):Drinker×Int:=if okDr d then (if d.Thirst=0 then (Zaf,152) else (⟨d.Diner,0,[]⟩,0)) else (Zaf,150)
theorem Zff {d:Drinker} (h:okDr d=true):okD d.Diner=true:=by unfold okDr at h;rw [Bool.and_eq_true] at h;exact h.1
theorem s_drOpen (d:Drinker) (need:List Int) (hn:d.Need.length≤1000000) (hm:need.length≤1000000):Zye d need=some (Zdf d need):=by
 simp only [Zye,Zbf d hn,Option.bind_some]
 unfold Zdf
 cases hk:okDr d with
 | false=>rfl
 | true=>
   have hl:=Z99 (Zff hk)
   rw [if_pos rfl,show decide ((0:Int)=0)=true from rfl,Bool.not_true,Zw5,if_pos rfl]
   by_cases h1:d.Thirst=0
   ·rw [decide_eq_true h1,Bool.not_true,Zw5,if_pos h1,Zb7 need (fun z=>Zve z d) (Zcf d.Diner) (by omega) (fun p _=>by
     simp only [Zve]
     rw [Zme d.Diner.Sides (fun z=>Zte z p) (fun x=>decide (x.Peer=p)&&decide (x.State=0)) (by omega) (fun x _=>by
      simp only [Zte,Zse]
      cases decide (x.Peer=p)<;>rfl),Option.bind_some]
     rfl),Option.bind_some]
    cases need.any (Zcf d.Diner) with
    | true=>rfl
    | false=>
      rw [Zw5,if_neg (by simp)]
      dsimp only [Zxe]
      rw [show decide ((0:Int)=0)=true from rfl,Bool.not_true,Zw5,s_drOwn d (by omega) hn,Option.bind_some,s_setL need hm,Option.bind_some]
   ·rw [decide_eq_false h1,Bool.not_false,Zv5,if_neg h1];rfl
theorem s_drClose (d:Drinker) (hn:d.Need.length≤1000000):Zze d=some (Zef d):=by
 simp only [Zze,Zbf d hn,Option.bind_some]
 unfold Zef
 cases hk:okDr d with
 | false=>rfl
 | true=>
   have hl:=Z99 (Zff hk)
   rw [if_pos rfl,show decide ((0:Int)=0)=true from rfl,Bool.not_true,Zw5,if_pos rfl]
   by_cases h1:d.Thirst=0
   ·rw [decide_eq_true h1,Zv5,if_pos h1];rfl
   ·rw [decide_eq_false h1,Zw5,if_neg h1,s_drOwn d (by omega) hn,Option.bind_some]
def viaD (d:Drinker) (peer:Int) (m:Msg):Drinker×Int:=if (getD' d.Diner peer m).2=0 then (⟨(getD' d.Diner peer m).1,d.Thirst,d.Need⟩,0) else (Zaf,(getD' d.Diner peer m).2)
def Zgf (d:Drinker) (peer:Int) (m:Msg):Drinker×Int:=
 if okDr d then match d.Diner.Sides.findIdx? (fun x=>decide (x.Peer=peer)&&decide (x.Epoch=m.Epoch)) with
  | none=>viaD d peer m
  | some i=>match d.Diner.Sides[i]? with
    | none=>viaD d peer m
    | some x=>if decide (m.Num=0)&&(decide (m.Kind=3)||decide (m.Kind=4)) then
       (if m.Kind=4 then (if x.Ask then (Zaf,132) else (⟨⟨d.Diner.ID,d.Diner.Phase,d.Diner.Sides.set i {x with Ask:=true}⟩,d.Thirst,d.Need⟩,0))
       else (if x.Bottle then (Zaf,132) else (⟨⟨d.Diner.ID,d.Diner.Phase,d.Diner.Sides.set i {x with Bottle:=true}⟩,d.Thirst,d.Need⟩,0)))
      else viaD d peer m
 else (Zaf,150)
theorem s_drGet (d:Drinker) (peer:Int) (m:Msg) (hn:d.Need.length≤1000000):Z5f d peer m=some (Zgf d peer m):=by
 simp only [Z5f,Zbf d hn,Option.bind_some]
 unfold Zgf
 cases hk:okDr d with
 | false=>rfl
 | true=>
   have hl:=Z99 (Zff hk)
   have hown:Z2f d=some (d.Diner.Sides,d.Need):=by
    simp only [Z2f,Z89 _ (show d.Diner.Sides.length≤1000000 by omega),Z7f _ hn,Option.bind_some]
   have hvia:Z4f d peer m (d.Diner.Sides,d.Need) (plc (d.Diner.Sides.findIdx? (fun x=>decide (x.Peer=peer)&&decide (x.Epoch=m.Epoch)))) true=some (viaD d peer m):=by
    dsimp only [Z4f]
    rw [Zv5,s_Get,Option.bind_some]
    unfold viaD
    by_cases h0:(getD' d.Diner peer m).2=0
    ·rw [show (⟨d.Diner.ID,d.Diner.Phase,d.Diner.Sides⟩:Diner)=d.Diner from rfl,decide_eq_true h0,if_pos h0];rfl
    ·rw [show (⟨d.Diner.ID,d.Diner.Phase,d.Diner.Sides⟩:Diner)=d.Diner from rfl,decide_eq_false h0,if_neg h0];rfl
   rw [if_pos rfl,show decide ((0:Int)=0)=true from rfl,Bool.not_true,Zw5,if_pos rfl,hown,Option.bind_some]
   dsimp only
   rw [Z97 d.Diner.Sides (fun z=>Z1f z peer m) (fun x=>decide (x.Peer=peer)&&decide (x.Epoch=m.Epoch)) (by omega) (fun x _=>by
    simp only [Z1f,Z0f]
    cases decide (x.Peer=peer)<;>rfl),Option.bind_some,plc_neg]
   have hfi:=Zx7 (fun x:Side=>decide (x.Peer=peer)&&decide (x.Epoch=m.Epoch)) d.Diner.Sides
   cases hf:d.Diner.Sides.findIdx? (fun x=>decide (x.Peer=peer)&&decide (x.Epoch=m.Epoch)) with
   | none=>rw [hf] at hvia;exact hvia
   | some i=>
     rw [hf] at hfi hvia
     obtain ⟨x,hx,_⟩:=hfi
     dsimp only
     rw [hx]
     dsimp only
     rw [Option.isNone_some,Zw5]
     by_cases n0:m.Num=0
     ·rw [decide_eq_true n0,Bool.not_true,Zw5,Bool.true_and]
      have main:(m.Kind=3∨m.Kind=4)→Z4f d peer m (d.Diner.Sides,d.Need) (plc (some i)) false=some (if m.Kind=4 then (if x.Ask then (Zaf,132) else (⟨⟨d.Diner.ID,d.Diner.Phase,d.Diner.Sides.set i {x with Ask:=true}⟩,d.Thirst,d.Need⟩,0))
       else (if x.Bottle then (Zaf,132) else (⟨⟨d.Diner.ID,d.Diner.Phase,d.Diner.Sides.set i {x with Bottle:=true}⟩,d.Thirst,d.Need⟩,0))):=fun _=>by
       dsimp only [Z4f,plc]
       rw [Zw5,Zz5 hx,Option.bind_some,Int.toNat_natCast]
       by_cases k4:m.Kind=4
       ·rw [decide_eq_true k4,Zv5,if_pos k4]
        cases x.Ask<;>rfl
       ·rw [decide_eq_false k4,Zw5,if_neg k4]
        cases x.Bottle<;>rfl
      by_cases k3:m.Kind=3
      ·rw [decide_eq_true k3,Bool.not_true,Zw5,Bool.true_or,if_pos rfl]
       exact main (.inl k3)
      ·rw [decide_eq_false k3,Bool.not_false,Zv5,Bool.false_or]
       by_cases k4:m.Kind=4
       ·rw [decide_eq_true k4,if_pos rfl]
        exact main (.inr k4)
       ·rw [decide_eq_false k4,if_neg (by simp)]
        exact hvia
     ·rw [decide_eq_false n0,Bool.not_false,Zv5,Bool.false_and,if_neg (by simp)]
      exact hvia
set_option maxRecDepth 100000
set_option maxHeartbeats 4000000
@[go_sem] def e113:EC:=.seq (.reg [(Qx 2 48 2 0),(Qa 4 (.mv (.c .ff)))]) (.seq (.reg [(Qm 5 1),(Qa 6 (.bin .geq (.t 5) (.c (.iv 0)))),(Qm 7 6),(Qg 8 7 true (.mv (.t 1))),(Qh 9 7 true 0 2),(Qn 10 7 true 9),(Qg 11 7 true (.len (.t 10))),(Qg 12 7 true (.bin .lss (.t 8) (.t 11))),(Qp 13 7 12),(Qm 4 13)]) (.ret))
theorem ok113:FnOK Tryz.prog 113 Tryz.f113 e113 [.t 4] 2 12:=⟨by kernel_rfl,⟨_,rfl,by kernel_rfl⟩,by kernel_rfl,by kernel_rfl⟩
noncomputable def Zhf:Bool→Option Bool
| x3=>
 some x3
noncomputable def Zif (x1:Scene) (x2:Int):Option Bool:=
 ifb (decide (0≤x2)) (
 Zhf (decide (x2<(ln Diner.row x1.Diners)))) (
 Zhf false)
theorem Zjf (x1:Scene) (x2:Int) (r:Bool) (h:Zif x1 x2=some r):Zs2 Tryz.prog 113 [.agg (Scene.row x1),.iv x2] (.bv r):=by
 refine Zw2 ok113 rfl rfl fun w0 H0=>?_
 rw [Zif] at h
 refine Zn2 10 ?_;dsimp only [go_sem];refine An ?_;refine Zg4 (fun (x3:Bool)=>(⟨(an 4 (.bv x3::an 9 [])),[],[]⟩:St)) Zhf r ?_ fun J1=>?_
 ·intro x3 h;rw [Zhf] at h;(try dsimp only);exact Zq4 (res:=fun (r:Bool)=>.bv r) ok113 h
 ·refine Zp4 7 h rfl (fun _ h=>?_) fun _ h=>?_
  ·dsimp only [go_sem];refine Zn2 8 ?_;dsimp only [go_sem];refine An ?_;exact Zs4 J1 (s:=decide (x2<(ln Diner.row x1.Diners))) h
  ·dsimp only [go_sem];refine Zn2 8 ?_;dsimp only [go_sem];refine An ?_;exact Zs4 J1 (s:=false) h
set_option maxRecDepth 100000
set_option maxHeartbeats 4000000
@[go_sem] def e104:EC:=.seq (.reg [(Qx 2 95 5 0),(Qa 3 (.mv (.c .ff)))]) (.seq (.reg [(Qf 4 0 2),(Ql 5 4),(Qf 6 1 2),(Ql 7 6),(Qa 8 (.mm false [(.t 5),(.t 7)])),(Qa 9 (.bin .lss (.t 8) (.c (.iv 0)))),(Qm 10 9),(Qh 11 10 false 0 2),(Qn 12 10 false 11),(Qh 13 10 false 1 2),(Qn 14 10 false 13),(Qg 15 10 false (.mm true [(.t 12),(.t 14)])),(Qh 16 10 false 0 1),(Qn 17 10 false 16),(Qg 18 10 false (.len (.t 17))),(Qg 19 10 false (.bin .geq (.t 15) (.t 18))),(Qq 20 10 19),(Qm 21 20),(Qh 22 21 false 0 2),(Qn 23 21 false 22),(Qh 24 21 false 1 2),(Qn 25 21 false 24),(Qg 26 21 false (.bin .eql (.t 23) (.t 25))),(Qq 27 21 26),(Qm 3 27)]) (.ret))
theorem ok104:FnOK Tryz.prog 104 Tryz.f104 e104 [.t 3] 2 26:=⟨by kernel_rfl,⟨_,rfl,by kernel_rfl⟩,by kernel_rfl,by kernel_rfl⟩
noncomputable def Zkf:Bool→Option Bool
| x3=>
 some x3
noncomputable def Zlf (x1:Mail) (x2:Scene):Option Bool:=
 ifb (decide (((min x1.From x1.To))<0)) (
 Zkf true) (
 ifb (decide ((ln Diner.row x2.Diners)≤((max x1.From x1.To)))) (
 Zkf true) (
 Zkf (decide (x1.From=x1.To))))
theorem Zmf (x1:Mail) (x2:Scene) (r:Bool) (h:Zlf x1 x2=some r):Zs2 Tryz.prog 104 [.agg (Mail.row x1),.elt (Scene.row x2) 0] (.bv r):=by
 refine Zw2 ok104 rfl rfl fun w0 H0=>?_
 rw [Zlf] at h
 refine Zn2 14 ?_;dsimp only [go_sem];refine An ?_;refine Zg4 (fun (x3:Bool)=>(⟨(an 3 (.bv x3::an 24 [])),[],[]⟩:St)) Zkf r ?_ fun J1=>?_
 ·intro x3 h;rw [Zkf] at h;(try dsimp only);exact Zq4 (res:=fun (r:Bool)=>.bv r) ok104 h
 ·refine Zp4 10 h rfl (fun _ h=>?_) fun _ h=>?_
  ·dsimp only [go_sem];refine Zn2 19 ?_;dsimp only [go_sem];refine An ?_;exact Zs4 J1 (s:=true) h
  ·dsimp only [go_sem];refine Zn2 11 ?_;dsimp only [go_sem];refine An ?_;refine Zp4 21 h rfl (fun _ h=>?_) fun _ h=>?_
   ·dsimp only [go_sem];refine Zn2 8 ?_;dsimp only [go_sem];refine An ?_;exact Zs4 J1 (s:=true) h
   ·dsimp only [go_sem];refine Zn2 8 ?_;dsimp only [go_sem];refine An ?_;exact Zs4 J1 (s:=decide (x1.From=x1.To)) h
set_option maxRecDepth 100000
set_option maxHeartbeats 4000000
@[go_sem] def e105:EC:=.seq (.reg [(Qx 1 61 3 0),(Qa 2 (.mv (.c .ff)))]) (.seq (.reg [(Qe 3 3 1),(Qa 4 (.call 101 [(.t 3)])),(Qa 5 (.bin .neq (.t 4) (.c (.iv 0)))),(Qm 2 5)]) (.ret))
theorem ok105:FnOK Tryz.prog 105 Tryz.f105 e105 [.t 2] 1 5:=⟨by kernel_rfl,⟨_,rfl,by kernel_rfl⟩,by kernel_rfl,by kernel_rfl⟩
noncomputable def Znf (x1:Diner):Option Bool:=
 (Zt8 x1).bind fun x2=>
 some (!decide (x2=0))
theorem Zof (x1:Diner) (r:Bool) (h:Znf x1=some r):Zs2 Tryz.prog 105 [.agg (Diner.row x1)] (.bv r):=by
 refine Zw2 ok105 rfl rfl fun w0 H0=>?_
 rw [Znf] at h
 refine Zn2 8 ?_;dsimp only [go_sem];refine An ?_;obtain ⟨x2,ex2,h⟩:=Bs h;refine Z13 trivial (Zu8 x1 _ ex2) (h:=?_);refine Zn2 3 ?_;dsimp only [go_sem];refine An ?_;exact Zq4 (res:=fun (r:Bool)=>.bv r) ok105 h
set_option maxRecDepth 100000
set_option maxHeartbeats 4000000
@[go_sem] def e145_L0:EC:=.seq (.reg [(Qa 9 (.bin .lss (.t 8) (.t 7)))]) (.seq (.ite (.t 9) (.skip) (.exit 0)) (.seq (.blk 1 (.seq (.reg [(Qm 10 8),(Qm 5 10)]) (.seq (.reg [(Qm 11 1),(Qm 12 0),(Qm 13 5),(Qk 14 3 12 13),(Qe 15 3 14),(Qa 16 (.callv (.t 11) [(.t 15)]))]) (.ite (.t 16) (.seq (.reg [(Qm 17 5),(Qm 4 17)]) (.ret)) (.skip))))) (.reg [(Qv 18 8 1),(Qm 8 18)])))
@[go_sem] def e145:EC:=.seq (.reg [(Qi 4 0)]) (.seq (.seq (.reg [(Qm 6 0),(Qa 7 (.len (.t 6))),(Qi 8 0)]) (.blk 0 (.loop e145_L0))) (.seq (.reg [(Qa 4 (.mv (.c (.iv (-1)))))]) (.ret)))
theorem ok145:FnOK Tryz.prog 145 Tryz.f145 e145 [.t 4] 2 17:=⟨by kernel_rfl,⟨_,rfl,by kernel_rfl⟩,by kernel_rfl,by kernel_rfl⟩
noncomputable def Zpf:Unit→Option Int
| ()=>
 some (-1)
noncomputable def Zqf (x1:(List Diner)) (p1:(Diner→Option Bool)):Int→Option (Int ⊕ Int)
| x5=>
 ifb (decide (x5<(ln Diner.row x1))) (
 (at_ x1 x5).bind fun x6=>
 (p1 x6).bind fun x7=>
 ifb x7 (
 Option.map Sum.inr (some x5)) (
 some (.inl (wr (x5+1))))) (
 Option.map Sum.inr (Zpf ()))
noncomputable def Zrf (x1:(List Diner)) (p1:(Diner→Option Bool)):Option Int:=
 loop (Zqf x1 p1) 0
theorem Zsf (x1:(List Diner)) (g1:Nat) (caps1:List AV) (p1:(Diner→Option Bool)) (hc1:CloOK Tryz.prog g1 caps1 (fun z=>[.agg (Diner.row z)]) p1 (fun z=>.bv z)) (r:Int) (h:Zrf x1 p1=some r):Zs2 Tryz.prog 145 [.sl 3 (List.map Diner.row x1),.clo g1 caps1] (.iv r):=by
 refine Zw2 ok145 rfl rfl fun w0 H0=>?_
 rw [Zrf] at h
 refine Zn2 11 ?_;dsimp only [go_sem];refine An ?_;refine Zg4 (fun (_:Unit)=>(⟨(an 19 []),[],[]⟩:St)) Zpf r ?_ fun J1=>?_
 ·rintro ⟨⟩ h;rw [Zpf] at h;(try dsimp only);refine Zn2 4 ?_;dsimp only [go_sem];refine An ?_;exact Zq4 (res:=fun (r:Int)=>.iv r) ok145 h
 ·refine Zn2 1 ?_;dsimp only [go_sem];refine An ?_;refine Zh4 h (fun (x5:Int)=>(⟨(.sl 3 (List.map Diner.row x1) :: .clo g1 caps1::an 5 (.iv (ln Diner.row x1) :: .iv x5::an 10 [])),[],[]⟩:St)) (by simp [go_sem]) (by intro x5;first | rfl | simp [go_sem,Z94 _ hc1.pu]) ?_;rintro n1 x5 y1 h hin1 hout1;rw [Zqf] at h;(try dsimp only);refine Zn2 5 ?_;dsimp only [go_sem];refine An ?_;refine Zi4 h rfl (fun _ h=>?_) fun _ h=>?_
  ·refine Zn2 13 ?_;dsimp only [go_sem];refine An ?_;obtain ⟨x6,ex6,h⟩:=Bs h;refine Zl4 Diner.row ex6 trivial rfl rfl rfl ?_;refine Zn2 1 ?_;dsimp only [go_sem];refine An ?_;obtain ⟨x7,ex7,h⟩:=Bs h;refine Zv4 trivial rfl hc1 (x:=x6) ex7 (by first | exact Za4 _ | simp [go_sem]) (by first | rfl | simp [go_sem,hc1.pu]) ?_;refine Zn2 1 ?_;dsimp only [go_sem];refine An ?_;refine Zi4 h rfl (fun _ h=>?_) fun _ h=>?_
   ·refine Zn2 5 ?_;dsimp only [go_sem];refine An ?_;exact Zq4 (res:=fun (r:Int)=>.iv r) ok145 (Zf4 h hout1)
   ·refine Zn2 6 ?_;dsimp only [go_sem];refine An ?_;exact Zr4 h hin1 (hok:=by first | rfl | simp [go_sem,Z94 _ hc1.pu])
  ·refine Zn2 1 ?_;dsimp only [go_sem];refine An ?_;exact Zs4 J1 (s:=()) (Zf4 h hout1) (hok:=by first | rfl | simp [go_sem,Z94 _ hc1.pu])
set_option maxRecDepth 100000
set_option maxHeartbeats 4000000
@[go_sem] def e107:EC:=.seq (.reg [(Qa 4 (.mv (.c .ff)))]) (.seq (.reg [(Qm 5 0),(Qm 6 1),(Qa 7 (.call 145 [(.t 5),(.t 6)])),(Qa 8 (.bin .geq (.t 7) (.c (.iv 0)))),(Qm 4 8)]) (.ret))
theorem ok107:FnOK Tryz.prog 107 Tryz.f107 e107 [.t 4] 2 7:=⟨by kernel_rfl,⟨_,rfl,by kernel_rfl⟩,by kernel_rfl,by kernel_rfl⟩
noncomputable def Ztf (x1:(List Diner)) (p1:(Diner→Option Bool)):Option Bool:=
 (Zrf x1 p1).bind fun x2=>
 some (decide (0≤x2))
theorem Zuf (x1:(List Diner)) (g1:Nat) (caps1:List AV) (p1:(Diner→Option Bool)) (hc1:CloOK Tryz.prog g1 caps1 (fun z=>[.agg (Diner.row z)]) p1 (fun z=>.bv z)) (r:Bool) (h:Ztf x1 p1=some r):Zs2 Tryz.prog 107 [.sl 3 (List.map Diner.row x1),.clo g1 caps1] (.bv r):=by
 refine Zw2 ok107 rfl rfl fun w0 H0=>?_
 rw [Ztf] at h
 refine Zn2 8 ?_;dsimp only [go_sem];refine An ?_;obtain ⟨x2,ex2,h⟩:=Bs h;refine Z13 trivial (Zsf x1 _ _ p1 hc1 _ ex2) (hp:=(by first | rfl | simp [go_sem,hc1.pu])) (h:=?_);refine Zn2 3 ?_;dsimp only [go_sem];refine An ?_;exact Zq4 (res:=fun (r:Bool)=>.bv r) ok107 h
set_option maxRecDepth 100000
set_option maxHeartbeats 4000000
@[go_sem] def e86_L0:EC:=.seq (.reg [(Qa 9 (.bin .lss (.t 8) (.t 7)))]) (.seq (.ite (.t 9) (.skip) (.exit 0)) (.seq (.blk 1 (.seq (.reg [(Qm 10 8),(Qm 5 10)]) (.seq (.reg [(Qm 11 1),(Qm 12 0),(Qm 13 5),(Qk 14 5 12 13),(Qe 15 5 14),(Qa 16 (.callv (.t 11) [(.t 15)]))]) (.ite (.t 16) (.seq (.reg [(Qm 17 5),(Qm 4 17)]) (.ret)) (.skip))))) (.reg [(Qv 18 8 1),(Qm 8 18)])))
@[go_sem] def e86:EC:=.seq (.reg [(Qi 4 0)]) (.seq (.seq (.reg [(Qm 6 0),(Qa 7 (.len (.t 6))),(Qi 8 0)]) (.blk 0 (.loop e86_L0))) (.seq (.reg [(Qa 4 (.mv (.c (.iv (-1)))))]) (.ret)))
theorem ok86:FnOK Tryz.prog 86 Tryz.f86 e86 [.t 4] 2 17:=⟨by kernel_rfl,⟨_,rfl,by kernel_rfl⟩,by kernel_rfl,by kernel_rfl⟩
noncomputable def Zvf:Unit→Option Int
| ()=>
 some (-1)
noncomputable def Zwf (x1:(List Mail)) (p1:(Mail→Option Bool)):Int→Option (Int ⊕ Int)
| x5=>
 ifb (decide (x5<(ln Mail.row x1))) (
 (at_ x1 x5).bind fun x6=>
 (p1 x6).bind fun x7=>
 ifb x7 (
 Option.map Sum.inr (some x5)) (
 some (.inl (wr (x5+1))))) (
 Option.map Sum.inr (Zvf ()))
noncomputable def Zxf (x1:(List Mail)) (p1:(Mail→Option Bool)):Option Int:=
 loop (Zwf x1 p1) 0
theorem Zyf (x1:(List Mail)) (g1:Nat) (caps1:List AV) (p1:(Mail→Option Bool)) (hc1:CloOK Tryz.prog g1 caps1 (fun z=>[.agg (Mail.row z)]) p1 (fun z=>.bv z)) (r:Int) (h:Zxf x1 p1=some r):Zs2 Tryz.prog 86 [.sl 5 (List.map Mail.row x1),.clo g1 caps1] (.iv r):=by
 refine Zw2 ok86 rfl rfl fun w0 H0=>?_
 rw [Zxf] at h
 refine Zn2 11 ?_;dsimp only [go_sem];refine An ?_;refine Zg4 (fun (_:Unit)=>(⟨(an 19 []),[],[]⟩:St)) Zvf r ?_ fun J1=>?_
 ·rintro ⟨⟩ h;rw [Zvf] at h;(try dsimp only);refine Zn2 4 ?_;dsimp only [go_sem];refine An ?_;exact Zq4 (res:=fun (r:Int)=>.iv r) ok86 h
 ·refine Zn2 1 ?_;dsimp only [go_sem];refine An ?_;refine Zh4 h (fun (x5:Int)=>(⟨(.sl 5 (List.map Mail.row x1) :: .clo g1 caps1::an 5 (.iv (ln Mail.row x1) :: .iv x5::an 10 [])),[],[]⟩:St)) (by simp [go_sem]) (by intro x5;first | rfl | simp [go_sem,Z94 _ hc1.pu]) ?_;rintro n1 x5 y1 h hin1 hout1;rw [Zwf] at h;(try dsimp only);refine Zn2 5 ?_;dsimp only [go_sem];refine An ?_;refine Zi4 h rfl (fun _ h=>?_) fun _ h=>?_
  ·refine Zn2 13 ?_;dsimp only [go_sem];refine An ?_;obtain ⟨x6,ex6,h⟩:=Bs h;refine Zl4 Mail.row ex6 trivial rfl rfl rfl ?_;refine Zn2 1 ?_;dsimp only [go_sem];refine An ?_;obtain ⟨x7,ex7,h⟩:=Bs h;refine Zv4 trivial rfl hc1 (x:=x6) ex7 (by first | exact Za4 _ | simp [go_sem]) (by first | rfl | simp [go_sem,hc1.pu]) ?_;refine Zn2 1 ?_;dsimp only [go_sem];refine An ?_;refine Zi4 h rfl (fun _ h=>?_) fun _ h=>?_
   ·refine Zn2 5 ?_;dsimp only [go_sem];refine An ?_;exact Zq4 (res:=fun (r:Int)=>.iv r) ok86 (Zf4 h hout1)
   ·refine Zn2 6 ?_;dsimp only [go_sem];refine An ?_;exact Zr4 h hin1 (hok:=by first | rfl | simp [go_sem,Z94 _ hc1.pu])
  ·refine Zn2 1 ?_;dsimp only [go_sem];refine An ?_;exact Zs4 J1 (s:=()) (Zf4 h hout1) (hok:=by first | rfl | simp [go_sem,Z94 _ hc1.pu])
set_option maxRecDepth 100000
set_option maxHeartbeats 4000000
@[go_sem] def e108:EC:=.seq (.reg [(Qa 4 (.mv (.c .ff)))]) (.seq (.reg [(Qm 5 0),(Qm 6 1),(Qa 7 (.call 86 [(.t 5),(.t 6)])),(Qa 8 (.bin .geq (.t 7) (.c (.iv 0)))),(Qm 4 8)]) (.ret))
theorem ok108:FnOK Tryz.prog 108 Tryz.f108 e108 [.t 4] 2 7:=⟨by kernel_rfl,⟨_,rfl,by kernel_rfl⟩,by kernel_rfl,by kernel_rfl⟩
noncomputable def Zzf (x1:(List Mail)) (p1:(Mail→Option Bool)):Option Bool:=
 (Zxf x1 p1).bind fun x2=>
 some (decide (0≤x2))
theorem Z0g (x1:(List Mail)) (g1:Nat) (caps1:List AV) (p1:(Mail→Option Bool)) (hc1:CloOK Tryz.prog g1 caps1 (fun z=>[.agg (Mail.row z)]) p1 (fun z=>.bv z)) (r:Bool) (h:Zzf x1 p1=some r):Zs2 Tryz.prog 108 [.sl 5 (List.map Mail.row x1),.clo g1 caps1] (.bv r):=by
 refine Zw2 ok108 rfl rfl fun w0 H0=>?_
 rw [Zzf] at h
 refine Zn2 8 ?_;dsimp only [go_sem];refine An ?_;obtain ⟨x2,ex2,h⟩:=Bs h;refine Z13 trivial (Zyf x1 _ _ p1 hc1 _ ex2) (hp:=(by first | rfl | simp [go_sem,hc1.pu])) (h:=?_);refine Zn2 3 ?_;dsimp only [go_sem];refine An ?_;exact Zq4 (res:=fun (r:Bool)=>.bv r) ok108 h
set_option maxRecDepth 100000
set_option maxHeartbeats 4000000
@[go_sem] def e59:EC:=.seq (.reg [(Qx 1 48 2 0),(Qi 2 0)]) (.seq (.reg [(Qa 7 (.mkf 104 [(.t 1)])),(Qm 3 7)]) (.seq (.reg [(Qa 4 (.mv (.c (.clo 105 []))))]) (.seq (.seq (.reg [(Qf 9 0 1),(Ql 10 9),(Qa 11 (.call 106 [(.t 10)])),(Qm 8 11),(Qa 12 (.ext (.t 8) 0)),(Qa 13 (.ext (.t 8) 1)),(Qa 5 (.alloc 53 [.iv 0,.nl])),(Qs 2 5 12),(Qm 6 13)]) (.seq (.reg [(Qm 14 6),(Qa 15 (.not (.t 14))),(Qm 16 15),(Qh 17 16 false 0 1),(Qn 18 16 false 17),(Qg 19 16 false (.mv (.t 4))),(Qg 20 16 false (.call 107 [(.t 18),(.t 19)])),(Qq 21 16 20),(Qm 22 21),(Qh 23 22 false 1 1),(Qn 24 22 false 23),(Qg 25 22 false (.mv (.t 3))),(Qg 26 22 false (.call 108 [(.t 24),(.t 25)])),(Qq 27 22 26)]) (.ite (.t 27) (.seq (.reg [(Qi 2 142)]) (.ret)) (.skip)))) (.seq (.reg [(Qi 2 0)]) (.ret)))))
theorem ok59:FnOK Tryz.prog 59 Tryz.f59 e59 [.t 2] 1 27:=⟨by kernel_rfl,⟨_,rfl,by kernel_rfl⟩,by kernel_rfl,by kernel_rfl⟩
noncomputable def Z1g:Bool→Option Int
| x5=>
 ifb x5 (
 some 142) (
 some 0)
noncomputable def Z2g (x1:Scene):Option Int:=
 (Z48 x1.Diners).bind fun x2=>
 ifb (!x2.2) (
 Z1g true) (
 (Ztf x1.Diners ((fun z=>Znf z))).bind fun x3=>
 ifb x3 (
 Z1g true) (
 (Zzf x1.Mail ((fun z=>Zlf z x1))).bind fun x4=>
 Z1g x4))
theorem k_table_Check (x1:Scene) (r:Int) (h:Z2g x1=some r):Zs2 Tryz.prog 59 [.agg (Scene.row x1)] (.iv r):=by
 refine Zw2 ok59 rfl rfl fun w0 H0=>?_
 rw [Z2g] at h
 refine Zn2 19 ?_;dsimp only [go_sem];refine An ?_;obtain ⟨x2,ex2,h⟩:=Bs h;refine Z13 trivial (k_place_Graph x1.Diners _ ex2) (h:=?_);refine Zn2 12 ?_;dsimp only [go_sem];refine An ?_;refine Zg4 (fun (x5:Bool)=>(⟨(an 27 [.bv x5]),[],[]⟩:St)) Z1g r ?_ fun J1=>?_
 ·intro x5 h;rw [Z1g] at h;(try dsimp only);refine Zi4 h rfl (fun _ h=>?_) fun _ h=>?_
  ·refine Zn2 4 ?_;dsimp only [go_sem];refine An ?_;exact Zq4 (res:=fun (r:Int)=>.iv r) ok59 h
  ·refine Zn2 5 ?_;dsimp only [go_sem];refine An ?_;exact Zq4 (res:=fun (r:Int)=>.iv r) ok59 h
 ·refine Zp4 16 h rfl (fun _ h=>?_) fun _ h=>?_
  ·dsimp only [go_sem];refine Zn2 12 ?_;dsimp only [go_sem];refine An ?_;exact Zs4 J1 (s:=true) h
  ·dsimp only [go_sem];refine Zn2 3 ?_;dsimp only [go_sem];refine An ?_;obtain ⟨x3,ex3,h⟩:=Bs h;refine Z13 trivial (Zuf x1.Diners _ _ ((fun z=>Znf z)) ⟨by kernel_rfl,rfl,fun z r hz=>Zof z r hz⟩ _ ex3) (h:=?_);refine Zn2 2 ?_;dsimp only [go_sem];refine An ?_;refine Zp4 22 h rfl (fun _ h=>?_) fun _ h=>?_
   ·dsimp only [go_sem];refine Zn2 6 ?_;dsimp only [go_sem];refine An ?_;exact Zs4 J1 (s:=true) h
   ·dsimp only [go_sem];refine Zn2 3 ?_;dsimp only [go_sem];refine An ?_;obtain ⟨x4,ex4,h⟩:=Bs h;refine Zu4 trivial ((Zt4.refl _).block 0 rfl rfl) (Z0g x1.Mail _ _ ((fun z=>Zlf z x1)) ⟨by kernel_rfl,rfl,fun z r hz=>Zmf z x1 r hz⟩ _ ex4) (h:=?_);refine Zn2 2 ?_;dsimp only [go_sem];refine An ?_;exact Zs4 J1 (s:=x4) h
set_option maxRecDepth 100000
set_option maxHeartbeats 4000000
@[go_sem] def e134:EC:=.seq (.reg [(Qa 4 (.mv (.c .nl)))]) (.seq (.seq (.reg [(Qm 5 1),(Qa 6 (.bin .lss (.t 5) (.c (.iv 0))))]) (.ite (.t 6) (.reg [(Qa 7 .bad),(Qb .bad)]) (.skip))) (.seq (.seq (.reg [(Qm 8 1),(Qm 9 0),(Qa 10 (.cap (.t 9))),(Qm 11 0),(Qa 12 (.len (.t 11))),(Qa 13 (.bin .sub (.t 10) (.t 12))),(Qa 14 (.bin .sub (.t 8) (.t 13))),(Qm 1 14)]) (.seq (.reg [(Qm 15 1),(Qa 16 (.bin .gtr (.t 15) (.c (.iv 0))))]) (.ite (.t 16) (.reg [(Qm 17 0),(Qm 18 0),(Qa 19 (.cap (.t 18))),(Qa 20 (.slice 5 (.t 17) none (some (.t 19)))),(Qm 21 1),(Qa 22 (.apz 95 5 40 [.iv 0,.iv 0,.iv 0,.iv 0,.iv 0] (.t 20) (.t 21))),(Qm 23 0),(Qa 24 (.len (.t 23))),(Qa 25 (.slice 5 (.t 22) none (some (.t 24)))),(Qm 0 25)]) (.skip)))) (.seq (.reg [(Qm 26 0),(Qm 4 26)]) (.ret))))
theorem ok134:FnOK Tryz.prog 134 Tryz.f134 e134 [.t 4] 2 25:=⟨by kernel_rfl,⟨_,rfl,by kernel_rfl⟩,by kernel_rfl,by kernel_rfl⟩
set_option maxRecDepth 100000
set_option maxHeartbeats 4000000
@[go_sem] def e88_L1:EC:=.seq (.reg [(Qa 28 (.bin .lss (.t 27) (.t 26)))]) (.seq (.ite (.t 28) (.skip) (.exit 2)) (.seq (.blk 3 (.seq (.reg [(Qk 29 1 25 27),(Ql 30 29),(Qm 8 30)]) (.reg [(Qm 31 6),(Qm 32 8),(Qa 33 (.app 95 5 40 (.t 31) (.t 32))),(Qm 6 33)]))) (.reg [(Qv 34 27 1),(Qm 27 34)])))
@[go_sem] def e88_L0:EC:=.seq (.reg [(Qa 12 (.bin .lss (.t 11) (.t 10)))]) (.seq (.ite (.t 12) (.skip) (.exit 0)) (.seq (.blk 1 (.seq (.reg [(Qk 13 1 9 11),(Ql 14 13),(Qm 5 14)]) (.seq (.reg [(Qm 15 3),(Qm 16 5),(Qa 17 (.len (.t 16))),(Qa 18 (.bin .add (.t 15) (.t 17))),(Qm 3 18)]) (.seq (.reg [(Qm 19 3),(Qa 20 (.bin .lss (.t 19) (.c (.iv 0))))]) (.ite (.t 20) (.reg [(Qa 21 .bad),(Qb .bad)]) (.skip)))))) (.reg [(Qv 22 11 1),(Qm 11 22)])))
@[go_sem] def e88:EC:=.seq (.reg [(Qa 2 (.mv (.c .nl)))]) (.seq (.reg [(Qi 3 0)]) (.seq (.seq (.reg [(Qm 9 0),(Qa 10 (.len (.t 9))),(Qi 11 0)]) (.blk 0 (.loop e88_L0))) (.seq (.reg [(Qm 23 3),(Qa 24 (.call 134 [(.c .nl),(.t 23)])),(Qm 6 24)]) (.seq (.seq (.reg [(Qm 25 0),(Qa 26 (.len (.t 25))),(Qi 27 0)]) (.blk 2 (.loop e88_L1))) (.seq (.reg [(Qm 35 6),(Qm 2 35)]) (.ret))))))
theorem ok88:FnOK Tryz.prog 88 Tryz.f88 e88 [.t 2] 1 35:=⟨by kernel_rfl,⟨_,rfl,by kernel_rfl⟩,by kernel_rfl,by kernel_rfl⟩
noncomputable def Z3g:(List Mail)→Option (List Mail)
| x4=>
 some x4
noncomputable def Z4g (x1:Int):Unit→Option (List Mail)
| ()=>
 ifb (decide (0<(wr (x1-(wr (0-0)))))) (
 (apz_ 40 (wr (x1-(wr (0-0)))) ((Mail.mk 0 0 ((Msg.mk 0 0 0))))).bind fun x2=>
 (sub_ x2 0 0).bind fun x3=>
 Z3g x3) (
 Z3g (([]:List Mail)))
noncomputable def Z5g (x1:Int):Option (List Mail):=
 ifb (decide (x1<0)) (
 none) (
 (Z4g x1) ())
theorem Z6g (x1:Int) (r:(List Mail)) (h:Z5g x1=some r):FunT Tryz.prog 134 [.nl,.iv x1] [] [] (.osl 0) [] [some ⟨95,5,List.map Mail.row r⟩]:=by
 refine Zj5 ok134 rfl rfl rfl (by first | rfl | simp [go_sem]) fun w0 M0=>?_
 rw [Z5g] at h
 dsimp only [lun,List.cons_append,List.nil_append]
 refine Zn2 10 ?_;dsimp only [go_sem];refine An ?_;refine Zg4 (fun (_:Unit)=>(⟨(.nl :: .iv x1::an 25 []),[],[]⟩:St)) (Z4g x1) r ?_ fun J1=>?_
 ·rintro ⟨⟩ h;rw [Z4g] at h;(try dsimp only);refine Zn2 5 ?_;dsimp only [go_sem];refine An ?_;refine V_capN trivial rfl ?_;refine Zn2 11 ?_;dsimp only [go_sem];refine An ?_;refine Zg4 (fun (x4:(List Mail))=>(⟨(.osl 0::an 26 []),[],[some ⟨95,5,List.map Mail.row x4⟩]⟩:St)) Z3g r ?_ fun J2=>?_
  ·intro x4 h;rw [Z3g] at h;(try dsimp only);refine Zn2 5 ?_;dsimp only [go_sem];refine An ?_;obtain rfl:=Option.some.inj h;exact Zk5 ok134 rfl (by simp [go_sem])
  ·refine Zi4 h rfl (fun _ h=>?_) fun _ h=>?_
   ·refine Zn2 3 ?_;dsimp only [go_sem];refine An ?_;refine V_capN trivial rfl ?_;refine V_sliceN trivial rfl rfl rfl ?_;refine Zn2 1 ?_;dsimp only [go_sem];refine An ?_;obtain ⟨x2,ex2,h⟩:=Bs h;refine V_apzM Mail.row ex2 trivial rfl rfl rfl rfl ?_;refine Zn2 2 ?_;dsimp only [go_sem];refine An ?_;obtain ⟨x3,ex3,h⟩:=Bs h;refine V_cutM Mail.row ex3 trivial rfl rfl rfl rfl ?_;refine Zn2 2 ?_;dsimp only [go_sem];refine An ?_;refine Z44 1 0 rfl rfl rfl ?_;dsimp only [go_sem];exact Zs4 J2 (s:=x3) h
   ·refine Zn2 1 ?_;dsimp only [go_sem];refine An ?_;refine V_own 0 95 5 rfl rfl ?_;dsimp only [go_sem];exact Zs4 J2 (s:=([]:List Mail)) h
 ·refine Zi4 h rfl (fun _ h=>?_) fun _ h=>?_
  ·cases h
  ·refine Zn2 1 ?_;dsimp only [go_sem];refine An ?_;exact Zs4 J1 (s:=()) h
noncomputable def Z7g:(List Mail)→Option (List Mail)
| x31=>
 some x31
noncomputable def Z8g (x1:(List (List Mail))):(Int×(List Mail))→Option ((Int×(List Mail)) ⊕ (List Mail))
| (x21,x22)=>
 ifb (decide (x21<(ln (Zx4 5 Mail.row) x1))) (
 (at_ x1 x21).bind fun x23=>
 (Zb4 40 x22 x23).bind fun x24=>
 some (.inl (wr (x21+1),x24))) (
 Option.map Sum.inr (Z7g x22))
noncomputable def Z9g (x1:(List (List Mail))):Int→Option (List Mail)
| x15=>
 (Z5g x15).bind fun x16=>
 loop (Z8g x1) (0,x16)
noncomputable def Zag (x5:Int) (x6:Int) (x7:(List Mail)):Unit→Option ((Int×Int) ⊕ (List Mail))
| ()=>
 some (.inl (wr (x5+(ln Mail.row x7)),wr (x6+1)))
noncomputable def Zbg (x1:(List (List Mail))):(Int×Int)→Option ((Int×Int) ⊕ (List Mail))
| (x5,x6)=>
 ifb (decide (x6<(ln (Zx4 5 Mail.row) x1))) (
 (at_ x1 x6).bind fun x7=>
 ifb (decide ((wr (x5+(ln Mail.row x7)))<0)) (
 none) (
 (Zag x5 x6 x7) ())) (
 Option.map Sum.inr ((Z9g x1) x5))
noncomputable def Zcg (x1:(List (List Mail))):Option (List Mail):=
 loop (Zbg x1) (0,0)
theorem Zdg (x1:(List (List Mail))) (r:(List Mail)) (h:Zcg x1=some r):FunO Tryz.prog 88 [.sl 1 (List.map (Zx4 5 Mail.row) x1)] 95 5 (List.map Mail.row r):=by
 refine Z35 ok88 rfl fun w0 H0=>?_
 rw [Zcg] at h
 refine Zn2 15 ?_;dsimp only [go_sem];refine An ?_;refine Zg4 (fun (x15:Int)=>(⟨(.sl 1 (List.map (Zx4 5 Mail.row) x1) :: .any :: .any :: .iv x15::an 32 []),[],[]⟩:St)) (Z9g x1) r ?_ fun J1=>?_
 ·intro x15 h;rw [Z9g] at h;(try dsimp only);refine Zn2 3 ?_;dsimp only [go_sem];refine An ?_;obtain ⟨x16,ex16,h⟩:=Bs h;refine Zm5 [] [] trivial (Z6g x15 _ ex16) (h:=?_);dsimp only [go_sem];refine Zn2 9 ?_;dsimp only [go_sem];refine An ?_;refine Zg4 (fun (x31:(List Mail))=>(⟨(an 6 (.osl 0::an 29 [])),[],[some ⟨95,5,List.map Mail.row x31⟩]⟩:St)) Z7g r ?_ fun J3=>?_
  ·intro x31 h;rw [Z7g] at h;(try dsimp only);refine Zn2 5 ?_;dsimp only [go_sem];refine An ?_;exact Z85 Mail.row ok88 h rfl rfl
  ·refine Zn2 1 ?_;dsimp only [go_sem];refine An ?_;refine Zh4 h (fun ((x21,x22):(Int×(List Mail)))=>(⟨(an 6 (.osl 0::an 18 (.sl 1 (List.map (Zx4 5 Mail.row) x1) :: .iv (ln (Zx4 5 Mail.row) x1) :: .iv x21::an 8 []))),[],[some ⟨95,5,List.map Mail.row x22⟩]⟩:St)) (by simp [go_sem]) (by rintro ⟨x21,x22⟩;first | rfl | simp [go_sem]) ?_;rintro n1 ⟨x21,x22⟩ y1 h hin1 hout1;rw [Z8g] at h;(try dsimp only);refine Zn2 5 ?_;dsimp only [go_sem];refine An ?_;refine Zi4 h rfl (fun _ h=>?_) fun _ h=>?_
   ·refine Zn2 5 ?_;dsimp only [go_sem];refine An ?_;obtain ⟨x23,ex23,h⟩:=Bs h;refine Zl4 (Zx4 5 Mail.row) ex23 trivial rfl rfl rfl ?_;refine Zn2 6 ?_;dsimp only [go_sem];refine An ?_;obtain ⟨x24,ex24,h⟩:=Bs h;refine Zn4 Mail.row ex24 trivial rfl rfl rfl ?_;refine Zn2 7 ?_;dsimp only [go_sem];refine An ?_;refine Z44 1 0 rfl rfl rfl ?_;dsimp only [go_sem];exact Zr4 h hin1
   ·refine Zn2 1 ?_;dsimp only [go_sem];refine An ?_;exact Zs4 J3 (s:=x22) (Zf4 h hout1)
 ·refine Zn2 1 ?_;dsimp only [go_sem];refine An ?_;refine Zh4 h (fun ((x5,x6):(Int×Int))=>(⟨(.sl 1 (List.map (Zx4 5 Mail.row) x1) :: .any :: .any :: .iv x5::an 5 (.sl 1 (List.map (Zx4 5 Mail.row) x1) :: .iv (ln (Zx4 5 Mail.row) x1) :: .iv x6::an 24 [])),[],[]⟩:St)) (by simp [go_sem]) (by rintro ⟨x5,x6⟩;first | rfl | simp [go_sem]) ?_;rintro n1 ⟨x5,x6⟩ y1 h hin1 hout1;rw [Zbg] at h;(try dsimp only);refine Zn2 5 ?_;dsimp only [go_sem];refine An ?_;refine Zi4 h rfl (fun _ h=>?_) fun _ h=>?_
  ·refine Zn2 5 ?_;dsimp only [go_sem];refine An ?_;obtain ⟨x7,ex7,h⟩:=Bs h;refine Zl4 (Zx4 5 Mail.row) ex7 trivial rfl rfl rfl ?_;refine Zn2 16 ?_;dsimp only [go_sem];refine An ?_;refine Zg4 (fun (_:Unit)=>(⟨(.sl 1 (List.map (Zx4 5 Mail.row) x1) :: .any :: .any :: .iv (wr (x5+(ln Mail.row x7)))::an 5 (.sl 1 (List.map (Zx4 5 Mail.row) x1) :: .iv (ln (Zx4 5 Mail.row) x1) :: .iv x6::an 24 [])),[],[]⟩:St)) (Zag x5 x6 x7) y1 ?_ fun J2=>?_
   ·rintro ⟨⟩ h;rw [Zag] at h;(try dsimp only);refine Zn2 5 ?_;dsimp only [go_sem];refine An ?_;exact Zr4 h hin1
   ·refine Zi4 h rfl (fun _ h=>?_) fun _ h=>?_
    ·cases h
    ·refine Zn2 1 ?_;dsimp only [go_sem];refine An ?_;exact Zs4 J2 (s:=()) h
  ·refine Zn2 1 ?_;dsimp only [go_sem];refine An ?_;exact Zs4 J1 (s:=x5) (Zf4 h hout1)
set_option maxRecDepth 100000
set_option maxHeartbeats 4000000
set_option maxRecDepth 100000
set_option maxHeartbeats 4000000
theorem Zeg (l:List Mail) (p:Mail→Option Bool) (q:Mail→Bool) (hl:l.length≤4000000000000000000) (hp:∀x∈l,p x=some (q x)):Zxf l p=some (plc (l.findIdx? q)):=by
 unfold Zxf
 refine Z86 l _ q hl (fun k x hx=>?_) ?_
 ·simp only [Zwf,Z16 hx,Zv5,Zz5 hx,Option.bind_some,hp x (List.mem_iff_getElem?.2 ⟨k,hx⟩),Z46 hx hl]
  cases q x<;>rfl
 ·simp only [Zwf,Z26,Zw5,Zvf,Option.map_some]
theorem Zfg (l:List Mail) (p:Mail→Option Bool) (q:Mail→Bool) (hl:l.length≤4000000000000000000) (hp:∀x∈l,p x=some (q x)):Zzf l p=some (l.any q):=by
 unfold Zzf
 rw [Zeg l p q hl hp,Option.bind_some,Z66,Z96]
theorem Zgg (l:List Diner) (p:Diner→Option Bool) (q:Diner→Bool) (hl:l.length≤4000000000000000000) (hp:∀x∈l,p x=some (q x)):Zrf l p=some (plc (l.findIdx? q)):=by
 unfold Zrf
 refine Z86 l _ q hl (fun k x hx=>?_) ?_
 ·simp only [Zqf,Z16 hx,Zv5,Zz5 hx,Option.bind_some,hp x (List.mem_iff_getElem?.2 ⟨k,hx⟩),Z46 hx hl]
  cases q x<;>rfl
 ·simp only [Zqf,Z26,Zw5,Zpf,Option.map_some]
theorem Zhg (l:List Diner) (p:Diner→Option Bool) (q:Diner→Bool) (hl:l.length≤4000000000000000000) (hp:∀x∈l,p x=some (q x)):Ztf l p=some (l.any q):=by
 unfold Ztf
 rw [Zgg l p q hl hp,Option.bind_some,Z66,Z96]
def Zig:Scene:=⟨[],[]⟩
def Zjg (n:Nat) (m:Mail):Bool:=!(decide (min m.From m.To<0)||(decide ((n:Int)≤max m.From m.To)||decide (m.From=m.To)))
def okS (s:Scene):Bool:=(Zb8 s.Diners).2&&(s.Diners.all okD&&s.Mail.all (Zjg s.Diners.length))
theorem s_tCheck1 (m:Mail) (s:Scene):Zlf m s=some (!Zjg s.Diners.length m):=by
 simp only [Zlf,Zkf,Zjg,Zy4,Bool.not_not]
 cases decide (min m.From m.To<0)<;>cases decide ((s.Diners.length:Int)≤max m.From m.To)<;>rfl
theorem s_tCheck (s:Scene) (hD:fewD s.Diners) (hM:s.Mail.length≤1000000):Z2g s=some (if okS s then 0 else 142):=by
 simp only [Z2g,s_Graph _ hD,Option.bind_some,Z1g]
 rw [show okS s=((Zb8 s.Diners).2&&(s.Diners.all okD&&s.Mail.all (Zjg s.Diners.length))) from rfl]
 cases h1:(Zb8 s.Diners).2 with
 | false=>simp
 | true=>
   rw [Zhg s.Diners _ (fun d=>!okD d) (by have:=hD.1;omega) (fun d _=>by
    simp only [Znf,Z79,Option.bind_some]
    cases okD d<;>rfl)]
   rw [Zfg s.Mail _ (fun m=>!Zjg s.Diners.length m) (by omega) (fun m _=>s_tCheck1 m s)]
   have e1:s.Diners.any (fun d=>!okD d)=!s.Diners.all okD:=Zf7 _ _ _ fun _=>rfl
   have e2:s.Mail.any (fun m=>!Zjg s.Diners.length m)=!s.Mail.all (Zjg s.Diners.length):=Zf7 _ _ _ fun _=>rfl
   rw [e1,e2]
   cases s.Diners.all okD<;>cases s.Mail.all (Zjg s.Diners.length)<;>rfl
def Zkg (s:Scene) (a:Int):Bool:=decide (0≤a)&&decide (a<s.Diners.length)
theorem s_there (s:Scene) (a:Int):Zif s a=some (Zkg s a):=by
 simp only [Zif,Zhf,Zkg,Zy4]
 cases decide (0≤a)<;>rfl
theorem s_Grow (n:Nat) (hn:n≤3000000):Z5g n=some []:=by
 have e0:wr (0-0)=0:=Zy5 (by omega) (by omega)
 have e1:wr ((n:Int)-0)=n:=by rw [Zy5 (by omega) (by omega)];omega
 simp only [Z5g,Z4g,Z3g,e0,e1]
 rw [decide_eq_false (by omega),Zw5]
 by_cases h:0<n
 ·rw [decide_eq_true (by omega),Zv5]
  unfold apz_
  rw [if_pos ⟨by omega,by omega,by omega⟩,Option.bind_some]
  unfold sub_
  rw [if_pos ⟨by omega,by omega,by omega⟩]
  simp
 ·rw [decide_eq_false (by omega),Zw5]
theorem s_Concat (a b:List Mail) (ha:a.length≤1000000) (hb:b.length≤1000000):Zcg [a,b]=some (a++b):=by
 have g0:at_ [a,b] 0=some a:=rfl
 have g1:at_ [a,b] (wr (0+1))=some b:=by rw [Zy5 (by omega) (by omega)];rfl
 have l0:ln (Zx4 5 Mail.row) [a,b]=2:=by rw [Zy4];rfl
 have w1:wr (0+1)=1:=Zy5 (by omega) (by omega)
 have w2:wr (1+1)=2:=Zy5 (by omega) (by omega)
 have s1:wr (0+ln Mail.row a)=(a.length:Int):=by rw [Zy4,Zy5 (by omega) (by omega)];omega
 have s2:wr ((a.length:Int)+ln Mail.row b)=((a.length+b.length:Nat):Int):=by rw [Zy4,Zy5 (by omega) (by omega)];omega
 unfold Zcg
 rw [Ze4]
 dsimp only [Zbg]
 rw [l0,show decide ((0:Int)<2)=true from rfl,Zv5,g0,Option.bind_some,s1,decide_eq_false (by omega),Zw5]
 dsimp only [Zag]
 rw [s1,w1,Ze4]
 dsimp only [Zbg]
 rw [l0,show decide ((1:Int)<2)=true from rfl,Zv5,←w1,g1,Option.bind_some,s2,decide_eq_false (by omega),Zw5]
 dsimp only [Zag]
 rw [s2,w1,w2,Ze4]
 dsimp only [Zbg]
 rw [l0,show decide ((2:Int)<2)=false from rfl,Zw5]
 dsimp only [Z9g]
 rw [s_Grow _ (by omega),Option.bind_some]
 have k:loop (Z8g [a,b]) (0,[])=some (a++b):=by
  rw [Ze4]
  dsimp only [Z8g]
  rw [l0,show decide ((0:Int)<2)=true from rfl,Zv5,g0,Option.bind_some,Z06 _ _ (by omega) (by simp;omega),Option.bind_some,List.nil_append,w1]
  dsimp only
  rw [Ze4]
  dsimp only [Z8g]
  rw [l0,show decide ((1:Int)<2)=true from rfl,Zv5,←w1,g1,Option.bind_some,Z06 _ _ (by omega) (by omega),Option.bind_some,w1,w2]
  dsimp only
  rw [Ze4]
  dsimp only [Z8g]
  rw [l0,show decide ((2:Int)<2)=false from rfl,Zw5]
  rfl
 rw [k];rfl
def actS (s:Scene) (a:Int) (d:Diner):Scene:=⟨s.Diners.map fun x=>if x.ID=a then Zf9 d else x,s.Mail++Zg9 d⟩
def actP (s:Scene) (a:Int) (r:Diner×Int):Scene×Int:=if r.2=0 then (if okD r.1 then (actS s a r.1,0) else (Zig,130)) else (Zig,r.2)
def turnS (s:Scene) (a:Int) (q:Diner→Diner×Int):Scene×Int:=
 if okS s then (if Zkg s a then (match at_ s.Diners a with | some d=>actP s a (q d) | none=>(Zig,140)) else (Zig,140)) else (Zig,142)
theorem Zlg {s:Scene} {a:Int} (h:Zkg s a=true):∃d,at_ s.Diners a=some d∧s.Diners[a.toNat]?=some d:=by
 simp only [Zkg,Bool.and_eq_true,decide_eq_true_eq] at h
 exact at_lt h.1 h.2
def Zmg (s:Scene) (a b:Int):Option Nat:=s.Mail.findIdx? fun m=>decide (m.From=a)&&decide (m.To=b)
def Zng (s:Scene) (a b:Int):Scene×Int:=
 if okS s then (if Zkg s a&&Zkg s b then (match Zmg s a b with
  | none=>(Zig,141)
  | some i=>match s.Mail[i]?,at_ s.Diners b with
    | some m,some d=>actP ⟨s.Diners,s.Mail.take i++s.Mail.drop (i+1)⟩ b (getD' d a m.Msg)
    | _,_=>(Zig,140)) else (Zig,140)) else (Zig,142)
def actA (s:Scene) (k a b:Int):Scene×Int:=if k=0 then turnS s a (fun d=>turnD d 0 1) else if k=1 then turnS s a (fun d=>turnD d 2 0) else Zng s a b
theorem ids {l:List Diner} (h:(Zb8 l).2=true) {k:Nat} {d:Diner} (hd:l[k]?=some d):d.ID=k:=by
 unfold Zb8 at h
 split at h
 ·rename_i h1
  simp only [Bool.and_eq_true] at h1
  have:=((Zib l l 0).1 h1.1 k d hd).1
  simpa using this
 ·simp at h
set_option maxRecDepth 100000
set_option maxHeartbeats 4000000
@[go_sem] def e78:EC:=.seq (.reg [(Qx 1 53 2 0),(Qa 2 (.alloc 48 [.nl,.nl])),(Qi 3 0)]) (.seq (.reg [(Qe 9 2 1),(Qa 10 (.call 124 [(.t 9)])),(Qm 8 10),(Qa 11 (.ext (.t 8) 0)),(Qa 12 (.ext (.t 8) 1)),(Qa 13 (.ext (.t 8) 2)),(Qm 4 11),(Qm 5 12),(Qm 6 13)]) (.seq (.seq (.reg [(Qm 14 6),(Qa 15 (.bin .neq (.t 14) (.c (.iv 0))))]) (.ite (.t 15) (.seq (.reg [(Qa 16 (.build [.nl,.nl] [])),(Qm 17 6),(Qs 2 2 16),(Qm 3 17)]) (.ret)) (.skip))) (.seq (.reg [(Qe 19 2 1),(Qm 20 4),(Qa 21 (.call 125 [(.t 19),(.t 20)])),(Qm 18 21),(Qa 22 (.ext (.t 18) 0)),(Qa 23 (.ext (.t 18) 1)),(Qm 7 22),(Qm 6 23)]) (.seq (.reg [(Qm 24 7),(Qa 25 (.build [.nl,.nl] [(0,1,(.t 24))])),(Qm 26 6),(Qs 2 2 25),(Qm 3 26)]) (.ret)))))
theorem ok78:FnOK Tryz.prog 78 Tryz.f78 e78 [.c 2 (some 2),.t 3] 1 26:=⟨by kernel_rfl,⟨_,rfl,by kernel_rfl⟩,by kernel_rfl,by kernel_rfl⟩
noncomputable def Zog (x1:Graph):Option (Scene×Int):=
 (Zjd x1).bind fun x2=>
 ifb (!decide (x2.2.2=0)) (
 some ((Scene.mk (([]:(List Diner))) (([]:(List Mail)))),x2.2.2)) (
 (Znc x1 x2.1).bind fun x3=>
 some ((Scene.mk x3.1 (([]:(List Mail)))),x3.2))
theorem k_table_New (x1:Graph) (r:(Scene×Int)) (h:Zog x1=some r):Zs2 Tryz.prog 78 [.agg (Graph.row x1)] (.tup [.agg (Scene.row r.1),.iv r.2]):=by
 refine Zw2 ok78 rfl rfl fun w0 H0=>?_
 rw [Zog] at h
 refine Zn2 9 ?_;dsimp only [go_sem];refine An ?_;obtain ⟨x2,ex2,h⟩:=Bs h;refine Z13 trivial (k_colour_Run x1 _ ex2) (h:=?_);refine Zn2 14 ?_;dsimp only [go_sem];refine An ?_;refine Zi4 h rfl (fun _ h=>?_) fun _ h=>?_
 ·refine Zn2 7 ?_;dsimp only [go_sem];refine An ?_;exact Zq4 (res:=fun (r:(Scene×Int))=>.tup [.agg (Scene.row r.1),.iv r.2]) ok78 h
 ·refine Zn2 5 ?_;dsimp only [go_sem];refine An ?_;obtain ⟨x3,ex3,h⟩:=Bs h;refine Z13 trivial (k_place_Table x1 x2.1 _ ex3) (h:=?_);refine Zn2 14 ?_;dsimp only [go_sem];refine An ?_;exact Zq4 (res:=fun (r:(Scene×Int))=>.tup [.agg (Scene.row r.1),.iv r.2]) ok78 h
theorem lsf_le (p:Nat→Bool):∀(f k j:Nat),p j=true→k≤j→j≤k+f→lsf p f k≤j
 | 0,k,j,_,h1,_=>h1
 | f+1,k,j,h,h1,h2=>by
   simp only [lsf]
   split
   ·exact h1
   ·rename_i hp
    have:k≠j:=by rintro rfl;exact hp h
    exact lsf_le p f (k+1) j h (by omega) (by omega)
theorem countP_lt {α:Type} (p q:α→Bool):∀(l:List α),(∀x∈l,p x=true→q x=true)→(∃x∈l,q x=true∧p x=false)→l.countP p<l.countP q
 | [],_,⟨x,hx,_⟩=>absurd hx (by simp)
 | y::l,h,⟨x,hx,h1,h2⟩=>by
   have hle:l.countP p≤l.countP q:=List.countP_mono_left fun z hz=>h z (List.mem_cons_of_mem _ hz)
   rw [List.countP_cons,List.countP_cons]
   rcases List.mem_cons.1 hx with rfl | hx
   ·rw [h1,h2];simp;omega
   ·have:=countP_lt p q l (fun z hz=>h z (List.mem_cons_of_mem _ hz)) ⟨x,hx,h1,h2⟩
    have hy:=h y (by simp)
    cases hp:p y with
    | false=>simp;omega
    | true=>rw [hy hp];simp;omega
def zeros (g:Graph) (c:List Int):Nat:=(List.range g.N.toNat).countP fun a:Nat=>decide (cg c (a:Int)=0)
theorem zeros_le (g:Graph) (c:List Int):zeros g c≤g.N.toNat:=by
 have:=List.countP_le_length (p:=fun a:Nat=>decide (cg c (a:Int)=0)) (l:=List.range g.N.toNat)
 simpa [zeros] using this
structure ColN (g:Graph) (c:List Int) (n:Nat):Prop where
 len:(c.length:Int)=g.N
 lo:∀x∈c,0≤x
 hi:∀x∈c,x≤n
 ne:∀a b,b∈Zqc g a→cg c a≠0→cg c b≠0→cg c a≠cg c b
theorem ColN.I {g:Graph} {c:List Int} {n:Nat} (h:ColN g c n) (hn:n≤100):ColI g c:=⟨h.len,h.lo,fun x hx=>by have:=h.hi x hx;omega⟩
theorem Zpg {g:Graph} {c:List Int} {a:Int} (h0:0≤a) (h:a<g.N):cg (Znd g c) a=newC g c a.toNat:=by
 unfold cg Znd
 rw [List.getElem?_map,List.getElem?_range (by omega)];rfl
theorem near_symm' {g:Graph} (hg:okG g=true) {a b:Int} (h:b∈Zqc g a):a∈Zqc g b:=by
 rw [Zvc hg] at *;exact h.symm
theorem Zqg {c near:List Int} {a:Int}:Zmd c near a=true↔cg c a=0∧∀b∈near,cg c b=0→b≤a:=by
 unfold Zmd
 simp only [Bool.and_eq_true,decide_eq_true_eq,Bool.not_eq_true',List.any_eq_false,Bool.and_eq_true,decide_eq_true_eq,not_and]
 constructor
 ·rintro ⟨h1,h2⟩;exact ⟨h1,fun b hb h0=>by have:=h2 b hb h0;omega⟩
 ·rintro ⟨h1,h2⟩;exact ⟨h1,fun b hb h0=>by have:=h2 b hb h0;omega⟩
theorem freshC_le {g:Graph} {c:List Int} {n:Nat} (hc:ColN g c n) (hn:n≤100) (a:Int):Zld c (Zqc g a)≤n+1:=by
 refine lsf_le _ _ _ _ ?_ (by omega) (by omega)
 simp only [Bool.not_eq_true']
 unfold Zkd
 rw [List.any_eq_false]
 intro b hb
 simp only [decide_eq_true_eq]
 intro he
 by_cases h:0≤b∧b<c.length
 ·have:=hc.hi _ (cg_mem (c:=c) h.1 h.2)
  omega
 ·unfold cg at he
  have hb0:0≤b.toNat:=Nat.zero_le _
  cases hq:c[b.toNat]? with
  | none=>rw [hq] at he;simp at he;omega
  | some y=>
    rw [hq] at he
    have:=hc.hi y (List.mem_iff_getElem?.2 ⟨_,hq⟩)
    simp at he;omega
theorem Zrg (g:Graph) (c:List Int) (a:Nat):(Zmd c (Zqc g a) a=true∧newC g c a=(Zld c (Zqc g a):Int))∨(Zmd c (Zqc g a) a=false∧newC g c a=cg c a):=by
 unfold newC
 cases Zmd c (Zqc g a) a<;>simp
theorem ColN.round {g:Graph} (hg:okG g=true) {c:List Int} {n:Nat} (hc:ColN g c n) (hn:n≤100):ColN g (Znd g c) (n+1):=by
 obtain ⟨g1,g2,_,_,_⟩:=Ze7 hg
 have hI:=hc.I hn
 have hmem:∀x∈Znd g c,0≤x∧x≤n+1:=fun x hx=>by
  obtain ⟨a,ha,rfl⟩:=List.mem_map.1 hx
  have ha':=List.mem_range.1 ha
  have:=freshC_le hc hn a
  rcases Zrg g c a with ⟨_,h2⟩ | ⟨_,h2⟩
  ·rw [h2];omega
  ·rw [h2]
   have hm:=cg_mem (c:=c) (a:=(a:Int)) (by omega) (by have:=hc.len;omega)
   have:=hc.lo _ hm
   have:=hc.hi _ hm
   omega
 refine ⟨by simp [Znd];omega,fun x hx=>(hmem x hx).1,fun x hx=>by have:=(hmem x hx).2;omega,fun a b hb ha0 hb0=>?_⟩
 obtain ⟨b1,b2,b3,a1,a2⟩:=Zwc hg hb
 have hab:=near_symm' hg hb
 rw [Zpg a1 a2] at ha0 ⊢
 rw [Zpg b1 b2] at hb0 ⊢
 have ea:((a.toNat:Nat):Int)=a:=Int.toNat_of_nonneg a1
 have eb:((b.toNat:Nat):Int)=b:=Int.toNat_of_nonneg b1
 have ua:=(Zod hg hI a).1
 have ub:=(Zod hg hI b).1
 unfold Zkd at ua ub
 rw [List.any_eq_false] at ua ub
 have ua':=ua b hb
 have ub':=ub a hab
 simp only [decide_eq_true_eq] at ua' ub'
 rcases Zrg g c a.toNat with ⟨h1,h2⟩ | ⟨h1,h2⟩<;>rcases Zrg g c b.toNat with ⟨k1,k2⟩ | ⟨k1,k2⟩<;>rw [ea] at h1 h2<;>rw [eb] at k1 k2
 ·rw [Zqg] at h1 k1
  have:=h1.2 b hb k1.1
  have:=k1.2 a hab h1.1
  exact absurd (by omega) b3
 ·rw [h2,k2];exact fun e=>ua' e.symm
 ·rw [h2,k2];exact ub'
 ·rw [h2,k2]
  rw [h2] at ha0
  rw [k2] at hb0
  exact hc.ne a b hb ha0 hb0
theorem max_zero (p:Nat→Bool):∀n:Nat,(∃a,a<n∧p a=true)→∃a,a<n∧p a=true∧∀b,b<n→p b=true→b≤a
 | 0,⟨a,h,_⟩=>absurd h (by omega)
 | n+1,⟨a,h,hp⟩=>by
   cases hn:p n with
   | true=>exact ⟨n,by omega,hn,fun b hb _=>by omega⟩
   | false=>
     have:a≠n:=by rintro rfl;rw [hn] at hp;simp at hp
     obtain ⟨a',h1,h2,h3⟩:=max_zero p n ⟨a,by omega,hp⟩
     refine ⟨a',by omega,h2,fun b hb hpb=>?_⟩
     have:b≠n:=by rintro rfl;rw [hn] at hpb;simp at hpb
     exact h3 b (by omega) hpb
theorem Zsg {g:Graph} (hg:okG g=true) {c:List Int} {n:Nat} (hc:ColN g c n) (hn:n≤100) (h0:(0:Int)∈c):zeros g (Znd g c)<zeros g c:=by
 have hI:=hc.I hn
 have ex:∃a,a<g.N.toNat∧(fun a:Nat=>decide (cg c (a:Int)=0)) a=true:=by
  obtain ⟨k,hk⟩:=List.mem_iff_getElem?.1 h0
  have hlt:=(List.getElem?_eq_some_iff.1 hk).1
  have:=hc.len
  refine ⟨k,by omega,?_⟩
  simp [cg,hk]
 obtain ⟨a,h1,h2,h3⟩:=max_zero _ _ ex
 simp only [decide_eq_true_eq] at h2 h3
 refine countP_lt _ _ _ (fun b hb hz=>?_) ⟨a,List.mem_range.2 h1,by simpa using h2,?_⟩
 ·have hb':=List.mem_range.1 hb
  have hf:=(Zod hg hI b).2.1
  simp only [decide_eq_true_eq] at hz ⊢
  rw [Zpg (by omega) (by omega),Int.toNat_natCast] at hz
  rcases Zrg g c b with ⟨k1,k2⟩ | ⟨k1,k2⟩
  ·rw [Zqg] at k1;exact k1.1
  ·rw [←k2];exact hz
 ·have ht:Zmd c (Zqc g a) a=true:=by
   rw [Zqg]
   refine ⟨h2,fun b hb hb0=>?_⟩
   obtain ⟨b1,b2,_⟩:=Zwc hg hb
   have:=h3 b.toNat (by omega) (by rw [Int.toNat_of_nonneg b1];exact hb0)
   omega
  have hf:=(Zod hg hI a).2.1
  simp only [decide_eq_false_iff_not]
  rw [Zpg (by omega) (by omega),Int.toNat_natCast]
  unfold newC
  rw [ht];simp;omega
def runL (g:Graph):Nat→List Int→Int→List Int×Int
 | 0,c,n=>(c,n)
 | f+1,c,n=>if (0:Int)∈c then runL g f (Znd g c) (n+1) else (c,n)
theorem zeros_pos {g:Graph} {c:List Int} {n:Nat} (hc:ColN g c n) (h0:(0:Int)∈c):0<zeros g c:=by
 obtain ⟨k,hk⟩:=List.mem_iff_getElem?.1 h0
 have hlt:=(List.getElem?_eq_some_iff.1 hk).1
 have:=hc.len
 refine List.countP_pos_iff.2 ⟨k,List.mem_range.2 (by omega),?_⟩
 simp [cg,hk]
theorem runL_right {g:Graph} (hg:okG g=true):∀(f:Nat) (c:List Int) (n:Nat),ColN g c n→zeros g c≤f→n+f≤100→Zac g (runL g f c n).1=true∧(runL g f c n).1.length≤64:=by
 obtain ⟨g1,g2,g3,g4,g5⟩:=Ze7 hg
 have done:∀(c:List Int) (n:Nat),ColN g c n→(0:Int)∉c→Zac g c=true∧c.length≤64:=fun c n hc h0=>by
  have hl:=hc.len
  refine ⟨?_,by omega⟩
  unfold Zac
  rw [decide_eq_true hl,Bool.true_and,Bool.and_eq_true,List.all_eq_true,List.all_eq_true]
  have nz:∀a:Int,0≤a→a<g.N→cg c a≠0:=fun a h1 h2 h=>h0 (h ▸ cg_mem (c:=c) h1 (by omega))
  refine ⟨fun x hx=>?_,fun e he=>?_⟩
  ·have:=hc.lo x hx
   have:x≠0:=by rintro rfl;exact h0 hx
   simp;omega
  ·obtain ⟨e1,e2,e3⟩:=g4 e he
   have:=hc.ne e.A e.B ((Zvc hg).2 (.inl he)) (nz _ e1 (by omega)) (nz _ (by omega) e3)
   simpa using this
 intro f
 induction f with
 | zero=>
   intro c n hc hz _
   have h0:(0:Int)∉c:=fun h=>by have:=zeros_pos hc h;omega
   exact done c n hc h0
 | succ f ih=>
   intro c n hc hz hn
   simp only [runL]
   split
   ·rename_i h0
    have:=Zsg hg hc (by omega) h0
    have k:=ih (Znd g c) (n+1) (hc.round hg (by omega)) (by omega) (by omega)
    rwa [show ((n+1:Nat):Int)=(n:Int)+1 from rfl] at k
   ·rename_i h0
    exact done c n hc h0
theorem run_loop {g:Graph} (hg:okG g=true):∀(f:Nat) (c:List Int) (n:Nat),ColN g c n→zeros g c≤f→n+f≤100→loop (Zid g) (c,(n:Int))=some ((runL g f c n).1,(runL g f c n).2,0):=by
 obtain ⟨g1,g2,g3,g4,g5⟩:=Ze7 hg
 have stop:∀(c:List Int) (n:Nat),ColN g c n→(0:Int)∉c→loop (Zid g) (c,(n:Int))=some (c,(n:Int),0):=fun c n hc h0=>by
  have hl:=hc.len
  rw [Ze4]
  dsimp only [Zid]
  rw [Zpd c 0 (by omega),Option.bind_some,decide_eq_false h0,Zw5]
  rfl
 intro f
 induction f with
 | zero=>
   intro c n hc hz _
   have h0:(0:Int)∉c:=fun h=>by have:=zeros_pos hc h;omega
   exact stop c n hc h0
 | succ f ih=>
   intro c n hc hz hn
   have hl:=hc.len
   simp only [runL]
   by_cases h0:(0:Int)∈c
   ·rw [if_pos h0,Ze4]
    dsimp only [Zid]
    rw [Zpd c 0 (by omega),Option.bind_some,decide_eq_true h0,Zv5,s_Round g hg c (hc.I (by omega)),Option.bind_some,Z36 (by omega)]
    have:=Zsg hg hc (by omega) h0
    exact ih (Znd g c) (n+1) (hc.round hg (by omega)) (by omega) (by omega)
   ·rw [if_neg h0];exact stop c n hc h0
def c0 (g:Graph):List Int:=List.replicate g.N.toNat 0
def Ztg (g:Graph):List Int:=(runL g 64 (c0 g) 0).1
theorem cg_c0 (g:Graph) (a:Int):cg (c0 g) a=0:=by
 unfold cg c0
 rw [List.getElem?_replicate]
 split<;>rfl
theorem c0_ok {g:Graph} (hg:okG g=true):ColN g (c0 g) 0:=by
 obtain ⟨g1,_⟩:=Ze7 hg
 refine ⟨by simp [c0];omega,fun x hx=>?_,fun x hx=>?_,fun a b _ h _=>absurd (cg_c0 g a) h⟩
 ·have:=List.eq_of_mem_replicate hx;omega
 ·have:=List.eq_of_mem_replicate hx;omega
theorem zeros64 {g:Graph} (hg:okG g=true) (c:List Int):zeros g c≤64:=by
 have:=zeros_le g c
 have:=(Ze7 hg).2.1
 omega
theorem Zug {g:Graph} (hg:okG g=true):Zac g (Ztg g)=true∧(Ztg g).length≤64:=by
 have:=runL_right hg 64 (c0 g) 0 (c0_ok hg) (zeros64 hg _) (by omega)
 exact this
theorem s_Run (g:Graph) (hg:okG g=true):Zjd g=some (Ztg g,(runL g 64 (c0 g) 0).2,0):=by
 obtain ⟨g1,g2,_⟩:=Ze7 hg
 simp only [Zjd,Zd7,hg,if_true,Option.bind_some,decide_true,Bool.not_true,Zw5]
 have e:mk_ 8 g.N 0=some (c0 g):=by
  unfold mk_
  rw [if_pos ⟨by omega,by omega⟩];rfl
 rw [e,Option.bind_some]
 exact run_loop hg 64 (c0 g) 0 (c0_ok hg) (zeros64 hg _) (by omega)
def Zvg (g:Graph):Scene:=⟨Zzc g (Ztg g),[]⟩
theorem s_New (g:Graph):Zog g=some (if okG g then (Zvg g,0) else (⟨[],[]⟩,30)):=by
 cases hg:okG g with
 | false=>
   have:Zjd g=some ([],0,30):=by
    simp only [Zjd,Zd7,hg,Option.bind_some];rfl
   simp only [Zog,this,Option.bind_some];rfl
 | true=>
   obtain ⟨h1,h2⟩:=Zug hg
   simp only [Zog,s_Run g hg,Option.bind_some,decide_true,Bool.not_true,Zw5,s_Table g _ (show (Ztg g).length≤1000000 by omega),hg,h1,if_true]
   rfl
end NX
end Go.Proofs.YtacfbmldajmjiaaGreat
