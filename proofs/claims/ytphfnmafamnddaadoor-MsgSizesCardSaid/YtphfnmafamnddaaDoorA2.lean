/-
  The function narthex/narthexlaw07.MsgApart: its code compiled, a model, and that the code answers as the model. Written by a program of ours (lb.py). No statement of the seat is proved here.
-/
import Derived.KernelRfl
import Derived.Lib.ItoaLen
import Derived.Lib.ItoaMem
import Derived.Test.YtphfnmafamnddaaDoorA1
namespace Go.Proofs.YtphfnmafamnddaaDoor
namespace NX
open Go
set_option maxRecDepth 100000
set_option maxHeartbeats 4000000
@[go_sem] def e6:EC:=.seq (.reg [(Qx 2 24 3 0),(Qx 3 24 3 1),(Qa 4 (.mv (.c .ff)))]) (.seq (.seq (.reg [(Qa 9 (.call 8 [])),(Qa 10 (.not (.t 9))),(Qm 11 10),(Qg 12 11 false (.loadA 3 (.t 2))),(Qg 13 11 false (.call 10 [(.t 12)])),(Qg 14 11 false (.not (.t 13))),(Qq 15 11 14),(Qm 16 15),(Qg 17 16 false (.loadA 3 (.t 3))),(Qg 18 16 false (.call 10 [(.t 17)])),(Qg 19 16 false (.not (.t 18))),(Qq 20 16 19)]) (.ite (.t 20) (.seq (.reg [(Qa 21 (.call 8 [])),(Qm 4 21)]) (.ret)) (.skip))) (.seq (.reg [(Qe 23 3 2),(Qa 24 (.call 9 [(.t 23)])),(Qm 22 24),(Qa 25 (.ext (.t 22) 0)),(Qa 26 (.ext (.t 22) 1)),(Qm 5 25),(Qm 6 26)]) (.seq (.reg [(Qe 28 3 3),(Qa 29 (.call 9 [(.t 28)])),(Qm 27 29),(Qa 30 (.ext (.t 27) 0)),(Qa 31 (.ext (.t 27) 1)),(Qm 7 30),(Qm 8 31)]) (.seq (.drw [(Qm 32 5),(Qm 33 7),(Qa 34 (.sbin .eql (.t 32) (.t 33))),(Qe 35 3 2),(Qe 36 3 3),(Qa 37 (.eqs false [true,true,true] (.t 35) (.t 36))),(Qa 38 (.bq false (.t 34) (.t 37))),(Qm 39 38),(Qg 40 39 true (.loadA 3 (.t 2))),(Qg 41 39 true (.call 12 [(.t 40)])),(Qg 42 39 true (.loadA 3 (.t 3))),(Qg 43 39 true (.call 12 [(.t 42)])),(Qg 44 39 true (.sbin .eql (.t 41) (.t 43))),(Qg 45 39 true (.loadA 3 (.t 2))),(Qg 46 39 true (.loadA 3 (.t 3))),(Qg 47 39 true (.eqs false [true,true,true] (.t 45) (.t 46))),(Qg 48 39 true (.bq false (.t 44) (.t 47))),(Qp 49 39 48),(Qm 4 49)] [[],[],[0,1],[],[],[3,4],[2,5],[6],[7],[8,7,7],[7],[10,9,7],[9,11,7],[7],[7],[13,14,7],[12,15,7],[7,16],[17,11,0,1,2,3,4,5,6,7,8,9,10,11,12,13,14,15,16,17]] [[2],[2],[0,1,6],[5],[5],[3,4,6],[2,5,7],[6,8,9,10,11,12,13,14,15,16,17],[7,9],[7,8,12],[7,11],[7,10,12],[7,9,11,16],[7,15],[7,15],[7,13,14,16],[7,12,15,17],[7,16,18],[17]]) (.ret)))))
theorem ok6:FnOK Tryd.prog 6 Tryd.f6 e6 [.t 4] 2 48:=⟨by kernel_rfl,⟨_,rfl,by kernel_rfl⟩,by kernel_rfl,by kernel_rfl⟩
noncomputable def Za7:Bool→Option Bool
| x12=>
 some x12
noncomputable def Zb7 (x1:Msg) (x2:Msg):Bool→Option Bool
| x6=>
 ifb x6 (
 (Zz5).bind fun x7=>
 some x7) (
 (Z55 x1).bind fun x8=>
 (Z55 x2).bind fun x9=>
 ifb ((seq x8.1 x9.1)==(decide (x1.Kind=x2.Kind)&&(decide (x1.Epoch=x2.Epoch)&&(decide (x1.Num=x2.Num)&&true)))) (
 (Zt5 x1).bind fun x10=>
 (Zt5 x2).bind fun x11=>
 Za7 ((seq x10 x11)==(decide (x1.Kind=x2.Kind)&&(decide (x1.Epoch=x2.Epoch)&&(decide (x1.Num=x2.Num)&&true))))) (
 Za7 false))
noncomputable def Zc7 (x1:Msg) (x2:Msg):Option Bool:=
 (Zz5).bind fun x3=>
 ifb (!x3) (
 (Zb7 x1 x2) true) (
 (Zz4 x1).bind fun x4=>
 ifb (!x4) (
 (Zb7 x1 x2) true) (
 (Zz4 x2).bind fun x5=>
 (Zb7 x1 x2) (!x5)))
theorem k_narthexlaw07_MsgApart (x1:Msg) (x2:Msg) (r:Bool) (h:Zc7 x1 x2=some r):Zs2 Tryd.prog 6 [.agg (Msg.row x1),.agg (Msg.row x2)] (.bv r):=by
 refine Zv2 ok6 rfl rfl fun w0 H0=>?_
 rw [Zc7] at h
 refine Zn2 9 ?_;dsimp only [go_sem];refine An ?_;obtain ⟨x3,ex3,h⟩:=Bs h;refine Zw2 trivial (Z06 _ ex3) (h:=?_);refine Zn2 2 ?_;dsimp only [go_sem];refine An ?_;refine Zz3 (fun (x6:Bool)=>(⟨(.any :: .any :: .ptr 0 0 :: .ptr 1 0::an 16 (.bv x6::an 29 [])),[some ⟨24,[.iv x1.Kind,.iv x1.Epoch,.iv x1.Num]⟩,some ⟨24,[.iv x2.Kind,.iv x2.Epoch,.iv x2.Num]⟩],[]⟩:St)) (Zb7 x1 x2) r ?_ fun J1=>?_
 ·intro x6 h;rw [Zb7] at h;(try dsimp only);refine Z04 h rfl (fun _ h=>?_) fun _ h=>?_
  ·refine Zn2 2 ?_;dsimp only [go_sem];refine An ?_;obtain ⟨x7,ex7,h⟩:=Bs h;refine Zw2 trivial (Z06 _ ex7) (h:=?_);refine Zn2 2 ?_;dsimp only [go_sem];refine An ?_;exact Z24 (res:=fun (r:Bool)=>.bv r) ok6 h
  ·refine Zn2 4 ?_;dsimp only [go_sem];refine An ?_;obtain ⟨x8,ex8,h⟩:=Bs h;refine Zw2 trivial (Z65 x1 _ ex8) (h:=?_);refine Zn2 9 ?_;dsimp only [go_sem];refine An ?_;obtain ⟨x9,ex9,h⟩:=Bs h;refine Zw2 trivial (Z65 x2 _ ex9) (h:=?_);refine Zn2 7 ?_;dsimp only [go_sem];refine An ?_;refine Zz3 (fun (x12:Bool)=>(⟨(an 4 (.bv x12::an 45 [])),[],[]⟩:St)) Za7 r ?_ fun J2=>?_
   ·intro x12 h;rw [Za7] at h;(try dsimp only);exact Z24 (res:=fun (r:Bool)=>.bv r) ok6 h
   ·refine V_drw (by kernel_rfl) fun all hall hs hnap haf=>?_;dsimp only [go_sem]
    refine G_goP hall hs haf hnap 8 11 [8,11] [(32,[.sv x8.1,.sv x9.1,.bv (seq x8.1 x9.1),.agg [.iv x1.Kind,.iv x1.Epoch,.iv x1.Num],.agg [.iv x2.Kind,.iv x2.Epoch,.iv x2.Num],.bv (decide (x1.Kind=x2.Kind)&&(decide (x1.Epoch=x2.Epoch)&&(decide (x1.Num=x2.Num)&&true))),.bv ((seq x8.1 x9.1)==(decide (x1.Kind=x2.Kind)&&(decide (x1.Epoch=x2.Epoch)&&(decide (x1.Num=x2.Num)&&true)))),.bv ((seq x8.1 x9.1)==(decide (x1.Kind=x2.Kind)&&(decide (x1.Epoch=x2.Epoch)&&(decide (x1.Num=x2.Num)&&true))))])] (by kernel_rfl) ?_;dsimp only [go_sem]
    refine GM_case 39 h rfl (fun _ h=>?_) fun _ h=>?_
    ·dsimp only [go_sem];refine G_goP hall hs haf hnap 5 6 [9,1,1,2,3,3] [(40,[.agg [.iv x1.Kind,.iv x1.Epoch,.iv x1.Num]]),(1,[.agg [.iv x2.Kind,.iv x2.Epoch,.iv x2.Num]]),(2,[.agg [.iv x1.Kind,.iv x1.Epoch,.iv x1.Num],.agg [.iv x2.Kind,.iv x2.Epoch,.iv x2.Num],.bv (decide (x1.Kind=x2.Kind)&&(decide (x1.Epoch=x2.Epoch)&&(decide (x1.Num=x2.Num)&&true)))])] (by kernel_rfl) ?_;dsimp only [go_sem];refine Zl3 9 rfl ?_;obtain ⟨x10,ex10,h⟩:=Bs h;refine Zo3 hall rfl trivial (Zu5 x1 _ ex10) (h:=?_);dsimp only [go_sem];refine Zl3 11 rfl ?_
     obtain ⟨x11,ex11,h⟩:=Bs h;refine Zo3 hall rfl trivial (Zu5 x2 _ ex11) (h:=?_);dsimp only [go_sem];refine G_goP hall hs haf hnap 4 0 [19] [(4,[.bv ((seq x10 x11)==(decide (x1.Kind=x2.Kind)&&(decide (x1.Epoch=x2.Epoch)&&(decide (x1.Num=x2.Num)&&true))))]),(39,[.bv (seq x10 x11)]),(3,[.bv ((seq x10 x11)==(decide (x1.Kind=x2.Kind)&&(decide (x1.Epoch=x2.Epoch)&&(decide (x1.Num=x2.Num)&&true)))),.bv ((seq x10 x11)==(decide (x1.Kind=x2.Kind)&&(decide (x1.Epoch=x2.Epoch)&&(decide (x1.Num=x2.Num)&&true))))])] (by kernel_rfl) ?_
     dsimp only [go_sem];refine Zk3 rfl ?_ _;exact Z34 J2 (s:=(seq x10 x11)==(decide (x1.Kind=x2.Kind)&&(decide (x1.Epoch=x2.Epoch)&&(decide (x1.Num=x2.Num)&&true)))) h
    ·dsimp only [go_sem];refine G_goP hall hs haf hnap 11 0 [19] [(4,[.ff]),(35,[.un,.un,.un,.un,.un,.un,.un,.un,.un,.ff])] (by kernel_rfl) ?_;dsimp only [go_sem];refine Zk3 rfl ?_ _;exact Z34 J2 (s:=false) h
 ·refine Z14 11 h rfl (fun _ h=>?_) fun _ h=>?_
  ·dsimp only [go_sem];refine Zn2 10 ?_;dsimp only [go_sem];refine An ?_;exact Z34 J1 (s:=true) h
  ·dsimp only [go_sem];refine Zn2 1 ?_;dsimp only [go_sem];refine An ?_;obtain ⟨x4,ex4,h⟩:=Bs h;refine Zw2 trivial (Z05 x1 _ ex4) (h:=?_);refine Zn2 3 ?_;dsimp only [go_sem];refine An ?_;refine Z14 16 h rfl (fun _ h=>?_) fun _ h=>?_
   ·dsimp only [go_sem];refine Zn2 5 ?_;dsimp only [go_sem];refine An ?_;exact Z34 J1 (s:=true) h
   ·dsimp only [go_sem];refine Zn2 1 ?_;dsimp only [go_sem];refine An ?_;obtain ⟨x5,ex5,h⟩:=Bs h;refine Zw2 trivial (Z05 x2 _ ex5) (h:=?_);refine Zn2 3 ?_;dsimp only [go_sem];refine An ?_;exact Z34 J1 (s:=!x5) h
set_option maxRecDepth 100000
set_option maxHeartbeats 4000000
@[go_sem] def e7:EC:=.seq (.reg [(Qx 1 24 3 0),(Qa 2 (.mv (.c .ff)))]) (.seq (.seq (.reg [(Qa 8 (.call 8 [])),(Qa 9 (.not (.t 8))),(Qm 10 9),(Qg 11 10 false (.loadA 3 (.t 1))),(Qg 12 10 false (.call 10 [(.t 11)])),(Qg 13 10 false (.not (.t 12))),(Qq 14 10 13)]) (.ite (.t 14) (.seq (.reg [(Qa 15 (.call 8 [])),(Qm 2 15)]) (.ret)) (.skip))) (.seq (.reg [(Qe 17 3 1),(Qa 18 (.call 9 [(.t 17)])),(Qm 16 18),(Qa 19 (.ext (.t 16) 0)),(Qa 20 (.ext (.t 16) 1)),(Qm 3 19),(Qm 4 20)]) (.seq (.drw [(Qe 21 3 1),(Qa 22 (.call 12 [(.t 21)])),(Qf 23 0 1),(Ql 24 23),(Qa 25 (.call 14 [(.t 24)])),(Qm 5 22),(Qm 6 25)] [[],[0],[],[2],[3,1],[1,4,0,1],[4,5,0,1,2,3,4,5]] [[1],[0,5],[3],[2,4],[3,6],[1],[4]]) (.seq (.reg [(Qi 7 3)]) (.seq (.seq (.reg [(Qf 26 0 1),(Ql 27 26),(Qa 28 (.bin .eql (.t 27) (.c (.iv 9))))]) (.ite (.t 28) (.reg [(Qi 7 5)]) (.skip))) (.seq (.reg [(Qm 29 4),(Qa 30 (.bin .eql (.t 29) (.c (.iv 0)))),(Qm 31 30),(Qg 32 31 true (.mv (.t 3))),(Qg 33 31 true (.slen (.t 32))),(Qg 34 31 true (.mv (.t 7))),(Qg 35 31 true (.bin .eql (.t 33) (.t 34))),(Qp 36 31 35),(Qm 37 36),(Qg 38 37 true (.mv (.t 5))),(Qg 39 37 true (.slen (.t 38))),(Qg 40 37 true (.mv (.t 6))),(Qg 41 37 true (.slen (.t 40))),(Qg 42 37 true (.bin .gtr (.t 39) (.t 41))),(Qp 43 37 42),(Qm 44 43),(Qg 45 44 true (.mv (.t 5))),(Qg 46 44 true (.mv (.t 6))),(Qg 47 44 true (.slen (.t 46))),(Qg 48 44 true (.ssl (.t 45) none (some (.t 47)))),(Qg 49 44 true (.mv (.t 6))),(Qg 50 44 true (.sbin .eql (.t 48) (.t 49))),(Qp 51 44 50),(Qm 52 51),(Qg 53 52 true (.mv (.t 5))),(Qg 54 52 true (.mv (.t 6))),(Qg 55 52 true (.slen (.t 54))),(Qg 56 52 true (.sidx (.t 53) (.t 55))),(Qg 57 52 true (.bin .eql (.t 56) (.c (.kv .u8 64)))),(Qp 58 52 57),(Qm 59 58),(Qg 60 59 true (.mv (.t 6))),(Qg 61 59 true (.sbin .neq (.t 60) (.c (.sv (ByteArray.mk #[63]))))),(Qp 62 59 61),(Qm 2 62)]) (.ret)))))))
theorem ok7:FnOK Tryd.prog 7 Tryd.f7 e7 [.t 2] 1 62:=⟨by kernel_rfl,⟨_,rfl,by kernel_rfl⟩,by kernel_rfl,by kernel_rfl⟩
noncomputable def Zd7:Bool→Option Bool
| x12=>
 some x12
noncomputable def Ze7 (x6:(ByteArray×Int)) (x7:ByteArray) (x8:ByteArray):Int→Option Bool
| x9=>
 ifb (decide (x6.2=0)) (
 ifb (decide ((Zo x6.1)=x9)) (
 ifb (decide ((Zo x8)<(Zo x7))) (
 (Z94 x7 0 (Zo x8)).bind fun x10=>
 ifb (seq x10 x8) (
 (Z84 x7 (Zo x8)).bind fun x11=>
 ifb (decide (x11=64)) (
 Zd7 (!seq x8 ((ByteArray.mk #[63])))) (
 Zd7 false)) (
 Zd7 false)) (
 Zd7 false)) (
 Zd7 false)) (
 Zd7 false)
noncomputable def Zf7 (x1:Msg):Bool→Option Bool
| x4=>
 ifb x4 (
 (Zz5).bind fun x5=>
 some x5) (
 (Z55 x1).bind fun x6=>
 (Zt5 x1).bind fun x7=>
 (Zj5 x1.Kind).bind fun x8=>
 ifb (decide (x1.Kind=9)) (
 (Ze7 x6 x7 x8) 5) (
 (Ze7 x6 x7 x8) 3))
noncomputable def Zg7 (x1:Msg):Option Bool:=
 (Zz5).bind fun x2=>
 ifb (!x2) (
 (Zf7 x1) true) (
 (Zz4 x1).bind fun x3=>
 (Zf7 x1) (!x3))
theorem k_narthexlaw07_MsgSizes (x1:Msg) (r:Bool) (h:Zg7 x1=some r):Zs2 Tryd.prog 7 [.agg (Msg.row x1)] (.bv r):=by
 refine Zv2 ok7 rfl rfl fun w0 H0=>?_
 rw [Zg7] at h
 refine Zn2 8 ?_;dsimp only [go_sem];refine An ?_;obtain ⟨x2,ex2,h⟩:=Bs h;refine Zw2 trivial (Z06 _ ex2) (h:=?_);refine Zn2 2 ?_;dsimp only [go_sem];refine An ?_;refine Zz3 (fun (x4:Bool)=>(⟨(.any :: .ptr 0 0::an 12 (.bv x4::an 48 [])),[some ⟨24,[.iv x1.Kind,.iv x1.Epoch,.iv x1.Num]⟩],[]⟩:St)) (Zf7 x1) r ?_ fun J1=>?_
 ·intro x4 h;rw [Zf7] at h;(try dsimp only);refine Z04 h rfl (fun _ h=>?_) fun _ h=>?_
  ·refine Zn2 2 ?_;dsimp only [go_sem];refine An ?_;obtain ⟨x5,ex5,h⟩:=Bs h;refine Zw2 trivial (Z06 _ ex5) (h:=?_);refine Zn2 2 ?_;dsimp only [go_sem];refine An ?_;exact Z24 (res:=fun (r:Bool)=>.bv r) ok7 h
  ·refine Zn2 4 ?_;dsimp only [go_sem];refine An ?_;obtain ⟨x6,ex6,h⟩:=Bs h;refine Zw2 trivial (Z65 x1 _ ex6) (h:=?_);refine Zn2 7 ?_;dsimp only [go_sem];refine An ?_;refine V_drw (by kernel_rfl) fun all hall hs hnap haf=>?_;dsimp only [go_sem];refine Z44 hall hs haf hnap 3 4 ?_;dsimp only [go_sem];refine An ?_;refine Zl3 1 rfl ?_;obtain ⟨x7,ex7,h⟩:=Bs h;refine Zo3 hall rfl trivial (Zu5 x1 _ ex7) (h:=?_);dsimp only [go_sem];refine Zl3 4 rfl ?_;obtain ⟨x8,ex8,h⟩:=Bs h
   refine Zo3 hall rfl trivial (Zk5 x1.Kind _ ex8) (h:=?_);dsimp only [go_sem];refine Z44 hall hs haf hnap 2 0 ?_;dsimp only [go_sem];refine An ?_;refine Zk3 rfl ?_ _;refine Zn2 11 ?_;dsimp only [go_sem];refine An ?_;refine Zz3 (fun (x9:Int)=>(⟨(an 3 (.sv x6.1 :: .iv x6.2 :: .sv x7 :: .sv x8 :: .iv x9::an 55 [])),[],[]⟩:St)) (Ze7 x6 x7 x8) r ?_ fun J2=>?_
   ·intro x9 h;rw [Ze7] at h;(try dsimp only);refine Zn2 5 ?_;dsimp only [go_sem];refine An ?_;refine Zz3 (fun (x12:Bool)=>(⟨(.any :: .any :: .bv x12::an 60 []),[],[]⟩:St)) Zd7 r ?_ fun J3=>?_
    ·intro x12 h;rw [Zd7] at h;(try dsimp only);exact Z24 (res:=fun (r:Bool)=>.bv r) ok7 h
    ·refine Z14 31 h rfl (fun _ h=>?_) fun _ h=>?_
     ·dsimp only [go_sem];refine Zn2 6 ?_;dsimp only [go_sem];refine An ?_;refine Z14 37 h rfl (fun _ h=>?_) fun _ h=>?_
      ·dsimp only [go_sem];refine Zn2 7 ?_;dsimp only [go_sem];refine An ?_;refine Z14 44 h rfl (fun _ h=>?_) fun _ h=>?_
       ·dsimp only [go_sem];refine Zn2 3 ?_;dsimp only [go_sem];refine An ?_;obtain ⟨x10,ex10,h⟩:=Bs h;refine V_sslM ex10 trivial rfl rfl rfl ?_;refine Zn2 4 ?_;dsimp only [go_sem];refine An ?_;refine Z14 52 h rfl (fun _ h=>?_) fun _ h=>?_
        ·dsimp only [go_sem];refine Zn2 3 ?_;dsimp only [go_sem];refine An ?_;obtain ⟨x11,ex11,h⟩:=Bs h;refine V_sidxM ex11 trivial rfl rfl ?_;refine Zn2 3 ?_;dsimp only [go_sem];refine An ?_;refine Z14 59 h rfl (fun _ h=>?_) fun _ h=>?_
         ·dsimp only [go_sem];refine Zn2 5 ?_;dsimp only [go_sem];refine An ?_;exact Z34 J3 (s:=!seq x8 ((ByteArray.mk #[63]))) h
         ·dsimp only [go_sem];refine Zn2 5 ?_;dsimp only [go_sem];refine An ?_;exact Z34 J3 (s:=false) h
        ·dsimp only [go_sem];refine Zn2 12 ?_;dsimp only [go_sem];refine An ?_;exact Z34 J3 (s:=false) h
       ·dsimp only [go_sem];refine Zn2 20 ?_;dsimp only [go_sem];refine An ?_;exact Z34 J3 (s:=false) h
      ·dsimp only [go_sem];refine Zn2 27 ?_;dsimp only [go_sem];refine An ?_;exact Z34 J3 (s:=false) h
     ·dsimp only [go_sem];refine Zn2 33 ?_;dsimp only [go_sem];refine An ?_;exact Z34 J3 (s:=false) h
   ·refine Z04 h rfl (fun _ h=>?_) fun _ h=>?_
    ·refine Zn2 3 ?_;dsimp only [go_sem];refine An ?_;exact Z34 J2 (s:=5) h
    ·refine Zn2 1 ?_;dsimp only [go_sem];refine An ?_;exact Z34 J2 (s:=3) h
 ·refine Z14 10 h rfl (fun _ h=>?_) fun _ h=>?_
  ·dsimp only [go_sem];refine Zn2 5 ?_;dsimp only [go_sem];refine An ?_;exact Z34 J1 (s:=true) h
  ·dsimp only [go_sem];refine Zn2 1 ?_;dsimp only [go_sem];refine An ?_;obtain ⟨x3,ex3,h⟩:=Bs h;refine Zw2 trivial (Z05 x1 _ ex3) (h:=?_);refine Zn2 3 ?_;dsimp only [go_sem];refine An ?_;exact Z34 J1 (s:=!x3) h
set_option maxRecDepth 100000
theorem kw_u8 (n:Int):kw .u8 n=n % 256:=by simp [kw,IntKind.wrap,IntKind.signed,IntKind.bits]
theorem kw_u64 (n:Int):kw .u64 n=n % 18446744073709551616:=by simp [kw,IntKind.wrap,IntKind.signed,IntKind.bits]
theorem kw_i64 (n:Int):kw .i64 n=wr n:=rfl
theorem Zh7 {a b:List UInt8} (h:a.length+b.length≤9223372036854775807):Z74 (ByteArray.mk a.toArray) (ByteArray.mk b.toArray)=some (ByteArray.mk (a++b).toArray):=by
 unfold Z74
 rw [if_pos (by simpa [←ByteArray.size_data] using h)]
theorem bstr_mk (l:List Int):Za4 l=ByteArray.mk ((l.map fun n=>UInt8.ofNat n.toNat).toArray):=rfl
theorem Zi7 {a b:List Int} (h:a.length+b.length≤9223372036854775807):Z74 (Za4 a) (Za4 b)=some (Za4 (a++b)):=by
 rw [bstr_mk,bstr_mk,Zh7 (by simpa using h),bstr_mk,List.map_append]
theorem bstr_nil:ByteArray.mk #[]=Za4 []:=rfl
theorem seq_iff {a b:ByteArray}:seq a b=true↔a=b:=by
 unfold seq
 rw [beq_iff_eq]
 constructor
 ·intro h;exact ByteArray.ext (Array.ext' h)
 ·intro h;rw [h]
theorem Zj7 (a:ByteArray):seq a a=true:=seq_iff.2 rfl
theorem seq_dec (a b:ByteArray):seq a b=decide (a=b):=by
 by_cases h:a=b
 ·subst h;simp [Zj7]
 ·rw [decide_eq_false h]
  cases hs:seq a b
  ·rfl
  ·exact absurd (seq_iff.1 hs) h
theorem Zk7 (l:List UInt8):Zo (ByteArray.mk l.toArray)=l.length:=by simp [Zo,←ByteArray.size_data]
theorem mk_eta (s:ByteArray):s=ByteArray.mk (s.data.toList).toArray:=by simp
def sz (k:Int):Int:=if k=9 then 5 else if 1≤k∧k≤8 then 3 else 0
theorem s_size (k:Int):Zm4 k=some (sz k):=by
 have h:k=1∨k=2∨k=3∨k=4∨k=5∨k=6∨k=7∨k=8∨k=9∨(k≠1∧k≠2∧k≠3∧k≠4∧k≠5∧k≠6∧k≠7∧k≠8∧k≠9):=by omega
 rcases h with rfl | rfl | rfl | rfl | rfl | rfl | rfl | rfl | rfl | ⟨h1,h2,h3,h4,h5,h6,h7,h8,h9⟩
 iterate 9 (first | kernel_rfl | (simp [Zm4,Zl4,Zk4,Zj4,Zi4,sz];try decide))
 have hz:sz k=0:=by
  unfold sz
  rw [if_neg h9,if_neg (by omega)]
 rw [hz]
 simp [Zm4,Zl4,Zi4,h1,h2,h3,h4,h5,h6,h7,h8,h9]
def okM (m:Msg):Bool:=decide (0≤m.Epoch∧m.Epoch≤65535∧0≤m.Num∧m.Num≤65535∧1≤m.Kind∧m.Kind≤9∧(m.Num=0∨m.Kind=9))
theorem Zl7 (k:Int):(k=9∧sz k=5)∨(1≤k∧k≤8∧sz k=3)∨(¬(1≤k∧k≤9)∧sz k=0):=by
 unfold sz
 by_cases h1:k=9
 ·exact .inl ⟨h1,if_pos h1⟩
 ·by_cases h2:1≤k∧k≤8
  ·exact .inr (.inl ⟨h2.1,h2.2,by rw [if_neg h1,if_pos h2]⟩)
  ·exact .inr (.inr ⟨by omega,by rw [if_neg h1,if_neg h2]⟩)
theorem Zm7 (m:Msg):Zz4 m=some (okM m):=by
 simp only [Zz4,Zy4,s_size,Option.bind_some,okM]
 by_cases h1:m.Epoch<0
 ·simp [h1];omega
 by_cases h2:65535<m.Epoch
 ·simp [h1,h2];omega
 by_cases h3:m.Num<0
 ·simp [h1,h2,h3];omega
 by_cases h4:65535<m.Num
 ·simp [h1,h2,h3,h4];omega
 rcases Zl7 m.Kind with ⟨k1,k2⟩ | ⟨k1,k2,k3⟩ | ⟨k1,k2⟩
 ·simp [h1,h2,h3,h4,k1,show sz 9=5 from rfl];omega
 ·simp only [decide_eq_false h1,decide_eq_false h2,decide_eq_false h3,decide_eq_false h4,Zg4,k3,show decide ((3:Int)=0)=false from rfl,decide_true,Zf4]
  refine congrArg some ?_
  rw [decide_eq_decide]
  omega
 ·simp [h1,h2,h3,h4,k2];omega
theorem s_Right7 (m:Msg):Z66 m=some (okM m):=by
 simp only [Z66,Z56,okM]
 by_cases h1:1≤m.Kind
 ·by_cases h2:m.Kind≤9
  ·by_cases h3:0≤m.Epoch
   ·by_cases h4:m.Epoch≤65535
    ·by_cases h5:0≤m.Num
     ·by_cases h6:m.Num≤65535
      ·by_cases h7:m.Num=0
       ·simp [h1,h2,h3,h4,h7]
       ·simp [h1,h2,h3,h4,h5,h6,h7]
      ·simp [h1,h2,h3,h4,h5,h6]
     ·simp [h1,h2,h3,h4,h5]
    ·simp [h1,h2,h3,h4]
   ·simp [h1,h2,h3]
  ·simp [h1,h2]
 ·simp [h1]
def pl (m:Msg):List Int:=if m.Kind=9 then [9,m.Epoch / 256,m.Epoch % 256,m.Num / 256,m.Num % 256] else [m.Kind,m.Epoch / 256,m.Epoch % 256]
theorem fdiv8 (n:Int):Int.fdiv n (2 ^ min (Int.toNat 8) (IntKind.bits .i64))=n / 256:=by
 rw [show (2:Int) ^ min (Int.toNat 8) (IntKind.bits .i64)=256 from by decide]
 exact Int.fdiv_eq_ediv_of_nonneg n (by omega)
theorem s_Put (m:Msg):Z55 m=some (if okM m then (Za4 (pl m),0) else (ByteArray.mk #[],70)):=by
 simp only [Z55,Zm7,Option.bind_some,s_size,fdiv8,kw_u8]
 by_cases h:okM m=true
 ·have h':=h
  simp only [okM,decide_eq_true_eq] at h'
  rw [h]
  simp only [Bool.not_true,Zg4,if_true]
  rcases Zl7 m.Kind with ⟨k1,k2⟩ | ⟨k1,k2,k3⟩ | ⟨k1,k2⟩
  ·rw [k2]
   have e1:m.Epoch / 256 % 256=m.Epoch / 256:=by omega
   have e2:m.Num / 256 % 256=m.Num / 256:=by omega
   simp [sub_,pl,k1,e1,e2]
  ·rw [k3]
   have e0:m.Kind % 256=m.Kind:=by omega
   have e1:m.Epoch / 256 % 256=m.Epoch / 256:=by omega
   have e3:¬m.Kind=9:=by omega
   simp [sub_,pl,e3,e1,e0]
  ·omega
 ·have h:okM m=false:=by simpa using h
  rw [h]
  simp
theorem tmod_emod {n:Int} (h:0≤n):Int.tmod n 256=n % 256:=Int.tmod_eq_emod_of_nonneg h
theorem tdiv_ediv {n:Int} (h:0≤n):Int.tdiv n 256=n / 256:=Int.tdiv_eq_ediv_of_nonneg h
theorem s_High {n:Int} (h0:0≤n) (h1:n≤65535):Zk6 n 2=some (Za4 [n / 256,n % 256]):=by
 unfold Zk6
 rw [Zt3]
 simp only [Zj6,show decide ((0:Int)<2)=true from rfl,Zf4,tmod_emod h0,tdiv_ediv h0,kw_u8,kw_u64,bstr_nil]
 rw [Zi7 (by simp)]
 simp only [Option.bind_some]
 rw [show n / 256 % 18446744073709551616=n / 256 by omega,show wr (0+1)=1 from Zh4 (by omega) (by omega),Zt3]
 simp only [Zj6,show decide ((1:Int)<2)=true from rfl,Zf4,tmod_emod (show 0≤n / 256 by omega),tdiv_ediv (show 0≤n / 256 by omega),kw_u8,kw_u64]
 rw [Zi7 (by simp)]
 simp only [Option.bind_some]
 rw [show wr (1+1)=2 from Zh4 (by omega) (by omega),Zt3]
 simp only [Zj6,show decide ((2:Int)<2)=false from rfl,Zg4,Zi6,Option.map_some]
 rw [show n / 256 % 256 % 256=n / 256 by omega,show n % 256 % 256=n % 256 by omega]
 rfl
theorem s_Put7 {m:Msg} (h:okM m=true):Zo6 m=some (Za4 (pl m)):=by
 simp only [okM,decide_eq_true_eq] at h
 simp only [Zo6,Zn6,Zm6,kw_u64,kw_u8]
 rw [show m.Epoch % 18446744073709551616=m.Epoch by omega,show m.Num % 18446744073709551616=m.Num by omega,s_High (by omega) (by omega),Option.bind_some,Zi7 (by simp),Option.bind_some]
 by_cases h9:m.Kind=9
 ·rw [decide_eq_true h9,Zf4,s_High (by omega) (by omega),Option.bind_some,Zi7 (by simp),Option.bind_some]
  simp [pl,h9]
 ·rw [decide_eq_false h9,Zg4]
  simp [pl,h9,show m.Kind % 256=m.Kind by omega]
theorem or8 {a b:Nat} (ha:a<256) (hb:b<256):wr ((BitVec.ofInt 64 (kw .i64 ((wr a)*2 ^ min (Int.toNat 8) (IntKind.bits .i64))) ||| BitVec.ofInt 64 (wr b)).toNat:Int)=(a:Int)*256+b:=by
 rw [show (2:Int) ^ min (Int.toNat 8) (IntKind.bits .i64)=256 from by decide,kw_i64,Zh4 (n:=(a:Int)) (by omega) (by omega),Zh4 (n:=(b:Int)) (by omega) (by omega),Zh4 (n:=(a:Int)*256) (by omega) (by omega)]
 have e1:BitVec.ofInt 64 ((a:Int)*256)=BitVec.ofNat 64 (a*256):=by
  rw [show ((a:Int)*256)=((a*256:Nat):Int) by omega,BitVec.ofInt_natCast]
 have e2:BitVec.ofInt 64 (b:Int)=BitVec.ofNat 64 b:=BitVec.ofInt_natCast _ _
 rw [e1,e2,BitVec.toNat_or,BitVec.toNat_ofNat,BitVec.toNat_ofNat,Nat.mod_eq_of_lt (by omega),Nat.mod_eq_of_lt (by omega)]
 have e3:a*256 ||| b=a*256+b:=by
  have:=Nat.shiftLeft_add_eq_or_of_lt (show b<2 ^ 8 from hb) a
  rw [Nat.shiftLeft_eq] at this
  exact this.symm
 rw [e3,Zh4 (by omega) (by omega)]
 omega
def Zn7 (l:List UInt8):Msg×Int:=
 match l with
 | [b0,b1,b2]=>if sz b0.toNat=3 then (⟨b0.toNat,(b1.toNat:Int)*256+b2.toNat,0⟩,0) else (⟨0,0,0⟩,71)
 | [b0,b1,b2,b3,b4]=>if sz b0.toNat=5 then (⟨b0.toNat,(b1.toNat:Int)*256+b2.toNat,(b3.toNat:Int)*256+b4.toNat⟩,0) else (⟨0,0,0⟩,71)
 | _=>(⟨0,0,0⟩,71)
theorem Zo7 {l:List UInt8} {i:Nat} {b:UInt8} (h:l[i]?=some b):Z84 (ByteArray.mk l.toArray) i=some (b.toNat:Int):=by
 simp [Z84,h]
theorem Zp7 (b:UInt8):b.toNat<256:=b.toNat_lt
theorem wr_u8 (b:UInt8):wr (b.toNat:Int)=b.toNat:=by have:=Zp7 b;exact Zh4 (by omega) (by omega)
theorem s_GetL (l:List UInt8):Zb5 (ByteArray.mk l.toArray)=some (Zn7 l):=by
 cases l with
 | nil=>simp [Zb5,Za5,seq,Zn7]
 | cons b0 r=>
   have hs:seq (ByteArray.mk (b0::r).toArray) (ByteArray.mk #[])=false:=rfl
   have h0:Z84 (ByteArray.mk (b0::r).toArray) 0=some (b0.toNat:Int):=Zo7 (i:=0) rfl
   simp only [Zb5,hs,Zg4,h0,Option.bind_some,wr_u8,s_size,Zk7,Za5]
   by_cases hsz:(((b0::r).length:Nat):Int)=sz b0.toNat
   ·rw [decide_eq_true hsz]
    simp only [Bool.not_true,Zg4]
    rcases Zl7 (b0.toNat:Int) with ⟨k1,k2⟩ | ⟨k1,k2,k3⟩ | ⟨k1,k2⟩
    ·rw [k2] at hsz
     match r,hsz with
     | [b1,b2,b3,b4],_=>
       have h1:Z84 (ByteArray.mk [b0,b1,b2,b3,b4].toArray) 1=some (b1.toNat:Int):=Zo7 (i:=1) rfl
       have h2:Z84 (ByteArray.mk [b0,b1,b2,b3,b4].toArray) 2=some (b2.toNat:Int):=Zo7 (i:=2) rfl
       have h3:Z84 (ByteArray.mk [b0,b1,b2,b3,b4].toArray) 3=some (b3.toNat:Int):=Zo7 (i:=3) rfl
       have h4:Z84 (ByteArray.mk [b0,b1,b2,b3,b4].toArray) 4=some (b4.toNat:Int):=Zo7 (i:=4) rfl
       simp only [h1,h2,h3,h4,Option.bind_some,Z95,Z85,or8 (Zp7 _) (Zp7 _),Zk7,List.length_cons,List.length_nil,show decide ((3:Int)<((0+1+1+1+1+1:Nat):Int))=true from rfl,Zf4,Zn7,k2,if_true]
    ·rw [k3] at hsz
     match r,hsz with
     | [b1,b2],_=>
       have h1:Z84 (ByteArray.mk [b0,b1,b2].toArray) 1=some (b1.toNat:Int):=Zo7 (i:=1) rfl
       have h2:Z84 (ByteArray.mk [b0,b1,b2].toArray) 2=some (b2.toNat:Int):=Zo7 (i:=2) rfl
       simp only [h1,h2,Option.bind_some,Z95,Z85,or8 (Zp7 _) (Zp7 _),Zk7,List.length_cons,List.length_nil,show decide ((3:Int)<((0+1+1+1:Nat):Int))=false from rfl,Zg4,Zn7,k3,if_true]
    ·rw [k2] at hsz
     simp only [List.length_cons] at hsz
     omega
   ·rw [decide_eq_false hsz]
    simp only [Bool.not_false,Zf4]
    match r,hsz with
    | [],_=>rfl
    | [_],_=>rfl
    | [b1,b2],h=>
      have:¬sz b0.toNat=3:=fun e=>h (by rw [e];rfl)
      simp [Zn7,this]
    | [_,_,_],_=>rfl
    | [b1,b2,b3,b4],h=>
      have:¬sz b0.toNat=5:=fun e=>h (by rw [e];rfl)
      simp [Zn7,this]
    | _::_::_::_::_::_,_=>rfl
theorem s_Get (s:ByteArray):Zb5 s=some (Zn7 s.data.toList):=by
 conv=>lhs;rw [mk_eta s]
 exact s_GetL _
theorem getL_ok {l:List UInt8} (h:(Zn7 l).2=0):okM (Zn7 l).1=true∧Za4 (pl (Zn7 l).1)=ByteArray.mk l.toArray:=by
 unfold Zn7 at h ⊢
 split at h
 ·rename_i b0 b1 b2
  have g0:=Zp7 b0;have g1:=Zp7 b1;have g2:=Zp7 b2
  by_cases hz:sz b0.toNat=3
  ·rw [if_pos hz]
   dsimp only
   rcases Zl7 (b0.toNat:Int) with ⟨k1,k2⟩ | ⟨k1,k2,k3⟩ | ⟨k1,k2⟩
   ·omega
   ·refine ⟨by simp only [okM,decide_eq_true_eq];refine ⟨?_,?_,?_,?_,?_,?_,.inl trivial⟩<;>omega,?_⟩
    have e1:((b1.toNat:Int)*256+b2.toNat) / 256=b1.toNat:=by omega
    have e2:((b1.toNat:Int)*256+b2.toNat) % 256=b2.toNat:=by omega
    have e3:¬(b0.toNat:Int)=9:=by omega
    simp [pl,Za4,e1,e2,e3]
   ·omega
  ·rw [if_neg hz] at h;simp at h
 ·rename_i b0 b1 b2 b3 b4
  have g0:=Zp7 b0;have g1:=Zp7 b1;have g2:=Zp7 b2;have g3:=Zp7 b3;have g4:=Zp7 b4
  by_cases hz:sz b0.toNat=5
  ·rw [if_pos hz]
   dsimp only
   rcases Zl7 (b0.toNat:Int) with ⟨k1,k2⟩ | ⟨k1,k2,k3⟩ | ⟨k1,k2⟩
   ·refine ⟨by simp only [okM,decide_eq_true_eq];omega,?_⟩
    have e1:((b1.toNat:Int)*256+b2.toNat) / 256=b1.toNat:=by omega
    have e2:((b1.toNat:Int)*256+b2.toNat) % 256=b2.toNat:=by omega
    have e3:((b3.toNat:Int)*256+b4.toNat) / 256=b3.toNat:=by omega
    have e4:((b3.toNat:Int)*256+b4.toNat) % 256=b4.toNat:=by omega
    have e0:b0=9:=by
     apply UInt8.toNat_inj.1
     have:b0.toNat=9:=by omega
     rw [this];rfl
    simp [pl,Za4,e1,e2,e3,e4,e0]
   ·omega
   ·omega
  ·rw [if_neg hz] at h;simp at h
 ·simp at h
theorem getL_no {l:List UInt8} (h:(Zn7 l).2≠0):Zn7 l=(⟨0,0,0⟩,71):=by
 unfold Zn7 at h ⊢
 split at h<;>(try (split at h))<;>simp_all
theorem u8_of {n:Int} (h0:0≤n) (h1:n<256):((UInt8.ofNat n.toNat).toNat:Int)=n:=by
 rw [UInt8.toNat_ofNat']
 omega
theorem getL_put {m:Msg} (h:okM m=true):Zn7 (Za4 (pl m)).data.toList=(m,0):=by
 simp only [okM,decide_eq_true_eq] at h
 have e1:((UInt8.ofNat (m.Epoch / 256).toNat).toNat:Int)=m.Epoch / 256:=u8_of (by omega) (by omega)
 have e2:((UInt8.ofNat (m.Epoch % 256).toNat).toNat:Int)=m.Epoch % 256:=u8_of (by omega) (by omega)
 have e3:((UInt8.ofNat (m.Num / 256).toNat).toNat:Int)=m.Num / 256:=u8_of (by omega) (by omega)
 have e4:((UInt8.ofNat (m.Num % 256).toNat).toNat:Int)=m.Num % 256:=u8_of (by omega) (by omega)
 have e5:((UInt8.ofNat (m.Kind).toNat).toNat:Int)=m.Kind:=u8_of (by omega) (by omega)
 obtain ⟨k,e,n⟩:=m
 dsimp only at *
 by_cases h9:k=9
 ·subst h9
  show Zn7 [UInt8.ofNat (9:Int).toNat,UInt8.ofNat (e / 256).toNat,UInt8.ofNat (e % 256).toNat,UInt8.ofNat (n / 256).toNat,UInt8.ofNat (n % 256).toNat]=_
  simp only [Zn7]
  rw [e1,e2,e3,e4,e5,show sz 9=5 from rfl,if_pos rfl,show e / 256*256+e % 256=e by omega,show n / 256*256+n % 256=n by omega]
 ·have hp:pl ⟨k,e,n⟩=[k,e / 256,e % 256]:=by simp [pl,h9]
  rw [hp]
  show Zn7 [UInt8.ofNat k.toNat,UInt8.ofNat (e / 256).toNat,UInt8.ofNat (e % 256).toNat]=_
  simp only [Zn7]
  have hk:sz k=3:=by
   rcases Zl7 k with ⟨k1,k2⟩ | ⟨k1,k2,k3⟩ | ⟨k1,k2⟩
   ·omega
   ·exact k3
   ·omega
  rw [e1,e2,e5,hk,if_pos rfl,show e / 256*256+e % 256=e by omega,show n=0 by omega]
theorem seq_bstr {m:Msg} {l:List UInt8}:seq (Za4 (pl m)) (ByteArray.mk l.toArray)=decide (Za4 (pl m)=ByteArray.mk l.toArray):=seq_dec _ _
theorem s_Number_nil:Zw6 (ByteArray.mk #[])=some 0:=by
 have hl:Zo (ByteArray.mk #[])=0:=Zk7 []
 unfold Zw6
 rw [Zt3]
 simp [Zv6,Zu6,hl]
theorem Zq7 (a b:UInt8):Zw6 (ByteArray.mk #[a,b])=some ((a.toNat:Int)*256+b.toNat):=by
 have ga:=Zp7 a;have gb:=Zp7 b
 have hl:Zo (ByteArray.mk #[a,b])=2:=Zk7 [a,b]
 have h0:Z84 (ByteArray.mk #[a,b]) 0=some (a.toNat:Int):=Zo7 (l:=[a,b]) (i:=0) rfl
 have h1:Z84 (ByteArray.mk #[a,b]) 1=some (b.toNat:Int):=Zo7 (l:=[a,b]) (i:=1) rfl
 unfold Zw6
 rw [Zt3]
 simp only [Zv6,hl,show decide ((0:Int)<2)=true from rfl,Zf4,h0,Option.bind_some,kw_u64]
 rw [show ((0:Int)*256 % 18446744073709551616+(a.toNat:Int) % 18446744073709551616) % 18446744073709551616=a.toNat by omega,show wr (0+1)=1 from Zh4 (by omega) (by omega),Zt3]
 simp only [Zv6,hl,show decide ((1:Int)<2)=true from rfl,Zf4,h1,Option.bind_some,kw_u64]
 rw [show ((a.toNat:Int)*256 % 18446744073709551616+(b.toNat:Int) % 18446744073709551616) % 18446744073709551616=(a.toNat:Int)*256+b.toNat by omega,show wr (1+1)=2 from Zh4 (by omega) (by omega),Zt3]
 simp only [Zv6,hl,show decide ((2:Int)<2)=false from rfl,Zg4,Zu6,Option.map_some]
theorem Zr7 {l:List UInt8} {a b:Nat} (h1:a≤b) (h2:b≤l.length):Z94 (ByteArray.mk l.toArray) a b=some (ByteArray.mk ((l.take b).drop a).toArray):=by
 unfold Z94
 rw [if_pos ⟨by omega,by omega,by simp [←ByteArray.size_data];omega⟩]
 simp
def refL (l:List UInt8):Msg×Bool:=if (Zn7 l).2=0 then ((Zn7 l).1,true) else (⟨0,0,0⟩,false)
theorem refJ2 (l:List UInt8) (m:Msg) (hm:(Zn7 l).2=0→(Zn7 l).1=m) (hk:okM m=true→Za4 (pl m)=ByteArray.mk l.toArray→(Zn7 l).2=0):Zz6 (ByteArray.mk l.toArray) m=some (refL l):=by
 simp only [Zz6,s_Right7,Option.bind_some,Zy6]
 by_cases ho:okM m=true
 ·rw [ho]
  simp only [Bool.not_true,Zg4,s_Put7 ho,Option.bind_some,seq_bstr]
  by_cases he:Za4 (pl m)=ByteArray.mk l.toArray
  ·rw [decide_eq_true he]
   have:=hk ho he
   simp [refL,this,hm this]
  ·rw [decide_eq_false he]
   have hn:(Zn7 l).2≠0:=fun e=>he (by rw [←hm e];exact (getL_ok e).2)
   simp [refL,hn]
 ·have hf:okM m=false:=by simpa using ho
  rw [hf]
  have hn:(Zn7 l).2≠0:=fun e=>ho (by rw [←hm e];exact (getL_ok e).1)
  simp [refL,hn]
theorem pl_len (m:Msg):(pl m).length=if m.Kind=9 then 5 else 3:=by unfold pl;split<;>rfl
theorem bstr_len {l:List Int} {r:List UInt8} (h:Za4 l=ByteArray.mk r.toArray):l.length=r.length:=by
 have:=congrArg (fun s:ByteArray=>s.data.toList.length) h
 simpa [Za4] using this
theorem s_Get7L (l:List UInt8):Z17 (ByteArray.mk l.toArray)=some (refL l):=by
 have hno:∀l:List UInt8,l.length≠3→l.length≠5→refL l=(⟨0,0,0⟩,false):=by
  intro l h3 h5
  have:Zn7 l=(⟨0,0,0⟩,71):=by
   unfold Zn7
   split
   ·simp at h3
   ·simp at h5
   ·rfl
  simp [refL,this]
 simp only [Z17,Z07,Zk7]
 by_cases h3:l.length=3
 ·match l,h3 with
  | [b0,b1,b2],_=>
    have h0:Z84 (ByteArray.mk [b0,b1,b2].toArray) 0=some (b0.toNat:Int):=Zo7 (i:=0) rfl
    have h1:Z94 (ByteArray.mk [b0,b1,b2].toArray) 1 3=some (ByteArray.mk #[b1,b2]):=Zr7 (a:=1) (b:=3) (by omega) (by simp)
    have h2:Z94 (ByteArray.mk [b0,b1,b2].toArray) 3 (([b0,b1,b2].length:Nat):Int)=some (ByteArray.mk #[]):=Zr7 (a:=3) (b:=3) (by omega) (by simp)
    have g1:=Zp7 b1;have g2:=Zp7 b2
    rw [decide_eq_true (show (([b0,b1,b2].length:Nat):Int)=3 from rfl)]
    simp only [Bool.not_true,Zg4,h0,h1,h2,Option.bind_some,Zq7,s_Number_nil,wr_u8]
    rw [Zh4 (n:=(b1.toNat:Int)*256+b2.toNat) (by omega) (by omega),show wr 0=0 from Zh4 (by omega) (by omega)]
    refine refJ2 [b0,b1,b2] _ (fun e=>?_) (fun ho he=>?_)
    ·simp only [Zn7] at e ⊢
     split at e
     ·rename_i hz;rw [if_pos hz]
     ·simp at e
    ·have hl:=bstr_len he
     rw [pl_len] at hl
     simp only [okM,decide_eq_true_eq] at ho
     simp only [Zn7]
     rcases Zl7 (b0.toNat:Int) with ⟨k1,k2⟩ | ⟨k1,k2,k3⟩ | ⟨k1,k2⟩
     ·rw [if_pos k1] at hl;simp at hl
     ·rw [if_pos k3]
     ·omega
 ·by_cases h5:l.length=5
  ·match l,h5 with
   | [b0,b1,b2,b3,b4],_=>
     have h0:Z84 (ByteArray.mk [b0,b1,b2,b3,b4].toArray) 0=some (b0.toNat:Int):=Zo7 (i:=0) rfl
     have h1:Z94 (ByteArray.mk [b0,b1,b2,b3,b4].toArray) 1 3=some (ByteArray.mk #[b1,b2]):=Zr7 (a:=1) (b:=3) (by omega) (by simp)
     have h2:Z94 (ByteArray.mk [b0,b1,b2,b3,b4].toArray) 3 (([b0,b1,b2,b3,b4].length:Nat):Int)=some (ByteArray.mk #[b3,b4]):=Zr7 (a:=3) (b:=5) (by omega) (by simp)
     have g1:=Zp7 b1;have g2:=Zp7 b2;have g3:=Zp7 b3;have g4:=Zp7 b4
     rw [decide_eq_false (show ¬(([b0,b1,b2,b3,b4].length:Nat):Int)=3 by simp),decide_eq_true (show (([b0,b1,b2,b3,b4].length:Nat):Int)=5 from rfl)]
     simp only [Bool.not_false,Bool.not_true,Zf4,Zg4,h0,h1,h2,Option.bind_some,Zq7,wr_u8]
     rw [Zh4 (n:=(b1.toNat:Int)*256+b2.toNat) (by omega) (by omega),Zh4 (n:=(b3.toNat:Int)*256+b4.toNat) (by omega) (by omega)]
     refine refJ2 [b0,b1,b2,b3,b4] _ (fun e=>?_) (fun ho he=>?_)
     ·simp only [Zn7] at e ⊢
      split at e
      ·rename_i hz;rw [if_pos hz]
      ·simp at e
     ·have hl:=bstr_len he
      rw [pl_len] at hl
      simp only [Zn7]
      by_cases k1:(b0.toNat:Int)=9
      ·rw [k1,show sz 9=5 from rfl,if_pos rfl]
      ·rw [if_neg k1] at hl;simp at hl
  ·rw [decide_eq_false (show ¬((l.length:Nat):Int)=3 by omega),decide_eq_false (show ¬((l.length:Nat):Int)=5 by omega)]
   simp only [Bool.not_false,Zf4]
   rw [hno l h3 h5]
theorem s_Get7 (s:ByteArray):Z17 s=some (refL s.data.toList):=by
 conv=>lhs;rw [mk_eta s]
 exact s_Get7L _
theorem awake7:Zz5=some true:=Z46.h _ (by kernel_rfl:Z36 50=some true)
theorem p_narthexlaw07_MsgGets (s:ByteArray):Z57 s=some true:=by
 simp only [Z57,awake7,Option.bind_some,Bool.not_true,Zg4,Z47,Z37]
 cases decide (100<Zo s)
 ·simp only [Zg4,s_Get,s_Get7,Option.bind_some]
  by_cases h:(Zn7 s.data.toList).2=0
  ·simp [refL,h]
  ·simp [refL,getL_no h]
 ·rfl
theorem pl_small (m:Msg):(pl m).length≤5:=by rw [pl_len];split<;>omega
theorem sln_bstr (l:List Int):Zo (Za4 l)=l.length:=by rw [bstr_mk,Zk7,List.length_map]
theorem p_narthexlaw07_MsgBack (m:Msg) (s:ByteArray):Z97 m s=some true:=by
 simp only [Z97,awake7,Option.bind_some,Bool.not_true,Zg4,Z87]
 have hj:Z77 s false=some true:=by
  simp only [Z77,Zg4,s_Get,Option.bind_some]
  by_cases h:(Zn7 s.data.toList).2=0
  ·rw [decide_eq_true h]
   obtain ⟨h1,h2⟩:=getL_ok h
   simp only [Bool.not_true,Zg4,s_Put,h1,if_true,Option.bind_some,Z67,h2]
   rw [←mk_eta s]
   simp [Zj7]
  ·rw [decide_eq_false h,getL_no h]
   rfl
 cases decide (100<Zo s)
 ·simp only [Zg4,s_Put,Option.bind_some,Zm7]
  by_cases ho:okM m=true
  ·rw [ho]
   simp only [if_true,s_Get,getL_put ho,Option.bind_some,sln_bstr]
   have hl:=pl_small m
   rw [decide_eq_false (show ¬(64:Int)<((pl m).length:Nat) by omega)]
   simp [hj]
  ·have ho:okM m=false:=by simpa using ho
   rw [ho]
   simp only [Bool.false_eq_true,if_false,s_Get,Option.bind_some]
   simp [hj]
 ·rfl
set_option maxRecDepth 100000
def nmL (k:Int):List UInt8:=
 if k=1 then [102,111,114,107] else if k=2 then [116,111,107,101,110] else if k=3 then [98,111,116,116,108,101] else if k=4 then [97,115,107] else if k=5 then [110,101,119] else
 if k=6 then [107,110,111,119,110] else if k=7 then [99,108,111,115,101] else if k=8 then [99,108,111,115,101,100] else if k=9 then [99,111,108,111,117,114] else [63]
theorem kinds9 (k:Int):k=1∨k=2∨k=3∨k=4∨k=5∨k=6∨k=7∨k=8∨k=9∨(k≠1∧k≠2∧k≠3∧k≠4∧k≠5∧k≠6∧k≠7∧k≠8∧k≠9):=by omega
theorem nmL_no {k:Int} (h:k≠1∧k≠2∧k≠3∧k≠4∧k≠5∧k≠6∧k≠7∧k≠8∧k≠9):nmL k=[63]:=by
 obtain ⟨h1,h2,h3,h4,h5,h6,h7,h8,h9⟩:=h
 simp [nmL,h1,h2,h3,h4,h5,h6,h7,h8,h9]
theorem s_Name (k:Int):Zj5 k=some (ByteArray.mk (nmL k).toArray):=by
 simp only [Zj5,s_size,Option.bind_some]
 rcases kinds9 k with rfl | rfl | rfl | rfl | rfl | rfl | rfl | rfl | rfl | h
 iterate 9 kernel_rfl
 rw [nmL_no h]
 rcases Zl7 k with ⟨k1,k2⟩ | ⟨k1,k2,k3⟩ | ⟨k1,k2⟩
 ·omega
 ·omega
 ·rw [k2];rfl
theorem s_Name7 (k:Int):Z86 k=some (ByteArray.mk (nmL k).toArray):=by
 rcases kinds9 k with rfl | rfl | rfl | rfl | rfl | rfl | rfl | rfl | rfl | h
 iterate 9 kernel_rfl
 rw [nmL_no h]
 obtain ⟨h1,h2,h3,h4,h5,h6,h7,h8,h9⟩:=h
 simp [Z86,h1,h2,h3,h4,h5,h6,h7,h8,h9]
theorem nmL_len (k:Int):(nmL k).length≤6:=by
 rcases kinds9 k with rfl | rfl | rfl | rfl | rfl | rfl | rfl | rfl | rfl | h
 iterate 9 decide
 rw [nmL_no h];decide
theorem dig1 {u:Nat} (h:u<10):Za4 [kw .u8 (wr (48+(u:Int)))]=ByteArray.mk #[UInt8.ofNat (48+u)]:=by
 rw [Zh4 (by omega) (by omega),kw_u8,show (48+(u:Int)) % 256=((48+u:Nat):Int) by omega]
 rfl
theorem Zs7:∀(F u:Nat),u≤9223372036854775807→Lib.nDigits u≤F→Lib.nDigits u≤100→Zc6 F (u:Int)=some (ByteArray.mk (Lib.decDigits u).toArray)
 | 0,u,_,h,_=>by have:=Lib.nDigits_pos u;omega
 | F+1,u,hu,h,h100=>by
   rw [Zc6,decide_eq_false (show ¬((u:Int)<0) by omega),Zg4]
   by_cases hs:u<10
   ·rw [decide_eq_true (show (u:Int)<10 by omega),Zf4,Lib.decDigits_one hs,show Int.tmod (u:Int) 10=(u:Int) from by rw [Int.tmod_eq_emod_of_nonneg (by omega)];omega,dig1 hs]
   ·have hn:=Lib.nDigits_big hs
    have e1:Int.tdiv (u:Int) 10=((u / 10:Nat):Int):=by rw [Int.tdiv_eq_ediv_of_nonneg (by omega)];omega
    have e2:Int.tmod (u:Int) 10=((u % 10:Nat):Int):=by rw [Int.tmod_eq_emod_of_nonneg (by omega)];omega
    rw [decide_eq_false (show ¬(u:Int)<10 by omega),Zg4,e1,e2,Zh4 (by omega) (by omega),Zs7 F (u / 10) (by omega) (by omega) (by omega),Option.bind_some,dig1 (Nat.mod_lt _ (by omega))]
    rw [Zh7 (b:=[UInt8.ofNat (48+u % 10)]) (by rw [Lib.decDigits_length];simp;omega),Option.bind_some]
    conv=>rhs;rw [Lib.decDigits,dif_neg hs]
def dgs (u:Nat):List UInt8:=if u=0 then [] else Lib.decDigits u
theorem s_Digits_loop:∀(n u:Nat) (acc:List UInt8),u≤n→u≤9223372036854775808→acc.length+Lib.nDigits u≤1000→
  loop Zb6 (-(u:Int),ByteArray.mk acc.toArray)=some (ByteArray.mk (45::(dgs u++acc)).toArray):=by
 intro n
 induction n with
 | zero=>
   intro u acc hu hb hl
   obtain rfl:u=0:=by omega
   rw [Zt3]
   simp only [Zb6,show (-((0:Nat):Int))=0 from rfl,decide_true,Bool.not_true,Zg4,Za6]
   rw [Zh7 (a:=[45]) (by simp;omega)]
   rfl
 | succ n ih=>
   intro u acc hu hb hl
   by_cases h0:u=0
   ·subst h0;exact ih 0 acc (Nat.zero_le _) (by omega) hl
   ·have e1:Int.tdiv (-(u:Int)) 10 = -((u / 10:Nat):Int):=by rw [Int.neg_tdiv,Int.tdiv_eq_ediv_of_nonneg (by omega)];omega
    have e2:Int.tmod (-(u:Int)) 10 = -((u % 10:Nat):Int):=by rw [Int.neg_tmod,Int.tmod_eq_emod_of_nonneg (by omega)];omega
    have hd:Za4 [kw .u8 (wr (48 - -((u % 10:Nat):Int)))]=ByteArray.mk #[UInt8.ofNat (48+u % 10)]:=by
     rw [show (48 - -((u % 10:Nat):Int))=48+((u % 10:Nat):Int) by omega]
     exact dig1 (Nat.mod_lt _ (by omega))
    rw [Zt3]
    simp only [Zb6,decide_eq_false (show ¬ -(u:Int)=0 by omega),Bool.not_false,Zf4,e1,e2,hd]
    rw [Zh7 (a:=[UInt8.ofNat (48+u % 10)]) (by simp;omega),Option.bind_some]
    dsimp only
    rw [Zh4 (by omega) (by omega)]
    have hnd:Lib.nDigits (u / 10)≤Lib.nDigits u-(if u<10 then 0 else 1):=by
     by_cases hs:u<10
     ·rw [if_pos hs,show u / 10=0 by omega,Lib.nDigits_small (by omega),Lib.nDigits_small hs];omega
     ·rw [if_neg hs,Lib.nDigits_big hs];omega
    by_cases hs:u<10
    ·rw [show u / 10=0 by omega,show (-((0:Nat):Int))=0 from rfl,Zt3]
     simp only [Zb6,decide_true,Bool.not_true,Zg4,Za6]
     have hn:=Lib.nDigits_small hs
     rw [Zh7 (a:=[45]) (by simp;omega)]
     simp [dgs,h0,Lib.decDigits_one hs,Nat.mod_eq_of_lt hs]
    ·rw [if_neg hs] at hnd
     have:=Lib.nDigits_pos u
     rw [ih (u / 10) _ (by omega) (by omega) (by simp;have:=Lib.nDigits_big hs;omega)]
     have hd0:u / 10≠0:=by omega
     simp only [dgs,h0,hd0,if_false]
     conv=>rhs;rw [Lib.decDigits,dif_neg hs]
     simp
theorem s_Digits {n:Int} (h:InR n):Zd6 n=some (itoaS n):=by
 obtain ⟨h0,h1⟩:=h
 unfold Zd6 itoaS Lib.itoa
 by_cases hn:n<0
 ·rw [if_pos hn,Zc6,decide_eq_true hn,Zf4]
  obtain ⟨u,rfl⟩:∃u:Nat,n = -(u:Int):=⟨n.natAbs,by omega⟩
  have hd:=Lib.nDigits_le20 u (by omega)
  have:=s_Digits_loop u u [] (Nat.le_refl _) (by omega) (by simp;omega)
  rw [this]
  have hu:u≠0:=by omega
  simp [dgs,hu]
 ·rw [if_neg hn]
  obtain ⟨u,rfl⟩:∃u:Nat,n=(u:Int):=⟨n.toNat,by omega⟩
  have hd:=Lib.nDigits_le20 u (by omega)
  exact Zs7 24 u (by omega) (by omega) (by omega)
theorem s_Itoa {n:Int} (h:InR n):Zo5 n=some (itoaS n):=by
 unfold Zo5
 rw [decide_eq_true h.1,decide_eq_true h.2];rfl
def Zt7 (m:Msg):List UInt8:=nmL m.Kind++64::(Lib.itoa m.Epoch++if m.Kind=9 then 32::Lib.itoa m.Num else [])
theorem Zu7 {n:Int} (h:InR n):(Lib.itoa n).length≤21:=Lib.itoa_length_le n h.1 h.2
theorem s_Show {m:Msg} (hE:InR m.Epoch) (hN:InR m.Num):Zt5 m=some (ByteArray.mk (Zt7 m).toArray):=by
 have l1:=nmL_len m.Kind
 have l2:=Zu7 hE
 have l3:=Zu7 hN
 simp only [Zt5,Zs5,s_Name,Option.bind_some,s_Itoa hE,s_Itoa hN,itoaS]
 rw [Zh7 (b:=[64]) (by simp;omega),Option.bind_some,Zh7 (by simp;omega),Option.bind_some]
 by_cases h9:m.Kind=9
 ·rw [decide_eq_true h9,Zf4,Zh7 (a:=[32]) (by simp;omega),Option.bind_some,Zh7 (by simp;omega),Option.bind_some]
  simp [Zt7,h9]
 ·rw [decide_eq_false h9,Zg4]
  simp [Zt7,h9]
theorem s_Show7 {m:Msg} (hE:InR m.Epoch) (hN:InR m.Num):Zg6 m=some (ByteArray.mk (Zt7 m).toArray):=by
 have l1:=nmL_len m.Kind
 have l2:=Zu7 hE
 have l3:=Zu7 hN
 simp only [Zg6,Zf6,s_Name7,Option.bind_some,s_Digits hE,s_Digits hN,itoaS]
 rw [Zh7 (b:=[64]) (by simp;omega),Option.bind_some,Zh7 (by simp;omega),Option.bind_some]
 by_cases h9:m.Kind=9
 ·rw [decide_eq_true h9,Zf4,Zh7 (b:=[32]) (by simp;omega),Option.bind_some,Zh7 (by simp;omega),Option.bind_some]
  simp [Zt7,h9]
 ·rw [decide_eq_false h9,Zg4]
  simp [Zt7,h9]
theorem p_narthexlaw07_MsgPuts (m:Msg) (h:InR m.Kind∧InR m.Epoch∧InR m.Num):Zt6 m=some true:=by
 simp only [Zt6,awake7,Option.bind_some,Bool.not_true,Zg4,s_Put,Zm7,s_Right7,beq_self_eq_true,s_Show h.2.1 h.2.2,s_Show7 h.2.1 h.2.2,Zj7,s_Name,s_Name7,Zs6,Zq6,Zr6]
 by_cases ho:okM m=true
 ·rw [ho]
  simp [s_Put7 ho,Zj7]
 ·have ho:okM m=false:=by simpa using ho
  rw [ho]
  simp [Zj7]
theorem split_at {α:Type} {x:α}:∀ {a b c d:List α},x∉a→x∉c→a++x::b=c++x::d→a=c∧b=d
 | [],b,[],d,_,_,h=>by simpa using h
 | [],b,y::c,d,_,h2,h=>by
   simp only [List.nil_append,List.cons_append,List.cons.injEq] at h
   exact absurd (by rw [h.1];simp) h2
 | y::a,b,[],d,h1,_,h=>by
   simp only [List.nil_append,List.cons_append,List.cons.injEq] at h
   exact absurd (by rw [←h.1];simp) h1
 | y::a,b,z::c,d,h1,h2,h=>by
   simp only [List.cons_append,List.cons.injEq] at h
   obtain ⟨k1,k2⟩:=split_at (fun e=>h1 (List.mem_cons_of_mem _ e)) (fun e=>h2 (List.mem_cons_of_mem _ e)) h.2
   exact ⟨by rw [h.1,k1],k2⟩
def val (l:List UInt8):Nat:=l.foldl (fun a b=>a*10+(b.toNat-48)) 0
theorem Zv7 {d:Nat} (h:d<10):(UInt8.ofNat (48+d)).toNat=48+d:=by rw [UInt8.toNat_ofNat'];omega
theorem val_dec:∀(n u:Nat),u≤n→val (Lib.decDigits u)=u:=by
 intro n
 induction n with
 | zero=>intro u hu;obtain rfl:u=0:=by omega
         rw [Lib.decDigits_one (by omega)];rfl
 | succ n ih=>
   intro u hu
   by_cases hs:u<10
   ·rw [Lib.decDigits_one hs]
    simp only [val,List.foldl_cons,List.foldl_nil,Zv7 hs]
    omega
   ·rw [Lib.decDigits,dif_neg hs]
    unfold val
    rw [List.foldl_append]
    have:=ih (u / 10) (by omega)
    unfold val at this
    rw [this]
    simp only [List.foldl_cons,List.foldl_nil,Zv7 (show u % 10<10 by omega)]
    omega
theorem dec_range:∀(n u:Nat),u≤n→∀b∈Lib.decDigits u,48≤b.toNat∧b.toNat≤57:=by
 intro n
 induction n with
 | zero=>intro u hu b hb;obtain rfl:u=0:=by omega
         rw [Lib.decDigits_one (by omega)] at hb;simp at hb;subst hb;decide
 | succ n ih=>
   intro u hu b hb
   by_cases hs:u<10
   ·rw [Lib.decDigits_one hs] at hb
    simp only [List.mem_singleton] at hb
    subst hb
    rw [Zv7 hs];omega
   ·rw [Lib.decDigits,dif_neg hs,List.mem_append] at hb
    rcases hb with hb | hb
    ·exact ih (u / 10) (by omega) b hb
    ·simp only [List.mem_singleton] at hb
     subst hb
     rw [Zv7 (by omega)];omega
theorem itoa_val {n:Int} (h:0≤n):(val (Lib.itoa n):Int)=n:=by
 unfold Lib.itoa
 rw [if_neg (by omega),val_dec _ _ (Nat.le_refl _)]
 omega
theorem itoa_no {n:Int} (h:0≤n) {x:UInt8} (hx:x.toNat<48):x∉Lib.itoa n:=by
 unfold Lib.itoa
 rw [if_neg (by omega)]
 intro hm
 have:=dec_range _ _ (Nat.le_refl _) x hm
 omega
theorem itoa_inj {a b:Int} (ha:0≤a) (hb:0≤b) (h:Lib.itoa a=Lib.itoa b):a=b:=by
 rw [←itoa_val ha,←itoa_val hb,h]
theorem nm_no (k:Int):(64:UInt8)∉nmL k:=by
 rcases kinds9 k with rfl | rfl | rfl | rfl | rfl | rfl | rfl | rfl | rfl | h
 iterate 9 decide
 rw [nmL_no h];decide
theorem nm_fin:∀i j:Fin 9,nmL ((i.val:Int)+1)=nmL ((j.val:Int)+1)→i=j:=by decide
theorem nm_inj {a b:Int} (ha:1≤a∧a≤9) (hb:1≤b∧b≤9) (h:nmL a=nmL b):a=b:=by
 have e1:((a-1).toNat:Int)+1=a:=by omega
 have e2:((b-1).toNat:Int)+1=b:=by omega
 have:=nm_fin ⟨(a-1).toNat,by omega⟩ ⟨(b-1).toNat,by omega⟩ (by dsimp only;rw [e1,e2];exact h)
 simp only [Fin.mk.injEq] at this
 omega
theorem show_inj {m n:Msg} (hm:okM m=true) (hn:okM n=true) (h:Zt7 m=Zt7 n):m=n:=by
 simp only [okM,decide_eq_true_eq] at hm hn
 obtain ⟨h1,h2⟩:=split_at (nm_no _) (nm_no _) h
 have hk:=nm_inj ⟨hm.2.2.2.2.1,hm.2.2.2.2.2.1⟩ ⟨hn.2.2.2.2.1,hn.2.2.2.2.2.1⟩ h1
 obtain ⟨k,e,u⟩:=m
 obtain ⟨k',e',u'⟩:=n
 dsimp only at *
 subst hk
 by_cases h9:k=9
 ·rw [if_pos h9,if_pos h9] at h2
  obtain ⟨h3,h4⟩:=split_at (itoa_no hm.1 (by decide)) (itoa_no hn.1 (by decide)) h2
  rw [itoa_inj hm.1 hn.1 h3,itoa_inj hm.2.2.1 hn.2.2.1 h4]
 ·rw [if_neg h9,if_neg h9,List.append_nil,List.append_nil] at h2
  rw [itoa_inj hm.1 hn.1 h2,show u=0 by omega,show u'=0 by omega]
theorem msg_dec (m n:Msg):(decide (m.Kind=n.Kind)&&(decide (m.Epoch=n.Epoch)&&(decide (m.Num=n.Num)&&true)))=decide (m=n):=by
 obtain ⟨k,e,u⟩:=m
 obtain ⟨k',e',u'⟩:=n
 simp only [Msg.mk.injEq,Bool.and_true]
 by_cases h1:k=k'<;>by_cases h2:e=e'<;>by_cases h3:u=u'<;>simp [h1,h2,h3]
theorem okM_in {m:Msg} (h:okM m=true):InR m.Epoch∧InR m.Num:=by
 simp only [okM,decide_eq_true_eq] at h
 exact ⟨⟨by omega,by omega⟩,⟨by omega,by omega⟩⟩
theorem put_inj {m n:Msg} (hm:okM m=true) (hn:okM n=true) (h:Za4 (pl m)=Za4 (pl n)):m=n:=by
 have h1:=getL_put hm
 rw [h,getL_put hn] at h1
 exact (congrArg Prod.fst h1).symm
theorem p_narthexlaw07_MsgApart (m n:Msg):Zc7 m n=some true:=by
 simp only [Zc7,awake7,Option.bind_some,Bool.not_true,Zg4,Zm7,Zb7]
 by_cases hm:okM m=true
 ·by_cases hn:okM n=true
  ·have e1:=okM_in hm
   have e2:=okM_in hn
   rw [hm,hn]
   simp only [Bool.not_true,Zg4,s_Put,hm,hn,if_true,Option.bind_some,msg_dec,s_Show e1.1 e1.2,s_Show e2.1 e2.2,Za7]
   have d1:seq (Za4 (pl m)) (Za4 (pl n))=decide (m=n):=by
    rw [seq_dec,decide_eq_decide]
    exact ⟨put_inj hm hn,fun h=>by rw [h]⟩
   have d2:seq (ByteArray.mk (Zt7 m).toArray) (ByteArray.mk (Zt7 n).toArray)=decide (m=n):=by
    rw [seq_dec,decide_eq_decide]
    refine ⟨fun h=>show_inj hm hn ?_,fun h=>by rw [h]⟩
    have:=congrArg (fun s:ByteArray=>s.data.toList) h
    simpa using this
   rw [d1,d2]
   simp
  ·have hn:okM n=false:=by simpa using hn
   rw [hm,hn];rfl
 ·have hm:okM m=false:=by simpa using hm
  rw [hm];rfl
theorem p_narthexlaw07_MsgSizes (m:Msg):Zg7 m=some true:=by
 simp only [Zg7,awake7,Option.bind_some,Bool.not_true,Zg4,Zm7,Zf7]
 by_cases hm:okM m=true
 ·have e1:=okM_in hm
  rw [hm]
  simp only [Bool.not_true,Zg4,s_Put,hm,if_true,Option.bind_some,s_Show e1.1 e1.2,s_Name,Ze7,Zd7,decide_true,Zf4,sln_bstr,Zk7,pl_len]
  have hl:(nmL m.Kind).length<(Zt7 m).length:=by simp [Zt7]
  have hp:Z94 (ByteArray.mk (Zt7 m).toArray) 0 ((nmL m.Kind).length:Int)=some (ByteArray.mk (nmL m.Kind).toArray):=by
   rw [show (0:Int)=((0:Nat):Int) from rfl,Zr7 (Nat.zero_le _) (Nat.le_of_lt hl)]
   simp [Zt7]
  have ha:Z84 (ByteArray.mk (Zt7 m).toArray) ((nmL m.Kind).length:Int)=some 64:=by
   have:=Zo7 (l:=Zt7 m) (i:=(nmL m.Kind).length) (b:=64) (by simp [Zt7])
   exact this
  have hq:seq (ByteArray.mk (nmL m.Kind).toArray) (ByteArray.mk #[63])=false:=by
   simp only [okM,decide_eq_true_eq] at hm
   rcases kinds9 m.Kind with h | h | h | h | h | h | h | h | h | h
   iterate 9 (rw [h];decide)
   omega
  have hlt:((nmL m.Kind).length:Int)<((Zt7 m).length:Int):=by omega
  by_cases h9:m.Kind=9
  ·simp [h9] at hp ha hq hlt ⊢
   simp [hp,ha,hq,hlt,Zj7]
  ·simp [h9,hp,ha,hq,hl,Zj7]
 ·have hm:okM m=false:=by simpa using hm
  rw [hm];rfl
end NX
end Go.Proofs.YtphfnmafamnddaaDoor
