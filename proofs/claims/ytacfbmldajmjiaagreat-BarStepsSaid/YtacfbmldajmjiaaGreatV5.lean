/-
  The function narthex/narthexref13.one: its code compiled, a model, and that the code answers as the model. Written by a program of ours (lb.py). No statement of the seat is proved here.
-/
import Derived.KernelRfl
import Derived.Test.YtacfbmldajmjiaaGreatV4
import Derived.Test.YtacfbmldajmjiaaGreatV1
import Derived.Test.YtacfbmldajmjiaaGreatV3
import Derived.Test.YtacfbmldajmjiaaGreatV2
namespace Go.Proofs.YtacfbmldajmjiaaGreat
namespace NX
open Go
set_option maxRecDepth 100000
set_option maxHeartbeats 4000000
@[go_sem] def e159_L2:EC:=.seq (.seq (.reg [(Qm 92 10),(Qf 93 2 1),(Ql 94 93),(Qa 95 (.len (.t 94))),(Qa 96 (.bin .lss (.t 92) (.t 95)))]) (.ite (.t 96) (.skip) (.exit 4))) (.seq (.blk 5 (.seq (.reg [(Qf 99 2 1),(Ql 100 99),(Qm 101 10),(Qk 102 8 100 101),(Qe 103 8 102),(Qa 11 (.alloc 66 [.iv 0,.iv 0,.iv 0,.ff,.ff,.ff,.ff,.ff])),(Qs 8 11 103)]) (.seq (.reg [(Qf 104 4 11),(Qb (.store 1 (.t 104) (.c .tt)))]) (.reg [(Qe 105 3 1),(Qm 106 10),(Qe 107 8 11),(Qa 108 (.call 95 [(.t 105),(.t 106),(.t 107)])),(Qs 3 1 108)])))) (.reg [(Qm 97 10),(Qv 98 97 1),(Qm 10 98)]))
@[go_sem] def e159_L1:EC:=.seq (.seq (.reg [(Qm 76 9),(Qf 77 2 1),(Ql 78 77),(Qa 79 (.len (.t 78))),(Qa 80 (.bin .lss (.t 76) (.t 79)))]) (.ite (.t 80) (.skip) (.exit 2))) (.seq (.blk 3 (.seq (.reg [(Qf 83 2 1),(Ql 84 83),(Qm 85 9),(Qk 86 8 84 85),(Qf 87 3 86),(Ql 88 87),(Qa 89 (.not (.t 88)))]) (.ite (.t 89) (.seq (.reg [(Qe 90 3 1),(Qs 3 2 90),(Qa 3 (.mv (.c .nl))),(Qa 4 (.mv (.c .ff)))]) (.ret)) (.skip)))) (.reg [(Qm 81 9),(Qv 82 81 1),(Qm 9 82)]))
@[go_sem] def e159_L0:EC:=.seq (.seq (.reg [(Qm 12 5),(Qf 13 2 1),(Ql 14 13),(Qa 15 (.len (.t 14))),(Qa 16 (.bin .lss (.t 12) (.t 15)))]) (.ite (.t 16) (.skip) (.exit 0))) (.seq (.blk 1 (.seq (.reg [(Qf 19 2 1),(Ql 20 19),(Qm 21 5),(Qk 22 8 20 21),(Qe 23 8 22),(Qa 6 (.alloc 66 [.iv 0,.iv 0,.iv 0,.ff,.ff,.ff,.ff,.ff])),(Qs 8 6 23)]) (.seq (.seq (.reg [(Qf 24 3 6),(Ql 25 24),(Qm 26 25),(Qh 27 26 true 4 6),(Qn 28 26 true 27),(Qp 29 26 28),(Qm 30 29),(Qh 31 30 true 5 6),(Qn 32 30 true 31),(Qp 33 30 32),(Qm 34 33),(Qh 35 34 true 1 1),(Qn 36 34 true 35),(Qg 37 34 true (.bin .neq (.t 36) (.c (.iv 2)))),(Qp 38 34 37)]) (.ite (.t 38) (.seq (.reg [(Qe 39 8 6),(Qa 7 (.alloc 66 [.iv 0,.iv 0,.iv 0,.ff,.ff,.ff,.ff,.ff])),(Qs 8 7 39)]) (.seq (.reg [(Qf 40 3 7),(Qb (.store 1 (.t 40) (.c .ff))),(Qf 41 4 7),(Qb (.store 1 (.t 41) (.c .ff)))]) (.seq (.drw [(Qe 42 3 1),(Qm 43 5),(Qe 44 8 7),(Qa 45 (.call 95 [(.t 42),(.t 43),(.t 44)])),(Qe 46 3 1),(Qe 47 8 6),(Qa 48 (.call 179 [(.t 46),(.t 47),(.c (.iv 1))])),(Qa 49 (.bsl 95 5 1 [.iv 0,.iv 0,.iv 0,.iv 0,.iv 0] [(0,(.t 48))])),(Qs 3 2 45),(Qm 3 49),(Qa 4 (.mv (.c .tt)))] [[],[],[],[0,1,2],[],[],[4,5,3],[6],[3,6,0,1,2,3],[7,8,0,1,2,3,4,5,6,7,8],[9,0,1,2,3,4,5,6,7,8,9]] [[3],[3],[3],[0,1,2,8],[6],[6],[4,5,7],[6,9],[3],[7],[]]) (.ret)))) (.skip))) (.seq (.reg [(Qf 50 3 6),(Ql 51 50),(Qa 52 (.not (.t 51))),(Qm 53 52),(Qh 54 53 true 5 6),(Qn 55 53 true 54),(Qp 56 53 55),(Qm 57 56),(Qh 58 57 true 1 1),(Qn 59 57 true 58),(Qg 60 57 true (.bin .eql (.t 59) (.c (.iv 1)))),(Qp 61 57 60)]) (.ite (.t 61) (.seq (.reg [(Qe 62 8 6),(Qa 8 (.alloc 66 [.iv 0,.iv 0,.iv 0,.ff,.ff,.ff,.ff,.ff])),(Qs 8 8 62)]) (.seq (.reg [(Qf 63 5 8),(Qb (.store 1 (.t 63) (.c .ff)))]) (.seq (.drw [(Qe 64 3 1),(Qm 65 5),(Qe 66 8 8),(Qa 67 (.call 95 [(.t 64),(.t 65),(.t 66)])),(Qe 68 3 1),(Qe 69 8 6),(Qa 70 (.call 179 [(.t 68),(.t 69),(.c (.iv 2))])),(Qa 71 (.bsl 95 5 1 [.iv 0,.iv 0,.iv 0,.iv 0,.iv 0] [(0,(.t 70))])),(Qs 3 2 67),(Qm 3 71),(Qa 4 (.mv (.c .tt)))] [[],[],[],[0,1,2],[],[],[4,5,3],[6],[3,6,0,1,2,3],[7,8,0,1,2,3,4,5,6,7,8],[9,0,1,2,3,4,5,6,7,8,9]] [[3],[3],[3],[0,1,2,8],[6],[6],[4,5,7],[6,9],[3],[7],[]]) (.ret)))) (.skip)))))) (.reg [(Qm 17 5),(Qv 18 17 1),(Qm 5 18)]))
@[go_sem] def e159:EC:=.seq (.reg [(Qx 1 61 3 0),(Qa 2 (.alloc 61 [.iv 0,.iv 0,.nl])),(Qa 3 (.mv (.c .nl))),(Qa 4 (.mv (.c .ff)))]) (.seq (.seq (.reg [(Qi 5 0)]) (.blk 0 (.loop e159_L0))) (.seq (.seq (.reg [(Qf 72 1 1),(Ql 73 72),(Qa 74 (.bin .neq (.t 73) (.c (.iv 1))))]) (.ite (.t 74) (.seq (.reg [(Qe 75 3 1),(Qs 3 2 75),(Qa 3 (.mv (.c .nl))),(Qa 4 (.mv (.c .ff)))]) (.ret)) (.skip))) (.seq (.seq (.reg [(Qi 9 0)]) (.blk 2 (.loop e159_L1))) (.seq (.reg [(Qf 91 1 1),(Qb (.store 1 (.t 91) (.c (.iv 2))))]) (.seq (.seq (.reg [(Qi 10 0)]) (.blk 4 (.loop e159_L2))) (.seq (.reg [(Qe 109 3 1),(Qs 3 2 109),(Qa 3 (.mv (.c .nl))),(Qa 4 (.mv (.c .tt)))]) (.ret)))))))
theorem ok159:FnOK Tryz.prog 159 Tryz.f159 e159 [.c 2 (some 3),.t 3,.t 4] 1 109:=⟨by kernel_rfl,⟨_,rfl,by kernel_rfl⟩,by kernel_rfl,by kernel_rfl⟩
noncomputable def Zfm:Diner→Option (Diner×(List Mail)×Bool)
| x52=>
 some (x52,([]:(List Mail)),true)
noncomputable def Zgm:(Int×Diner)→Option ((Int×Diner) ⊕ (Diner×(List Mail)×Bool))
| (x44,x45)=>
 ifb (decide (x44<(ln Side.row x45.Sides))) (
 (at_ x45.Sides x44).bind fun x46=>
 (Zbm x45 x44 ((Side.mk x46.Peer x46.Epoch x46.State x46.Fork true x46.Token x46.Bottle x46.Ask))).bind fun x47=>
 some (.inl (wr (x44+1),x47))) (
 Option.map Sum.inr (Zfm x45))
noncomputable def Zhm (x1:Diner):Unit→Option (Diner×(List Mail)×Bool)
| ()=>
 loop Zgm (0,(Diner.mk x1.ID 2 x1.Sides))
noncomputable def Zim (x1:Diner):Int→Option (Int ⊕ (Diner×(List Mail)×Bool))
| x35=>
 ifb (decide (x35<(ln Side.row x1.Sides))) (
 (at_ x1.Sides x35).bind fun x36=>
 ifb (!x36.Fork) (
 Option.map Sum.inr (some (x1,([]:(List Mail)),false))) (
 some (.inl (wr (x35+1))))) (
 Option.map Sum.inr ((Zhm x1) ()))
noncomputable def Zjm (x1:Diner):Unit→Option (Diner×(List Mail)×Bool)
| ()=>
 ifb (!decide (x1.Phase=1)) (
 some (x1,([]:(List Mail)),false)) (
 loop (Zim x1) 0)
noncomputable def Zkm:(Diner×(List Mail))→Option (Int ⊕ (Diner×(List Mail)×Bool))
| (x22,x23)=>
 Option.map Sum.inr (some (x22,x23,true))
noncomputable def Zlm:(Diner×(List Mail))→Option (Int ⊕ (Diner×(List Mail)×Bool))
| (x28,x29)=>
 Option.map Sum.inr (some (x28,x29,true))
noncomputable def Zmm (x1:Diner) (x16:Int) (x17:Side):Bool→Option (Int ⊕ (Diner×(List Mail)×Bool))
| x24=>
 ifb x24 (
 (Zbm x1 x16 ((Side.mk x17.Peer x17.Epoch x17.State x17.Fork x17.Dirty false x17.Bottle x17.Ask))).bind fun x25=>
 (Zdm x1 x17 2).bind fun x27=>
 Zlm (x25,[x27])) (
 some (.inl (wr (x16+1))))
noncomputable def Znm (x1:Diner) (x16:Int) (x17:Side):Bool→Option (Int ⊕ (Diner×(List Mail)×Bool))
| x18=>
 ifb x18 (
 (Zbm x1 x16 ((Side.mk x17.Peer x17.Epoch x17.State false false x17.Token x17.Bottle x17.Ask))).bind fun x19=>
 (Zdm x1 x17 1).bind fun x21=>
 Zkm (x19,[x21])) (
 ifb (!x17.Fork) (
 ifb x17.Token (
 (Zmm x1 x16 x17) (decide (x1.Phase=1))) (
 (Zmm x1 x16 x17) false)) (
 (Zmm x1 x16 x17) false))
noncomputable def Zom (x1:Diner):Int→Option (Int ⊕ (Diner×(List Mail)×Bool))
| x16=>
 ifb (decide (x16<(ln Side.row x1.Sides))) (
 (at_ x1.Sides x16).bind fun x17=>
 ifb x17.Fork (
 ifb x17.Dirty (
 ifb x17.Token (
 (Znm x1 x16 x17) (!decide (x1.Phase=2))) (
 (Znm x1 x16 x17) false)) (
 (Znm x1 x16 x17) false)) (
 (Znm x1 x16 x17) false)) (
 Option.map Sum.inr ((Zjm x1) ()))
noncomputable def Zpm (x1:Diner):Option (Diner×(List Mail)×Bool):=
 loop (Zom x1) 0
theorem Zqm (x1:Diner) (r:(Diner×(List Mail)×Bool)) (h:Zpm x1=some r):Zp2 Tryz.prog 159 [.agg (Diner.row x1)] (.tup [.agg (Diner.row r.1),.sl 5 (List.map Mail.row r.2.1),.bv r.2.2]):=by
 refine Zt2 ok159 rfl rfl fun w0 H0=>?_
 rw [Zpm] at h
 refine Zk2 12 ?_;dsimp only [go_sem];refine An ?_;refine Ze4 (fun (_:Unit)=>(⟨(.any :: .ptr 0 0 :: .ptr 1 0::an 107 []),[some ⟨61,[.iv x1.ID,.iv x1.Phase,.sl 8 (List.map Side.row x1.Sides)]⟩,some ⟨61,[.iv 0,.iv 0,.nl]⟩],[]⟩:St)) (Zjm x1) r ?_ fun J1=>?_
 ·rintro ⟨⟩ h;rw [Zjm] at h;(try dsimp only);refine Zk2 7 ?_;dsimp only [go_sem];refine An ?_;refine Zg4 h rfl (fun _ h=>?_) fun _ h=>?_
  ·refine Zk2 7 ?_;dsimp only [go_sem];refine An ?_;exact Zo4 (res:=fun (r:(Diner×(List Mail)×Bool))=>.tup [.agg (Diner.row r.1),.sl 5 (List.map Mail.row r.2.1),.bv r.2.2]) ok159 h
  ·refine Zk2 6 ?_;dsimp only [go_sem];refine An ?_;refine Ze4 (fun (_:Unit)=>(⟨(.any :: .ptr 0 0 :: .ptr 1 0::an 107 []),[some ⟨61,[.iv x1.ID,.iv x1.Phase,.sl 8 (List.map Side.row x1.Sides)]⟩,some ⟨61,[.iv 0,.iv 0,.nl]⟩],[]⟩:St)) (Zhm x1) r ?_ fun J6=>?_
   ·rintro ⟨⟩ h;rw [Zhm] at h;(try dsimp only);refine Zk2 10 ?_;dsimp only [go_sem];refine An ?_;refine Ze4 (fun (x52:Diner)=>(⟨(.any :: .ptr 0 0 :: .ptr 1 0::an 107 []),[some ⟨61,[.iv x52.ID,.iv x52.Phase,.sl 8 (List.map Side.row x52.Sides)]⟩,some ⟨61,[.iv 0,.iv 0,.nl]⟩],[]⟩:St)) Zfm r ?_ fun J7=>?_
    ·intro x52 h;rw [Zfm] at h;(try dsimp only);refine Zk2 7 ?_;dsimp only [go_sem];refine An ?_;exact Zo4 (res:=fun (r:(Diner×(List Mail)×Bool))=>.tup [.agg (Diner.row r.1),.sl 5 (List.map Mail.row r.2.1),.bv r.2.2]) ok159 h
    ·refine Zk2 1 ?_;dsimp only [go_sem];refine An ?_;refine Zf4 h (fun ((x44,x45):(Int×Diner))=>(⟨(.any :: .ptr 0 0 :: .ptr 1 0::an 7 (.iv x44::an 99 [])),[some ⟨61,[.iv x45.ID,.iv x45.Phase,.sl 8 (List.map Side.row x45.Sides)]⟩,some ⟨61,[.iv 0,.iv 0,.nl]⟩],[]⟩:St)) (by simp [go_sem]) (by rintro ⟨x44,x45⟩;first | rfl | simp [go_sem]) ?_;rintro n1 ⟨x44,x45⟩ y1 h hin1 hout1;rw [Zgm] at h;(try dsimp only);refine Zk2 9 ?_;dsimp only [go_sem];refine An ?_;refine Zg4 h rfl (fun _ h=>?_) fun _ h=>?_
     ·refine Zk2 8 ?_;dsimp only [go_sem];refine An ?_;obtain ⟨x46,ex46,h⟩:=Bs h;refine Zj4 Side.row ex46 trivial rfl rfl rfl ?_;refine Zk2 13 ?_;dsimp only [go_sem];refine An ?_;obtain ⟨x47,ex47,h⟩:=Bs h;refine Zy2 trivial (Zcm x45 x44 ((Side.mk x46.Peer x46.Epoch x46.State x46.Fork true x46.Token x46.Bottle x46.Ask)) _ ex47) (h:=?_);refine Zk2 8 ?_;dsimp only [go_sem];refine An ?_;exact Zp4 h hin1
     ·refine Zk2 1 ?_;dsimp only [go_sem];refine An ?_;exact Zq4 J7 (s:=x45) (Zd4 h hout1)
   ·refine Zk2 1 ?_;dsimp only [go_sem];refine An ?_;refine Zf4 h (fun (x35:Int)=>(⟨(.any :: .ptr 0 0 :: .ptr 1 0::an 6 (.iv x35::an 100 [])),[some ⟨61,[.iv x1.ID,.iv x1.Phase,.sl 8 (List.map Side.row x1.Sides)]⟩,some ⟨61,[.iv 0,.iv 0,.nl]⟩],[]⟩:St)) (by simp [go_sem]) (by intro x35;first | rfl | simp [go_sem]) ?_;rintro n1 x35 y1 h hin1 hout1;rw [Zim] at h;(try dsimp only);refine Zk2 9 ?_;dsimp only [go_sem];refine An ?_;refine Zg4 h rfl (fun _ h=>?_) fun _ h=>?_
    ·refine Zk2 8 ?_;dsimp only [go_sem];refine An ?_;obtain ⟨x36,ex36,h⟩:=Bs h;refine Zj4 Side.row ex36 trivial rfl rfl rfl ?_;refine Zk2 4 ?_;dsimp only [go_sem];refine An ?_;refine Zg4 h rfl (fun _ h=>?_) fun _ h=>?_
     ·refine Zk2 7 ?_;dsimp only [go_sem];refine An ?_;exact Zo4 (res:=fun (r:(Diner×(List Mail)×Bool))=>.tup [.agg (Diner.row r.1),.sl 5 (List.map Mail.row r.2.1),.bv r.2.2]) ok159 (Zd4 h hout1)
     ·refine Zk2 7 ?_;dsimp only [go_sem];refine An ?_;exact Zp4 h hin1
    ·refine Zk2 1 ?_;dsimp only [go_sem];refine An ?_;exact Zq4 J6 (s:=()) (Zd4 h hout1)
 ·refine Zk2 1 ?_;dsimp only [go_sem];refine An ?_;refine Zf4 h (fun (x16:Int)=>(⟨(.any :: .ptr 0 0 :: .ptr 1 0 :: .any :: .any :: .iv x16::an 104 []),[some ⟨61,[.iv x1.ID,.iv x1.Phase,.sl 8 (List.map Side.row x1.Sides)]⟩,some ⟨61,[.iv 0,.iv 0,.nl]⟩],[]⟩:St)) (by simp [go_sem]) (by intro x16;first | rfl | simp [go_sem]) ?_;rintro n1 x16 y1 h hin1 hout1;rw [Zom] at h;(try dsimp only);refine Zk2 9 ?_;dsimp only [go_sem];refine An ?_;refine Zg4 h rfl (fun _ h=>?_) fun _ h=>?_
  ·refine Zk2 8 ?_;dsimp only [go_sem];refine An ?_;obtain ⟨x17,ex17,h⟩:=Bs h;refine Zj4 Side.row ex17 trivial rfl rfl rfl ?_;refine Zk2 10 ?_;dsimp only [go_sem];refine An ?_
   refine Ze4 (fun (x18:Bool)=>(⟨(.any :: .ptr 0 0 :: .ptr 1 0 :: .any :: .any :: .iv x16 :: .ptr 2 0::an 31 (.bv x18::an 71 [])),[some ⟨61,[.iv x1.ID,.iv x1.Phase,.sl 8 (List.map Side.row x1.Sides)]⟩,some ⟨61,[.iv 0,.iv 0,.nl]⟩,some ⟨66,[.iv x17.Peer,.iv x17.Epoch,.iv x17.State,.bv x17.Fork,.bv x17.Dirty,.bv x17.Token,.bv x17.Bottle,.bv x17.Ask]⟩],[]⟩:St)) (Znm x1 x16 x17) y1 ?_ fun J2=>?_
   ·intro x18 h;rw [Znm] at h;(try dsimp only);refine Zg4 h rfl (fun _ h=>?_) fun _ h=>?_
    ·refine Zk2 14 ?_;dsimp only [go_sem];refine An ?_;refine Ze4 (fun ((x22,x23):(Diner×(List Mail)))=>(⟨(.any :: .any :: .ptr 1 0 :: .osl 0 :: .tt::an 105 []),[none,some ⟨61,[.iv x22.ID,.iv x22.Phase,.sl 8 (List.map Side.row x22.Sides)]⟩],[some ⟨95,5,List.map Mail.row x23⟩]⟩:St)) Zkm y1 ?_ fun J3=>?_
     ·rintro ⟨x22,x23⟩ h;rw [Zkm] at h;(try dsimp only);refine Z73 0 rfl ?_;dsimp only [go_sem];exact Zo4 (res:=fun (r:(Diner×(List Mail)×Bool))=>.tup [.agg (Diner.row r.1),.sl 5 (List.map Mail.row r.2.1),.bv r.2.2]) ok159 (Zd4 h hout1)
     ·refine Zf3 (by kernel_rfl) fun all hall hs hnap haf=>?_;dsimp only [go_sem];refine Z55 hall hs haf hnap 3 8 ?_;dsimp only [go_sem];refine An ?_;obtain ⟨x19,ex19,h⟩:=Bs h;refine Zs3 3 4 5 rfl ?_ ?_ ?_
      ·refine Zw3 hall rfl trivial (Zcm x1 x16 ((Side.mk x17.Peer x17.Epoch x17.State false false x17.Token x17.Bottle x17.Ask)) _ ex19) (h:=?_);dsimp only [go_sem];refine Zr3 4 5 rfl ?_ ?_
       ·refine Zv3 hall rfl trivial ?_;dsimp only [go_sem];refine Zq3 5 rfl ?_;refine Zv3 hall rfl trivial ?_;dsimp only [go_sem];refine Zq3 6 rfl ?_;obtain ⟨x21,ex21,h⟩:=Bs h;refine Zw3 hall rfl trivial (Zem x1 x17 1 _ ex21) (h:=?_);dsimp only [go_sem];refine Zr3 7 8 rfl ?_ ?_
        ·refine Zv3 hall rfl trivial ?_;dsimp only [go_sem];refine Zq3 8 rfl ?_;refine Zv3 hall rfl trivial ?_;dsimp only [go_sem];refine Z55 hall hs haf hnap 2 0 ?_;dsimp only [go_sem];refine An ?_;refine Zp3 rfl ?_ _;exact Zq4 J3 (s:=(x19,[x21])) h
        ·refine Zv3 hall rfl trivial ?_;dsimp only [go_sem];refine Zq3 7 rfl ?_;refine Zv3 hall rfl trivial ?_;dsimp only [go_sem];refine Z55 hall hs haf hnap 2 0 ?_;dsimp only [go_sem];refine An ?_;refine Zp3 rfl ?_ _;exact Zq4 J3 (s:=(x19,[x21])) h
       ·refine Zv3 hall rfl trivial ?_;dsimp only [go_sem];refine Zq3 4 rfl ?_;refine Zv3 hall rfl trivial ?_;dsimp only [go_sem];refine Zq3 6 rfl ?_;obtain ⟨x21,ex21,h⟩:=Bs h;refine Zw3 hall rfl trivial (Zem x1 x17 1 _ ex21) (h:=?_);dsimp only [go_sem];refine Zr3 7 8 rfl ?_ ?_
        ·refine Zv3 hall rfl trivial ?_;dsimp only [go_sem];refine Zq3 8 rfl ?_;refine Zv3 hall rfl trivial ?_;dsimp only [go_sem];refine Z55 hall hs haf hnap 2 0 ?_;dsimp only [go_sem];refine An ?_;refine Zp3 rfl ?_ _;exact Zq4 J3 (s:=(x19,[x21])) h
        ·refine Zv3 hall rfl trivial ?_;dsimp only [go_sem];refine Zq3 7 rfl ?_;refine Zv3 hall rfl trivial ?_;dsimp only [go_sem];refine Z55 hall hs haf hnap 2 0 ?_;dsimp only [go_sem];refine An ?_;refine Zp3 rfl ?_ _;exact Zq4 J3 (s:=(x19,[x21])) h
      ·refine Zv3 hall rfl trivial ?_;dsimp only [go_sem];refine Zr3 3 5 rfl ?_ ?_
       ·refine Zw3 hall rfl trivial (Zcm x1 x16 ((Side.mk x17.Peer x17.Epoch x17.State false false x17.Token x17.Bottle x17.Ask)) _ ex19) (h:=?_);dsimp only [go_sem];refine Zq3 5 rfl ?_;refine Zv3 hall rfl trivial ?_;dsimp only [go_sem];refine Zq3 6 rfl ?_;obtain ⟨x21,ex21,h⟩:=Bs h;refine Zw3 hall rfl trivial (Zem x1 x17 1 _ ex21) (h:=?_);dsimp only [go_sem];refine Zr3 7 8 rfl ?_ ?_
        ·refine Zv3 hall rfl trivial ?_;dsimp only [go_sem];refine Zq3 8 rfl ?_;refine Zv3 hall rfl trivial ?_;dsimp only [go_sem];refine Z55 hall hs haf hnap 2 0 ?_;dsimp only [go_sem];refine An ?_;refine Zp3 rfl ?_ _;exact Zq4 J3 (s:=(x19,[x21])) h
        ·refine Zv3 hall rfl trivial ?_;dsimp only [go_sem];refine Zq3 7 rfl ?_;refine Zv3 hall rfl trivial ?_;dsimp only [go_sem];refine Z55 hall hs haf hnap 2 0 ?_;dsimp only [go_sem];refine An ?_;refine Zp3 rfl ?_ _;exact Zq4 J3 (s:=(x19,[x21])) h
       ·refine Zv3 hall rfl trivial ?_;dsimp only [go_sem];refine Zq3 3 rfl ?_;refine Zw3 hall rfl trivial (Zcm x1 x16 ((Side.mk x17.Peer x17.Epoch x17.State false false x17.Token x17.Bottle x17.Ask)) _ ex19) (h:=?_);dsimp only [go_sem];refine Zq3 6 rfl ?_;obtain ⟨x21,ex21,h⟩:=Bs h;refine Zw3 hall rfl trivial (Zem x1 x17 1 _ ex21) (h:=?_);dsimp only [go_sem];refine Zr3 7 8 rfl ?_ ?_
        ·refine Zv3 hall rfl trivial ?_;dsimp only [go_sem];refine Zq3 8 rfl ?_;refine Zv3 hall rfl trivial ?_;dsimp only [go_sem];refine Z55 hall hs haf hnap 2 0 ?_;dsimp only [go_sem];refine An ?_;refine Zp3 rfl ?_ _;exact Zq4 J3 (s:=(x19,[x21])) h
        ·refine Zv3 hall rfl trivial ?_;dsimp only [go_sem];refine Zq3 7 rfl ?_;refine Zv3 hall rfl trivial ?_;dsimp only [go_sem];refine Z55 hall hs haf hnap 2 0 ?_;dsimp only [go_sem];refine An ?_;refine Zp3 rfl ?_ _;exact Zq4 J3 (s:=(x19,[x21])) h
      ·refine Zv3 hall rfl trivial ?_;dsimp only [go_sem];refine Zr3 3 4 rfl ?_ ?_
       ·refine Zw3 hall rfl trivial (Zcm x1 x16 ((Side.mk x17.Peer x17.Epoch x17.State false false x17.Token x17.Bottle x17.Ask)) _ ex19) (h:=?_);dsimp only [go_sem];refine Zq3 4 rfl ?_;refine Zv3 hall rfl trivial ?_;dsimp only [go_sem];refine Zq3 6 rfl ?_;obtain ⟨x21,ex21,h⟩:=Bs h;refine Zw3 hall rfl trivial (Zem x1 x17 1 _ ex21) (h:=?_);dsimp only [go_sem];refine Zr3 7 8 rfl ?_ ?_
        ·refine Zv3 hall rfl trivial ?_;dsimp only [go_sem];refine Zq3 8 rfl ?_;refine Zv3 hall rfl trivial ?_;dsimp only [go_sem];refine Z55 hall hs haf hnap 2 0 ?_;dsimp only [go_sem];refine An ?_;refine Zp3 rfl ?_ _;exact Zq4 J3 (s:=(x19,[x21])) h
        ·refine Zv3 hall rfl trivial ?_;dsimp only [go_sem];refine Zq3 7 rfl ?_;refine Zv3 hall rfl trivial ?_;dsimp only [go_sem];refine Z55 hall hs haf hnap 2 0 ?_;dsimp only [go_sem];refine An ?_;refine Zp3 rfl ?_ _;exact Zq4 J3 (s:=(x19,[x21])) h
       ·refine Zv3 hall rfl trivial ?_;dsimp only [go_sem];refine Zq3 3 rfl ?_;refine Zw3 hall rfl trivial (Zcm x1 x16 ((Side.mk x17.Peer x17.Epoch x17.State false false x17.Token x17.Bottle x17.Ask)) _ ex19) (h:=?_);dsimp only [go_sem];refine Zq3 6 rfl ?_;obtain ⟨x21,ex21,h⟩:=Bs h;refine Zw3 hall rfl trivial (Zem x1 x17 1 _ ex21) (h:=?_);dsimp only [go_sem];refine Zr3 7 8 rfl ?_ ?_
        ·refine Zv3 hall rfl trivial ?_;dsimp only [go_sem];refine Zq3 8 rfl ?_;refine Zv3 hall rfl trivial ?_;dsimp only [go_sem];refine Z55 hall hs haf hnap 2 0 ?_;dsimp only [go_sem];refine An ?_;refine Zp3 rfl ?_ _;exact Zq4 J3 (s:=(x19,[x21])) h
        ·refine Zv3 hall rfl trivial ?_;dsimp only [go_sem];refine Zq3 7 rfl ?_;refine Zv3 hall rfl trivial ?_;dsimp only [go_sem];refine Z55 hall hs haf hnap 2 0 ?_;dsimp only [go_sem];refine An ?_;refine Zp3 rfl ?_ _;exact Zq4 J3 (s:=(x19,[x21])) h
    ·refine Zk2 7 ?_;dsimp only [go_sem];refine An ?_;refine Ze4 (fun (x24:Bool)=>(⟨(.any :: .ptr 0 0 :: .ptr 1 0 :: .any :: .any :: .iv x16 :: .ptr 2 0::an 54 (.bv x24::an 48 [])),[some ⟨61,[.iv x1.ID,.iv x1.Phase,.sl 8 (List.map Side.row x1.Sides)]⟩,some ⟨61,[.iv 0,.iv 0,.nl]⟩,some ⟨66,[.iv x17.Peer,.iv x17.Epoch,.iv x17.State,.bv x17.Fork,.bv x17.Dirty,.bv x17.Token,.bv x17.Bottle,.bv x17.Ask]⟩],[]⟩:St)) (Zmm x1 x16 x17) y1 ?_ fun J4=>?_
     ·intro x24 h;rw [Zmm] at h;(try dsimp only);refine Zg4 h rfl (fun _ h=>?_) fun _ h=>?_
      ·refine Zk2 12 ?_;dsimp only [go_sem];refine An ?_;refine Ze4 (fun ((x28,x29):(Diner×(List Mail)))=>(⟨(.any :: .any :: .ptr 1 0 :: .osl 0 :: .tt::an 105 []),[none,some ⟨61,[.iv x28.ID,.iv x28.Phase,.sl 8 (List.map Side.row x28.Sides)]⟩],[some ⟨95,5,List.map Mail.row x29⟩]⟩:St)) Zlm y1 ?_ fun J5=>?_
       ·rintro ⟨x28,x29⟩ h;rw [Zlm] at h;(try dsimp only);refine Z73 0 rfl ?_;dsimp only [go_sem];exact Zo4 (res:=fun (r:(Diner×(List Mail)×Bool))=>.tup [.agg (Diner.row r.1),.sl 5 (List.map Mail.row r.2.1),.bv r.2.2]) ok159 (Zd4 h hout1)
       ·refine Zf3 (by kernel_rfl) fun all hall hs hnap haf=>?_;dsimp only [go_sem];refine Z55 hall hs haf hnap 3 8 ?_;dsimp only [go_sem];refine An ?_;obtain ⟨x25,ex25,h⟩:=Bs h;refine Zs3 3 4 5 rfl ?_ ?_ ?_
        ·refine Zw3 hall rfl trivial (Zcm x1 x16 ((Side.mk x17.Peer x17.Epoch x17.State x17.Fork x17.Dirty false x17.Bottle x17.Ask)) _ ex25) (h:=?_);dsimp only [go_sem];refine Zr3 4 5 rfl ?_ ?_
         ·refine Zv3 hall rfl trivial ?_;dsimp only [go_sem];refine Zq3 5 rfl ?_;refine Zv3 hall rfl trivial ?_;dsimp only [go_sem];refine Zq3 6 rfl ?_;obtain ⟨x27,ex27,h⟩:=Bs h;refine Zw3 hall rfl trivial (Zem x1 x17 2 _ ex27) (h:=?_);dsimp only [go_sem];refine Zr3 7 8 rfl ?_ ?_
          ·refine Zv3 hall rfl trivial ?_;dsimp only [go_sem];refine Zq3 8 rfl ?_;refine Zv3 hall rfl trivial ?_;dsimp only [go_sem];refine Z55 hall hs haf hnap 2 0 ?_;dsimp only [go_sem];refine An ?_;refine Zp3 rfl ?_ _;exact Zq4 J5 (s:=(x25,[x27])) h
          ·refine Zv3 hall rfl trivial ?_;dsimp only [go_sem];refine Zq3 7 rfl ?_;refine Zv3 hall rfl trivial ?_;dsimp only [go_sem];refine Z55 hall hs haf hnap 2 0 ?_;dsimp only [go_sem];refine An ?_;refine Zp3 rfl ?_ _;exact Zq4 J5 (s:=(x25,[x27])) h
         ·refine Zv3 hall rfl trivial ?_;dsimp only [go_sem];refine Zq3 4 rfl ?_;refine Zv3 hall rfl trivial ?_;dsimp only [go_sem];refine Zq3 6 rfl ?_;obtain ⟨x27,ex27,h⟩:=Bs h;refine Zw3 hall rfl trivial (Zem x1 x17 2 _ ex27) (h:=?_);dsimp only [go_sem];refine Zr3 7 8 rfl ?_ ?_
          ·refine Zv3 hall rfl trivial ?_;dsimp only [go_sem];refine Zq3 8 rfl ?_;refine Zv3 hall rfl trivial ?_;dsimp only [go_sem];refine Z55 hall hs haf hnap 2 0 ?_;dsimp only [go_sem];refine An ?_;refine Zp3 rfl ?_ _;exact Zq4 J5 (s:=(x25,[x27])) h
          ·refine Zv3 hall rfl trivial ?_;dsimp only [go_sem];refine Zq3 7 rfl ?_;refine Zv3 hall rfl trivial ?_;dsimp only [go_sem];refine Z55 hall hs haf hnap 2 0 ?_;dsimp only [go_sem];refine An ?_;refine Zp3 rfl ?_ _;exact Zq4 J5 (s:=(x25,[x27])) h
        ·refine Zv3 hall rfl trivial ?_;dsimp only [go_sem];refine Zr3 3 5 rfl ?_ ?_
         ·refine Zw3 hall rfl trivial (Zcm x1 x16 ((Side.mk x17.Peer x17.Epoch x17.State x17.Fork x17.Dirty false x17.Bottle x17.Ask)) _ ex25) (h:=?_);dsimp only [go_sem];refine Zq3 5 rfl ?_;refine Zv3 hall rfl trivial ?_;dsimp only [go_sem];refine Zq3 6 rfl ?_;obtain ⟨x27,ex27,h⟩:=Bs h;refine Zw3 hall rfl trivial (Zem x1 x17 2 _ ex27) (h:=?_);dsimp only [go_sem];refine Zr3 7 8 rfl ?_ ?_
          ·refine Zv3 hall rfl trivial ?_;dsimp only [go_sem];refine Zq3 8 rfl ?_;refine Zv3 hall rfl trivial ?_;dsimp only [go_sem];refine Z55 hall hs haf hnap 2 0 ?_;dsimp only [go_sem];refine An ?_;refine Zp3 rfl ?_ _;exact Zq4 J5 (s:=(x25,[x27])) h
          ·refine Zv3 hall rfl trivial ?_;dsimp only [go_sem];refine Zq3 7 rfl ?_;refine Zv3 hall rfl trivial ?_;dsimp only [go_sem];refine Z55 hall hs haf hnap 2 0 ?_;dsimp only [go_sem];refine An ?_;refine Zp3 rfl ?_ _;exact Zq4 J5 (s:=(x25,[x27])) h
         ·refine Zv3 hall rfl trivial ?_;dsimp only [go_sem];refine Zq3 3 rfl ?_;refine Zw3 hall rfl trivial (Zcm x1 x16 ((Side.mk x17.Peer x17.Epoch x17.State x17.Fork x17.Dirty false x17.Bottle x17.Ask)) _ ex25) (h:=?_);dsimp only [go_sem];refine Zq3 6 rfl ?_;obtain ⟨x27,ex27,h⟩:=Bs h;refine Zw3 hall rfl trivial (Zem x1 x17 2 _ ex27) (h:=?_);dsimp only [go_sem];refine Zr3 7 8 rfl ?_ ?_
          ·refine Zv3 hall rfl trivial ?_;dsimp only [go_sem];refine Zq3 8 rfl ?_;refine Zv3 hall rfl trivial ?_;dsimp only [go_sem];refine Z55 hall hs haf hnap 2 0 ?_;dsimp only [go_sem];refine An ?_;refine Zp3 rfl ?_ _;exact Zq4 J5 (s:=(x25,[x27])) h
          ·refine Zv3 hall rfl trivial ?_;dsimp only [go_sem];refine Zq3 7 rfl ?_;refine Zv3 hall rfl trivial ?_;dsimp only [go_sem];refine Z55 hall hs haf hnap 2 0 ?_;dsimp only [go_sem];refine An ?_;refine Zp3 rfl ?_ _;exact Zq4 J5 (s:=(x25,[x27])) h
        ·refine Zv3 hall rfl trivial ?_;dsimp only [go_sem];refine Zr3 3 4 rfl ?_ ?_
         ·refine Zw3 hall rfl trivial (Zcm x1 x16 ((Side.mk x17.Peer x17.Epoch x17.State x17.Fork x17.Dirty false x17.Bottle x17.Ask)) _ ex25) (h:=?_);dsimp only [go_sem];refine Zq3 4 rfl ?_;refine Zv3 hall rfl trivial ?_;dsimp only [go_sem];refine Zq3 6 rfl ?_;obtain ⟨x27,ex27,h⟩:=Bs h;refine Zw3 hall rfl trivial (Zem x1 x17 2 _ ex27) (h:=?_);dsimp only [go_sem];refine Zr3 7 8 rfl ?_ ?_
          ·refine Zv3 hall rfl trivial ?_;dsimp only [go_sem];refine Zq3 8 rfl ?_;refine Zv3 hall rfl trivial ?_;dsimp only [go_sem];refine Z55 hall hs haf hnap 2 0 ?_;dsimp only [go_sem];refine An ?_;refine Zp3 rfl ?_ _;exact Zq4 J5 (s:=(x25,[x27])) h
          ·refine Zv3 hall rfl trivial ?_;dsimp only [go_sem];refine Zq3 7 rfl ?_;refine Zv3 hall rfl trivial ?_;dsimp only [go_sem];refine Z55 hall hs haf hnap 2 0 ?_;dsimp only [go_sem];refine An ?_;refine Zp3 rfl ?_ _;exact Zq4 J5 (s:=(x25,[x27])) h
         ·refine Zv3 hall rfl trivial ?_;dsimp only [go_sem];refine Zq3 3 rfl ?_;refine Zw3 hall rfl trivial (Zcm x1 x16 ((Side.mk x17.Peer x17.Epoch x17.State x17.Fork x17.Dirty false x17.Bottle x17.Ask)) _ ex25) (h:=?_);dsimp only [go_sem];refine Zq3 6 rfl ?_;obtain ⟨x27,ex27,h⟩:=Bs h;refine Zw3 hall rfl trivial (Zem x1 x17 2 _ ex27) (h:=?_);dsimp only [go_sem];refine Zr3 7 8 rfl ?_ ?_
          ·refine Zv3 hall rfl trivial ?_;dsimp only [go_sem];refine Zq3 8 rfl ?_;refine Zv3 hall rfl trivial ?_;dsimp only [go_sem];refine Z55 hall hs haf hnap 2 0 ?_;dsimp only [go_sem];refine An ?_;refine Zp3 rfl ?_ _;exact Zq4 J5 (s:=(x25,[x27])) h
          ·refine Zv3 hall rfl trivial ?_;dsimp only [go_sem];refine Zq3 7 rfl ?_;refine Zv3 hall rfl trivial ?_;dsimp only [go_sem];refine Z55 hall hs haf hnap 2 0 ?_;dsimp only [go_sem];refine An ?_;refine Zp3 rfl ?_ _;exact Zq4 J5 (s:=(x25,[x27])) h
      ·refine Zk2 7 ?_;dsimp only [go_sem];refine An ?_;exact Zp4 h hin1
     ·refine Zn4 53 h rfl (fun _ h=>?_) fun _ h=>?_
      ·dsimp only [go_sem];refine Zk2 4 ?_;dsimp only [go_sem];refine An ?_;refine Zn4 57 h rfl (fun _ h=>?_) fun _ h=>?_
       ·dsimp only [go_sem];refine Zk2 5 ?_;dsimp only [go_sem];refine An ?_;exact Zq4 J4 (s:=decide (x1.Phase=1)) h
       ·dsimp only [go_sem];refine Zk2 5 ?_;dsimp only [go_sem];refine An ?_;exact Zq4 J4 (s:=false) h
      ·dsimp only [go_sem];refine Zk2 9 ?_;dsimp only [go_sem];refine An ?_;exact Zq4 J4 (s:=false) h
   ·refine Zn4 26 h rfl (fun _ h=>?_) fun _ h=>?_
    ·dsimp only [go_sem];refine Zk2 4 ?_;dsimp only [go_sem];refine An ?_;refine Zn4 30 h rfl (fun _ h=>?_) fun _ h=>?_
     ·dsimp only [go_sem];refine Zk2 4 ?_;dsimp only [go_sem];refine An ?_;refine Zn4 34 h rfl (fun _ h=>?_) fun _ h=>?_
      ·dsimp only [go_sem];refine Zk2 5 ?_;dsimp only [go_sem];refine An ?_;exact Zq4 J2 (s:=!decide (x1.Phase=2)) h
      ·dsimp only [go_sem];refine Zk2 5 ?_;dsimp only [go_sem];refine An ?_;exact Zq4 J2 (s:=false) h
     ·dsimp only [go_sem];refine Zk2 9 ?_;dsimp only [go_sem];refine An ?_;exact Zq4 J2 (s:=false) h
    ·dsimp only [go_sem];refine Zk2 13 ?_;dsimp only [go_sem];refine An ?_;exact Zq4 J2 (s:=false) h
  ·refine Zk2 1 ?_;dsimp only [go_sem];refine An ?_;exact Zq4 J1 (s:=()) (Zd4 h hout1)
set_option maxRecDepth 100000
set_option maxHeartbeats 4000000
@[go_sem] def e140_L0:EC:=.seq (.seq (.reg [(Qm 15 7)]) (.ite (.t 15) (.skip) (.exit 0))) (.blk 1 (.seq (.reg [(Qe 16 3 5),(Qs 3 1 16)]) (.seq (.reg [(Qm 17 4),(Qm 18 6),(Qa 19 (.app 95 5 40 (.t 17) (.t 18))),(Qm 4 19)]) (.reg [(Qe 21 3 1),(Qa 22 (.call 159 [(.t 21)])),(Qm 20 22),(Qa 23 (.ext (.t 20) 0)),(Qa 24 (.ext (.t 20) 1)),(Qa 25 (.ext (.t 20) 2)),(Qs 3 5 23),(Qm 6 24),(Qm 7 25)]))))
@[go_sem] def e140:EC:=.seq (.reg [(Qx 1 61 3 0),(Qa 2 (.alloc 61 [.iv 0,.iv 0,.nl])),(Qa 3 (.mv (.c .nl)))]) (.seq (.reg [(Qa 8 (.bsl 95 5 0 [.iv 0,.iv 0,.iv 0,.iv 0,.iv 0] [])),(Qm 4 8)]) (.seq (.reg [(Qe 10 3 1),(Qa 11 (.call 159 [(.t 10)])),(Qm 9 11),(Qa 12 (.ext (.t 9) 0)),(Qa 13 (.ext (.t 9) 1)),(Qa 14 (.ext (.t 9) 2)),(Qa 5 (.alloc 61 [.iv 0,.iv 0,.nl])),(Qs 3 5 12),(Qm 6 13),(Qm 7 14)]) (.seq (.blk 0 (.loop e140_L0)) (.seq (.reg [(Qe 26 3 1),(Qm 27 4),(Qs 3 2 26),(Qm 3 27)]) (.ret)))))
theorem ok140:FnOK Tryz.prog 140 Tryz.f140 e140 [.c 2 (some 3),.t 3] 1 27:=⟨by kernel_rfl,⟨_,rfl,by kernel_rfl⟩,by kernel_rfl,by kernel_rfl⟩
noncomputable def Zrm:(Diner×(List Mail))→Option (Diner×(List Mail))
| (x27,x28)=>
 some (x27,x28)
noncomputable def Zsm:((List Mail)×Bool×Diner×Diner×(List Mail))→Option (((List Mail)×Bool×Diner×Diner×(List Mail)) ⊕ (Diner×(List Mail)))
| (x10,x11,x12,x13,x14)=>
 ifb x11 (
 (Z84 40 x14 x10).bind fun x15=>
 (Zpm x13).bind fun x16=>
 some (.inl (x16.2.1,x16.2.2,x13,x16.1,x15))) (
 Option.map Sum.inr (Zrm (x12,x14)))
noncomputable def Ztm (x1:Diner):Option (Diner×(List Mail)):=
 (Zpm x1).bind fun x2=>
 loop Zsm (x2.2.1,x2.2.2,x1,x2.1,([]:List Mail))
set_option maxRecDepth 100000
set_option maxHeartbeats 4000000
@[go_sem] def e110_L0:EC:=.seq (.seq (.reg [(Qm 29 3),(Qf 30 2 1),(Ql 31 30),(Qa 32 (.len (.t 31))),(Qa 33 (.bin .lss (.t 29) (.t 32)))]) (.ite (.t 33) (.skip) (.exit 0))) (.seq (.blk 1 (.seq (.reg [(Qf 36 2 1),(Ql 37 36),(Qm 38 3),(Qk 39 8 37 38),(Qe 40 8 39),(Qa 4 (.alloc 66 [.iv 0,.iv 0,.iv 0,.ff,.ff,.ff,.ff,.ff])),(Qs 8 4 40)]) (.seq (.drw [(Qf 41 0 4),(Ql 42 41),(Qa 43 (.bin .lss (.t 42) (.c (.iv 0)))),(Qm 44 43),(Qh 45 44 false 0 4),(Qn 46 44 false 45),(Qh 47 44 false 0 1),(Qn 48 44 false 47),(Qg 49 44 false (.bin .eql (.t 46) (.t 48))),(Qq 50 44 49),(Qm 51 50),(Qg 52 51 false (.mv (.t 3))),(Qg 53 51 false (.bin .gtr (.t 52) (.c (.iv 0)))),(Qg 54 51 false (.mv (.t 53))),(Qh 55 54 true 2 1),(Qn 56 54 true 55),(Qg 57 54 true (.mv (.t 3))),(Qg 58 54 true (.bin .sub (.t 57) (.c (.iv 1)))),(Qg 59 54 true (.idx 8 (.t 56) (.t 58))),(Qh 60 54 true 0 59),(Qn 61 54 true 60),(Qh 62 54 true 0 4),(Qn 63 54 true 62),(Qg 64 54 true (.bin .geq (.t 61) (.t 63))),(Qg 65 51 false (.pick (.t 54) (.t 64) (.c .ff))),(Qq 66 51 65),(Qm 67 66),(Qh 68 67 false 1 4),(Qn 69 67 false 68),(Qg 70 67 false (.bin .lss (.t 69) (.c (.iv 0)))),(Qq 71 67 70),(Qm 72 71),(Qh 73 72 false 1 4),(Qn 74 72 false 73),(Qg 75 72 false (.bin .gtr (.t 74) (.c (.iv 65535)))),(Qq 76 72 75),(Qm 77 76),(Qh 78 77 false 2 4),(Qn 79 77 false 78),(Qg 80 77 false (.bin .lss (.t 79) (.c (.iv 0)))),(Qq 81 77 80),(Qm 82 81),(Qh 83 82 false 2 4),(Qn 84 82 false 83),(Qg 85 82 false (.bin .gtr (.t 84) (.c (.iv 3)))),(Qq 86 82 85),(Qm 87 86),(Qh 88 87 false 4 4),(Qn 89 87 false 88),(Qg 90 87 false (.mv (.t 89))),(Qh 91 90 true 3 4),(Qn 92 90 true 91),(Qg 93 90 true (.not (.t 92))),(Qg 94 87 false (.pick (.t 90) (.t 93) (.c .ff))),(Qq 95 87 94)] [[],[0],[1],[2],[3],[4,3],[3],[6,3],[5,7,3],[3,8],[9,3],[10],[11,10],[12,10,10],[13],[14,13],[13],[16,13],[15,17,13],[18,13],[19,13],[13],[21,13],[20,22,13],[13,23,10],[10,24],[25,13],[26],[27,26],[28,26],[26,29],[30,26],[31],[32,31],[33,31],[31,34],[35,31],[36],[37,36],[38,36],[36,39],[40,36],[41],[42,41],[43,41],[41,44],[45,41],[46],[47,46],[48,46,46],[49],[50,49],[51,49],[49,52,46],[46,53]] [[1],[0,2],[1,3],[2,4,5,6,7,8,9],[3,5],[3,4,8],[3,7],[3,6,8],[3,5,7,9],[3,8,10],[9,11,12,13,24,25],[10,12],[10,11,13],[10,12,14,15,16,17,18,19,20,21,22,23,24],[13,15],[13,14,18],[13,17],[13,16,18],[13,15,17,19],[13,18,20],[13,19,23],[13,22],[13,21,23],[13,20,22,24],[10,13,23,25],[10,24,26],[25,27,28,29,30],[26,28],[26,27,29],[26,28,30],[26,29,31],[30,32,33,34,35],[31,33],[31,32,34],[31,33,35],[31,34,36],[35,37,38,39,40],[36,38],[36,37,39],[36,38,40],[36,39,41],[40,42,43,44,45],[41,43],[41,42,44],[41,43,45],[41,44,46],[45,47,48,49,53,54],[46,48],[46,47,49],[46,48,50,51,52,53],[49,51],[49,50,52],[49,51,53],[46,49,52,54],[46,53]]) (.ite (.t 95) (.seq (.reg [(Qa 2 (.mv (.c .ff)))]) (.ret)) (.skip))))) (.reg [(Qm 34 3),(Qv 35 34 1),(Qm 3 35)]))
@[go_sem] def e110:EC:=.seq (.reg [(Qx 1 61 3 0),(Qa 2 (.mv (.c .ff)))]) (.seq (.seq (.reg [(Qf 5 0 1),(Ql 6 5),(Qa 7 (.bin .lss (.t 6) (.c (.iv 0)))),(Qm 8 7),(Qh 9 8 false 1 1),(Qn 10 8 false 9),(Qg 11 8 false (.bin .neq (.t 10) (.c (.iv 0)))),(Qg 12 8 false (.mv (.t 11))),(Qh 13 12 true 1 1),(Qn 14 12 true 13),(Qg 15 12 true (.bin .neq (.t 14) (.c (.iv 1)))),(Qg 16 8 false (.pick (.t 12) (.t 15) (.c .ff))),(Qg 17 8 false (.mv (.t 16))),(Qh 18 17 true 1 1),(Qn 19 17 true 18),(Qg 20 17 true (.bin .neq (.t 19) (.c (.iv 2)))),(Qg 21 8 false (.pick (.t 17) (.t 20) (.c .ff))),(Qq 22 8 21),(Qm 23 22),(Qh 24 23 false 2 1),(Qn 25 23 false 24),(Qg 26 23 false (.len (.t 25))),(Qg 27 23 false (.bin .gtr (.t 26) (.c (.iv 63)))),(Qq 28 23 27)]) (.ite (.t 28) (.seq (.reg [(Qa 2 (.mv (.c .ff)))]) (.ret)) (.skip))) (.seq (.seq (.reg [(Qi 3 0)]) (.blk 0 (.loop e110_L0))) (.seq (.reg [(Qa 2 (.mv (.c .tt)))]) (.ret))))
theorem ok110:FnOK Tryz.prog 110 Tryz.f110 e110 [.t 2] 1 95:=⟨by kernel_rfl,⟨_,rfl,by kernel_rfl⟩,by kernel_rfl,by kernel_rfl⟩
noncomputable def Zum:Unit→Option Bool
| ()=>
 some true
noncomputable def Zvm (x7:Int):Bool→Option (Int ⊕ Bool)
| x10=>
 ifb x10 (
 Option.map Sum.inr (some false)) (
 some (.inl (wr (x7+1))))
noncomputable def Zwm (x1:Diner):Int→Option (Int ⊕ Bool)
| x7=>
 ifb (decide (x7<(ln Side.row x1.Sides))) (
 (at_ x1.Sides x7).bind fun x8=>
 ifb (decide (x8.Peer<0)) (
 (Zvm x7) true) (
 ifb (decide (x8.Peer=x1.ID)) (
 (Zvm x7) true) (
 ifb (decide (0<x7)) (
 (at_ x1.Sides (wr (x7-1))).bind fun x9=>
 ifb (decide (x8.Peer≤x9.Peer)) (
 (Zvm x7) true) (
 ifb (decide (x8.Epoch<0)) (
 (Zvm x7) true) (
 ifb (decide (65535<x8.Epoch)) (
 (Zvm x7) true) (
 ifb (decide (x8.State<0)) (
 (Zvm x7) true) (
 ifb (decide (3<x8.State)) (
 (Zvm x7) true) (
 ifb x8.Dirty (
 (Zvm x7) (!x8.Fork)) (
 (Zvm x7) false))))))) (
 ifb (decide (x8.Epoch<0)) (
 (Zvm x7) true) (
 ifb (decide (65535<x8.Epoch)) (
 (Zvm x7) true) (
 ifb (decide (x8.State<0)) (
 (Zvm x7) true) (
 ifb (decide (3<x8.State)) (
 (Zvm x7) true) (
 ifb x8.Dirty (
 (Zvm x7) (!x8.Fork)) (
 (Zvm x7) false))))))))) (
 Option.map Sum.inr (Zum ()))
noncomputable def Zxm (x1:Diner):Bool→Option Bool
| x2=>
 ifb x2 (
 some false) (
 loop (Zwm x1) 0)
noncomputable def Zym (x1:Diner):Option Bool:=
 ifb (decide (x1.ID<0)) (
 (Zxm x1) true) (
 ifb (!decide (x1.Phase=0)) (
 ifb (!decide (x1.Phase=1)) (
 ifb (!decide (x1.Phase=2)) (
 (Zxm x1) true) (
 (Zxm x1) (decide (63<(ln Side.row x1.Sides))))) (
 (Zxm x1) (decide (63<(ln Side.row x1.Sides))))) (
 (Zxm x1) (decide (63<(ln Side.row x1.Sides)))))
theorem Zzm (x1:Diner) (r:Bool) (h:Zym x1=some r):Zp2 Tryz.prog 110 [.agg (Diner.row x1)] (.bv r):=by
 refine Zt2 ok110 rfl rfl fun w0 H0=>?_
 rw [Zym] at h
 refine Zk2 12 ?_;dsimp only [go_sem];refine An ?_;refine Ze4 (fun (x2:Bool)=>(⟨(.any :: .ptr 0 0::an 26 (.bv x2::an 67 [])),[some ⟨61,[.iv x1.ID,.iv x1.Phase,.sl 8 (List.map Side.row x1.Sides)]⟩],[]⟩:St)) (Zxm x1) r ?_ fun J1=>?_
 ·intro x2 h;rw [Zxm] at h;(try dsimp only);refine Zg4 h rfl (fun _ h=>?_) fun _ h=>?_
  ·refine Zk2 4 ?_;dsimp only [go_sem];refine An ?_;exact Zo4 (res:=fun (r:Bool)=>.bv r) ok110 h
  ·refine Zk2 6 ?_;dsimp only [go_sem];refine An ?_;refine Ze4 (fun (_:Unit)=>(⟨(an 96 []),[],[]⟩:St)) Zum r ?_ fun J2=>?_
   ·rintro ⟨⟩ h;rw [Zum] at h;(try dsimp only);refine Zk2 4 ?_;dsimp only [go_sem];refine An ?_;exact Zo4 (res:=fun (r:Bool)=>.bv r) ok110 h
   ·refine Zk2 1 ?_;dsimp only [go_sem];refine An ?_;refine Zf4 h (fun (x7:Int)=>(⟨(.any :: .ptr 0 0 :: .any :: .iv x7::an 92 []),[some ⟨61,[.iv x1.ID,.iv x1.Phase,.sl 8 (List.map Side.row x1.Sides)]⟩],[]⟩:St)) (by simp [go_sem]) (by intro x7;first | rfl | simp [go_sem]) ?_;rintro n1 x7 y1 h hin1 hout1;rw [Zwm] at h;(try dsimp only);refine Zk2 9 ?_;dsimp only [go_sem];refine An ?_;refine Zg4 h rfl (fun _ h=>?_) fun _ h=>?_
    ·refine Zk2 8 ?_;dsimp only [go_sem];refine An ?_;obtain ⟨x8,ex8,h⟩:=Bs h;refine Zj4 Side.row ex8 trivial rfl rfl rfl ?_;refine Zk2 5 ?_;dsimp only [go_sem];refine An ?_;refine Ze4 (fun (x10:Bool)=>(⟨(.any :: .ptr 0 0 :: .any :: .iv x7::an 91 [.bv x10]),[some ⟨61,[.iv x1.ID,.iv x1.Phase,.sl 8 (List.map Side.row x1.Sides)]⟩],[]⟩:St)) (Zvm x7) y1 ?_ fun J3=>?_
     ·intro x10 h;rw [Zvm] at h;(try dsimp only);refine Zg4 h rfl (fun _ h=>?_) fun _ h=>?_
      ·refine Zk2 4 ?_;dsimp only [go_sem];refine An ?_;exact Zo4 (res:=fun (r:Bool)=>.bv r) ok110 (Zd4 h hout1)
      ·refine Zk2 7 ?_;dsimp only [go_sem];refine An ?_;exact Zp4 h hin1
     ·refine Zf3 (by kernel_rfl) fun all hall hs hnap haf=>?_;dsimp only [go_sem];refine Z65 hall hs haf hnap 4 51 [4,51] [(41,[.ptr 1 0,.iv x8.Peer,.bv (decide (x8.Peer<0)),.bv (decide (x8.Peer<0))])] (by kernel_rfl) ?_;dsimp only [go_sem];refine Zx4 44 h rfl (fun _ h=>?_) fun _ h=>?_
      ·dsimp only [go_sem];refine Z65 hall hs haf hnap 51 0 [55] [(45,[.un,.un,.un,.un,.un,.tt,.tt,.un,.un,.un,.un,.un,.un,.un,.un,.un,.un,.un,.un,.un,.un,.tt,.tt,.un,.un,.un,.tt,.tt,.un,.un,.un,.tt,.tt,.un,.un,.un,.tt,.tt,.un,.un,.un,.tt,.tt,.un,.un,.un,.un,.un,.un,.un,.tt])] (by kernel_rfl) ?_;dsimp only [go_sem];refine Zp3 rfl ?_ _;exact Zq4 J3 (s:=true) h
      ·dsimp only [go_sem];refine Z65 hall hs haf hnap 7 44 [11,44] [(45,[.ptr 1 0,.iv x8.Peer,.ptr 0 0,.iv x1.ID,.bv (decide (x8.Peer=x1.ID)),.bv (decide (x8.Peer=x1.ID)),.bv (decide (x8.Peer=x1.ID))])] (by kernel_rfl) ?_;dsimp only [go_sem];refine Zx4 51 h rfl (fun _ h=>?_) fun _ h=>?_
       ·dsimp only [go_sem];refine Z65 hall hs haf hnap 44 0 [55] [(52,[.un,.un,.un,.un,.un,.un,.un,.un,.un,.un,.un,.un,.un,.un,.tt,.tt,.un,.un,.un,.tt,.tt,.un,.un,.un,.tt,.tt,.un,.un,.un,.tt,.tt,.un,.un,.un,.tt,.tt,.un,.un,.un,.un,.un,.un,.un,.tt])] (by kernel_rfl) ?_;dsimp only [go_sem];refine Zp3 rfl ?_ _;exact Zq4 J3 (s:=true) h
       ·dsimp only [go_sem];refine Z65 hall hs haf hnap 3 41 [14,41] [(52,[.iv x7,.bv (decide (0<x7)),.bv (decide (0<x7))])] (by kernel_rfl) ?_;dsimp only [go_sem];refine Zx4 54 h rfl (fun _ h=>?_) fun _ h=>?_
        ·dsimp only [go_sem];refine Z65 hall hs haf hnap 6 35 [18,3,2,32] [(55,[.ptr 0 2,.sl 8 (List.map Side.row x1.Sides),.iv x7,.iv (wr (x7-1))]),(3,[.ptr 1 0,.iv x8.Peer])] (by kernel_rfl) ?_;dsimp only [go_sem];obtain ⟨x9,ex9,h⟩:=Bs h;refine Zk4 hall hs haf hnap 18 Side.row ex9 rfl rfl trivial rfl rfl rfl rfl ?_
         refine Z65 hall hs haf hnap 6 28 [27,28] [(60,[.elt [.iv x9.Peer,.iv x9.Epoch,.iv x9.State,.bv x9.Fork,.bv x9.Dirty,.bv x9.Token,.bv x9.Bottle,.bv x9.Ask] 0,.iv x9.Peer]),(2,[.bv (decide (x8.Peer≤x9.Peer)),.bv (decide (x8.Peer≤x9.Peer)),.bv (decide (x8.Peer≤x9.Peer)),.bv (decide (x8.Peer≤x9.Peer))])] (by kernel_rfl) ?_;dsimp only [go_sem];refine Zx4 67 h rfl (fun _ h=>?_) fun _ h=>?_
         ·dsimp only [go_sem];refine Z65 hall hs haf hnap 28 0 [55] [(68,[.un,.un,.un,.tt,.tt,.un,.un,.un,.tt,.tt,.un,.un,.un,.tt,.tt,.un,.un,.un,.tt,.tt,.un,.un,.un,.un,.un,.un,.un,.tt])] (by kernel_rfl) ?_;dsimp only [go_sem];refine Zp3 rfl ?_ _;exact Zq4 J3 (s:=true) h
         ·dsimp only [go_sem];refine Z65 hall hs haf hnap 5 23 [32,23] [(68,[.ptr 1 1,.iv x8.Epoch,.bv (decide (x8.Epoch<0)),.bv (decide (x8.Epoch<0)),.bv (decide (x8.Epoch<0))])] (by kernel_rfl) ?_;dsimp only [go_sem];refine Zx4 72 h rfl (fun _ h=>?_) fun _ h=>?_
          ·dsimp only [go_sem];refine Z65 hall hs haf hnap 23 0 [55] [(73,[.un,.un,.un,.tt,.tt,.un,.un,.un,.tt,.tt,.un,.un,.un,.tt,.tt,.un,.un,.un,.un,.un,.un,.un,.tt])] (by kernel_rfl) ?_;dsimp only [go_sem];refine Zp3 rfl ?_ _;exact Zq4 J3 (s:=true) h
          ·dsimp only [go_sem];refine Z65 hall hs haf hnap 5 18 [37,18] [(73,[.ptr 1 1,.iv x8.Epoch,.bv (decide (65535<x8.Epoch)),.bv (decide (65535<x8.Epoch)),.bv (decide (65535<x8.Epoch))])] (by kernel_rfl) ?_;dsimp only [go_sem];refine Zx4 77 h rfl (fun _ h=>?_) fun _ h=>?_
           ·dsimp only [go_sem];refine Z65 hall hs haf hnap 18 0 [55] [(78,[.un,.un,.un,.tt,.tt,.un,.un,.un,.tt,.tt,.un,.un,.un,.un,.un,.un,.un,.tt])] (by kernel_rfl) ?_;dsimp only [go_sem];refine Zp3 rfl ?_ _;exact Zq4 J3 (s:=true) h
           ·dsimp only [go_sem];refine Z65 hall hs haf hnap 5 13 [42,13] [(78,[.ptr 1 2,.iv x8.State,.bv (decide (x8.State<0)),.bv (decide (x8.State<0)),.bv (decide (x8.State<0))])] (by kernel_rfl) ?_;dsimp only [go_sem];refine Zx4 82 h rfl (fun _ h=>?_) fun _ h=>?_
            ·dsimp only [go_sem];refine Z65 hall hs haf hnap 13 0 [55] [(83,[.un,.un,.un,.tt,.tt,.un,.un,.un,.un,.un,.un,.un,.tt])] (by kernel_rfl) ?_;dsimp only [go_sem];refine Zp3 rfl ?_ _;exact Zq4 J3 (s:=true) h
            ·dsimp only [go_sem];refine Z65 hall hs haf hnap 5 8 [47,8] [(83,[.ptr 1 2,.iv x8.State,.bv (decide (3<x8.State)),.bv (decide (3<x8.State)),.bv (decide (3<x8.State))])] (by kernel_rfl) ?_;dsimp only [go_sem];refine Zx4 87 h rfl (fun _ h=>?_) fun _ h=>?_
             ·dsimp only [go_sem];refine Z65 hall hs haf hnap 8 0 [55] [(88,[.un,.un,.un,.un,.un,.un,.un,.tt])] (by kernel_rfl) ?_;dsimp only [go_sem];refine Zp3 rfl ?_ _;exact Zq4 J3 (s:=true) h
             ·dsimp only [go_sem];refine Z65 hall hs haf hnap 3 5 [50,5] [(88,[.ptr 1 4,.bv x8.Dirty,.bv x8.Dirty])] (by kernel_rfl) ?_;dsimp only [go_sem];refine Zx4 90 h rfl (fun _ h=>?_) fun _ h=>?_
              ·dsimp only [go_sem];refine Z65 hall hs haf hnap 5 0 [55] [(91,[.ptr 1 3,.bv x8.Fork,.bv (!x8.Fork),.bv (!x8.Fork),.bv (!x8.Fork)])] (by kernel_rfl) ?_;dsimp only [go_sem];refine Zp3 rfl ?_ _;exact Zq4 J3 (s:=!x8.Fork) h
              ·dsimp only [go_sem];refine Z65 hall hs haf hnap 5 0 [55] [(91,[.un,.un,.un,.ff,.ff])] (by kernel_rfl) ?_;dsimp only [go_sem];refine Zp3 rfl ?_ _;exact Zq4 J3 (s:=false) h
        ·dsimp only [go_sem];refine Z65 hall hs haf hnap 18 23 [32,23] [(55,[.un,.un,.un,.un,.un,.un,.un,.un,.un,.un,.ff,.ff,.ff,.ptr 1 1,.iv x8.Epoch,.bv (decide (x8.Epoch<0)),.bv (decide (x8.Epoch<0)),.bv (decide (x8.Epoch<0))])] (by kernel_rfl) ?_;dsimp only [go_sem];refine Zx4 72 h rfl (fun _ h=>?_) fun _ h=>?_
         ·dsimp only [go_sem];refine Z65 hall hs haf hnap 23 0 [55] [(73,[.un,.un,.un,.tt,.tt,.un,.un,.un,.tt,.tt,.un,.un,.un,.tt,.tt,.un,.un,.un,.un,.un,.un,.un,.tt])] (by kernel_rfl) ?_;dsimp only [go_sem];refine Zp3 rfl ?_ _;exact Zq4 J3 (s:=true) h
         ·dsimp only [go_sem];refine Z65 hall hs haf hnap 5 18 [37,18] [(73,[.ptr 1 1,.iv x8.Epoch,.bv (decide (65535<x8.Epoch)),.bv (decide (65535<x8.Epoch)),.bv (decide (65535<x8.Epoch))])] (by kernel_rfl) ?_;dsimp only [go_sem];refine Zx4 77 h rfl (fun _ h=>?_) fun _ h=>?_
          ·dsimp only [go_sem];refine Z65 hall hs haf hnap 18 0 [55] [(78,[.un,.un,.un,.tt,.tt,.un,.un,.un,.tt,.tt,.un,.un,.un,.un,.un,.un,.un,.tt])] (by kernel_rfl) ?_;dsimp only [go_sem];refine Zp3 rfl ?_ _;exact Zq4 J3 (s:=true) h
          ·dsimp only [go_sem];refine Z65 hall hs haf hnap 5 13 [42,13] [(78,[.ptr 1 2,.iv x8.State,.bv (decide (x8.State<0)),.bv (decide (x8.State<0)),.bv (decide (x8.State<0))])] (by kernel_rfl) ?_;dsimp only [go_sem];refine Zx4 82 h rfl (fun _ h=>?_) fun _ h=>?_
           ·dsimp only [go_sem];refine Z65 hall hs haf hnap 13 0 [55] [(83,[.un,.un,.un,.tt,.tt,.un,.un,.un,.un,.un,.un,.un,.tt])] (by kernel_rfl) ?_;dsimp only [go_sem];refine Zp3 rfl ?_ _;exact Zq4 J3 (s:=true) h
           ·dsimp only [go_sem];refine Z65 hall hs haf hnap 5 8 [47,8] [(83,[.ptr 1 2,.iv x8.State,.bv (decide (3<x8.State)),.bv (decide (3<x8.State)),.bv (decide (3<x8.State))])] (by kernel_rfl) ?_;dsimp only [go_sem];refine Zx4 87 h rfl (fun _ h=>?_) fun _ h=>?_
            ·dsimp only [go_sem];refine Z65 hall hs haf hnap 8 0 [55] [(88,[.un,.un,.un,.un,.un,.un,.un,.tt])] (by kernel_rfl) ?_;dsimp only [go_sem];refine Zp3 rfl ?_ _;exact Zq4 J3 (s:=true) h
            ·dsimp only [go_sem];refine Z65 hall hs haf hnap 3 5 [50,5] [(88,[.ptr 1 4,.bv x8.Dirty,.bv x8.Dirty])] (by kernel_rfl) ?_;dsimp only [go_sem];refine Zx4 90 h rfl (fun _ h=>?_) fun _ h=>?_
             ·dsimp only [go_sem];refine Z65 hall hs haf hnap 5 0 [55] [(91,[.ptr 1 3,.bv x8.Fork,.bv (!x8.Fork),.bv (!x8.Fork),.bv (!x8.Fork)])] (by kernel_rfl) ?_;dsimp only [go_sem];refine Zp3 rfl ?_ _;exact Zq4 J3 (s:=!x8.Fork) h
             ·dsimp only [go_sem];refine Z65 hall hs haf hnap 5 0 [55] [(91,[.un,.un,.un,.ff,.ff])] (by kernel_rfl) ?_;dsimp only [go_sem];refine Zp3 rfl ?_ _;exact Zq4 J3 (s:=false) h
    ·refine Zk2 1 ?_;dsimp only [go_sem];refine An ?_;exact Zq4 J2 (s:=()) (Zd4 h hout1)
 ·refine Zn4 8 h rfl (fun _ h=>?_) fun _ h=>?_
  ·dsimp only [go_sem];refine Zk2 21 ?_;dsimp only [go_sem];refine An ?_;exact Zq4 J1 (s:=true) h
  ·dsimp only [go_sem];refine Zk2 4 ?_;dsimp only [go_sem];refine An ?_;refine Zn4 12 h rfl (fun _ h=>?_) fun _ h=>?_
   ·dsimp only [go_sem];refine Zk2 5 ?_;dsimp only [go_sem];refine An ?_;refine Zn4 17 h rfl (fun _ h=>?_) fun _ h=>?_
    ·dsimp only [go_sem];refine Zk2 6 ?_;dsimp only [go_sem];refine An ?_;refine Zn4 23 h rfl (fun _ h=>?_) fun _ h=>?_
     ·dsimp only [go_sem];refine Zk2 6 ?_;dsimp only [go_sem];refine An ?_;exact Zq4 J1 (s:=true) h
     ·dsimp only [go_sem];refine Zk2 6 ?_;dsimp only [go_sem];refine An ?_;exact Zq4 J1 (s:=decide (63<(ln Side.row x1.Sides))) h
    ·dsimp only [go_sem];refine Zk2 12 ?_;dsimp only [go_sem];refine An ?_;exact Zq4 J1 (s:=decide (63<(ln Side.row x1.Sides))) h
   ·dsimp only [go_sem];refine Zk2 17 ?_;dsimp only [go_sem];refine An ?_;exact Zq4 J1 (s:=decide (63<(ln Side.row x1.Sides))) h
set_option maxRecDepth 100000
set_option maxHeartbeats 4000000
@[go_sem] def e96_L0:EC:=.seq (.seq (.reg [(Qm 14 8),(Qf 15 2 3),(Ql 16 15),(Qa 17 (.len (.t 16))),(Qa 18 (.bin .lss (.t 14) (.t 17)))]) (.ite (.t 18) (.skip) (.exit 0))) (.seq (.blk 1 (.seq (.reg [(Qf 21 2 3),(Ql 22 21),(Qm 23 8),(Qk 24 8 22 23),(Qe 25 8 24),(Qa 9 (.alloc 66 [.iv 0,.iv 0,.iv 0,.ff,.ff,.ff,.ff,.ff])),(Qs 8 9 25)]) (.seq (.seq (.reg [(Qf 26 0 9),(Ql 27 26),(Qm 28 1),(Qa 29 (.bin .neq (.t 27) (.t 28))),(Qm 30 29),(Qh 31 30 false 1 9),(Qn 32 30 false 31),(Qh 33 30 false 1 5),(Qn 34 30 false 33),(Qg 35 30 false (.bin .neq (.t 32) (.t 34))),(Qq 36 30 35)]) (.ite (.t 36) (.exit 1) (.skip))) (.seq (.seq (.reg [(Qf 37 2 5),(Ql 38 37),(Qa 39 (.bin .neq (.t 38) (.c (.iv 0)))),(Qm 40 39),(Qh 41 40 false 0 5),(Qn 42 40 false 41),(Qg 43 40 false (.bin .neq (.t 42) (.c (.iv 1)))),(Qg 44 40 false (.mv (.t 43))),(Qh 45 44 true 0 5),(Qn 46 44 true 45),(Qg 47 44 true (.bin .neq (.t 46) (.c (.iv 2)))),(Qg 48 40 false (.pick (.t 44) (.t 47) (.c .ff))),(Qq 49 40 48)]) (.ite (.t 49) (.seq (.reg [(Qa 50 (.build [.iv 0,.iv 0,.nl] [])),(Qs 3 6 50),(Qi 7 133)]) (.ret)) (.skip))) (.seq (.seq (.reg [(Qf 51 0 5),(Ql 52 51),(Qa 53 (.bin .eql (.t 52) (.c (.iv 1)))),(Qm 54 53),(Qh 55 54 true 3 9),(Qn 56 54 true 55),(Qp 57 54 56),(Qm 58 57),(Qh 59 58 false 0 5),(Qn 60 58 false 59),(Qg 61 58 false (.bin .eql (.t 60) (.c (.iv 2)))),(Qg 62 58 false (.mv (.t 61))),(Qh 63 62 true 5 9),(Qn 64 62 true 63),(Qg 65 58 false (.pick (.t 62) (.t 64) (.c .ff))),(Qq 66 58 65)]) (.ite (.t 66) (.seq (.reg [(Qa 67 (.build [.iv 0,.iv 0,.nl] [])),(Qs 3 6 67),(Qi 7 132)]) (.ret)) (.skip))) (.seq (.seq (.reg [(Qf 68 0 5),(Ql 69 68),(Qa 70 (.bin .eql (.t 69) (.c (.iv 1))))]) (.ite (.t 70) (.reg [(Qf 71 3 9),(Qb (.store 1 (.t 71) (.c .tt)))]) (.reg [(Qf 72 5 9),(Qb (.store 1 (.t 72) (.c .tt)))]))) (.seq (.reg [(Qe 73 3 3),(Qm 74 8),(Qe 75 8 9),(Qa 76 (.call 95 [(.t 73),(.t 74),(.t 75)])),(Qs 3 6 76),(Qi 7 0)]) (.ret)))))))) (.reg [(Qm 19 8),(Qv 20 19 1),(Qm 8 20)]))
@[go_sem] def e96:EC:=.seq (.reg [(Qx 3 61 3 0),(Qx 5 93 3 2),(Qa 6 (.alloc 61 [.iv 0,.iv 0,.nl])),(Qi 7 0)]) (.seq (.seq (.reg [(Qe 10 3 3),(Qa 11 (.call 110 [(.t 10)])),(Qa 12 (.not (.t 11)))]) (.ite (.t 12) (.seq (.reg [(Qa 13 (.build [.iv 0,.iv 0,.nl] [])),(Qs 3 6 13),(Qi 7 130)]) (.ret)) (.skip))) (.seq (.seq (.reg [(Qi 8 0)]) (.blk 0 (.loop e96_L0))) (.seq (.reg [(Qa 77 (.build [.iv 0,.iv 0,.nl] [])),(Qs 3 6 77),(Qi 7 131)]) (.ret))))
theorem ok96:FnOK Tryz.prog 96 Tryz.f96 e96 [.c 6 (some 3),.t 7] 3 75:=⟨by kernel_rfl,⟨_,rfl,by kernel_rfl⟩,by kernel_rfl,by kernel_rfl⟩
noncomputable def Z0n:Unit→Option (Diner×Int)
| ()=>
 some ((Diner.mk 0 0 (([]:(List Side)))),131)
noncomputable def Z1n (x12:Int):Unit→Option (Int ⊕ (Diner×Int))
| ()=>
 some (.inl (wr (x12+1)))
noncomputable def Z2n (x1:Diner) (x12:Int):Side→Option (Int ⊕ (Diner×Int))
| x17=>
 (Zbm x1 x12 x17).bind fun x18=>
 Option.map Sum.inr (some (x18,0))
noncomputable def Z3n (x1:Diner) (x3:Msg) (x12:Int) (x13:Side):Bool→Option (Int ⊕ (Diner×Int))
| x16=>
 ifb x16 (
 Option.map Sum.inr (some ((Diner.mk 0 0 (([]:(List Side)))),132))) (
 ifb (decide (x3.Kind=1)) (
 (Z2n x1 x12) ((Side.mk x13.Peer x13.Epoch x13.State true x13.Dirty x13.Token x13.Bottle x13.Ask))) (
 (Z2n x1 x12) ((Side.mk x13.Peer x13.Epoch x13.State x13.Fork x13.Dirty true x13.Bottle x13.Ask))))
noncomputable def Z4n (x1:Diner) (x3:Msg) (x12:Int) (x13:Side):Bool→Option (Int ⊕ (Diner×Int))
| x15=>
 ifb x15 (
 Option.map Sum.inr (some ((Diner.mk 0 0 (([]:(List Side)))),133))) (
 ifb (decide (x3.Kind=1)) (
 ifb x13.Fork (
 (Z3n x1 x3 x12 x13) true) (
 ifb (decide (x3.Kind=2)) (
 (Z3n x1 x3 x12 x13) x13.Token) (
 (Z3n x1 x3 x12 x13) false))) (
 ifb (decide (x3.Kind=2)) (
 (Z3n x1 x3 x12 x13) x13.Token) (
 (Z3n x1 x3 x12 x13) false)))
noncomputable def Z5n (x1:Diner) (x3:Msg) (x12:Int) (x13:Side):Bool→Option (Int ⊕ (Diner×Int))
| x14=>
 ifb x14 (
 (Z1n x12) ()) (
 ifb (!decide (x3.Num=0)) (
 (Z4n x1 x3 x12 x13) true) (
 ifb (!decide (x3.Kind=1)) (
 (Z4n x1 x3 x12 x13) (!decide (x3.Kind=2))) (
 (Z4n x1 x3 x12 x13) false)))
noncomputable def Z6n (x1:Diner) (x2:Int) (x3:Msg):Int→Option (Int ⊕ (Diner×Int))
| x12=>
 ifb (decide (x12<(ln Side.row x1.Sides))) (
 (at_ x1.Sides x12).bind fun x13=>
 ifb (!decide (x13.Peer=x2)) (
 (Z5n x1 x3 x12 x13) true) (
 (Z5n x1 x3 x12 x13) (!decide (x13.Epoch=x3.Epoch)))) (
 Option.map Sum.inr (Z0n ()))
noncomputable def Z7n (x1:Diner) (x2:Int) (x3:Msg):Option (Diner×Int):=
 (Zym x1).bind fun x4=>
 ifb (!x4) (
 some ((Diner.mk 0 0 (([]:(List Side)))),130)) (
 loop (Z6n x1 x2 x3) 0)
theorem Z8n (x1:Diner) (x2:Int) (x3:Msg) (r:(Diner×Int)) (h:Z7n x1 x2 x3=some r):Zp2 Tryz.prog 96 [.agg (Diner.row x1),.iv x2,.agg (Msg.row x3)] (.tup [.agg (Diner.row r.1),.iv r.2]):=by
 refine Zt2 ok96 rfl rfl fun w0 H0=>?_
 rw [Z7n] at h
 refine Zk2 11 ?_;dsimp only [go_sem];refine An ?_;obtain ⟨x4,ex4,h⟩:=Bs h;refine Zy2 trivial (Zzm x1 _ ex4) (h:=?_);refine Zk2 2 ?_;dsimp only [go_sem];refine An ?_;refine Zg4 h rfl (fun _ h=>?_) fun _ h=>?_
 ·refine Zk2 6 ?_;dsimp only [go_sem];refine An ?_;exact Zo4 (res:=fun (r:(Diner×Int))=>.tup [.agg (Diner.row r.1),.iv r.2]) ok96 h
 ·refine Zk2 6 ?_;dsimp only [go_sem];refine An ?_;refine Ze4 (fun (_:Unit)=>(⟨(an 6 (.ptr 2 0::an 71 [])),[none,none,some ⟨61,[.iv 0,.iv 0,.nl]⟩],[]⟩:St)) Z0n r ?_ fun J1=>?_
  ·rintro ⟨⟩ h;rw [Z0n] at h;(try dsimp only);refine Zk2 6 ?_;dsimp only [go_sem];refine An ?_;exact Zo4 (res:=fun (r:(Diner×Int))=>.tup [.agg (Diner.row r.1),.iv r.2]) ok96 h
  ·refine Zk2 1 ?_;dsimp only [go_sem];refine An ?_;refine Zf4 h (fun (x12:Int)=>(⟨(.any :: .iv x2 :: .any :: .ptr 0 0 :: .any :: .ptr 1 0 :: .ptr 2 0 :: .any :: .iv x12::an 69 []),[some ⟨61,[.iv x1.ID,.iv x1.Phase,.sl 8 (List.map Side.row x1.Sides)]⟩,some ⟨93,[.iv x3.Kind,.iv x3.Epoch,.iv x3.Num]⟩,some ⟨61,[.iv 0,.iv 0,.nl]⟩],[]⟩:St)) (by simp [go_sem]) (by intro x12;first | rfl | simp [go_sem]) ?_;rintro n1 x12 y1 h hin1 hout1;rw [Z6n] at h;(try dsimp only);refine Zk2 9 ?_;dsimp only [go_sem];refine An ?_
   refine Zg4 h rfl (fun _ h=>?_) fun _ h=>?_
   ·refine Zk2 2 ?_;dsimp only [go_sem];refine An ?_;refine Ze4 (fun (_:Unit)=>(⟨(.any :: .iv x2 :: .any :: .ptr 0 0 :: .any :: .ptr 1 0 :: .ptr 2 0 :: .any :: .iv x12::an 69 []),[some ⟨61,[.iv x1.ID,.iv x1.Phase,.sl 8 (List.map Side.row x1.Sides)]⟩,some ⟨93,[.iv x3.Kind,.iv x3.Epoch,.iv x3.Num]⟩,some ⟨61,[.iv 0,.iv 0,.nl]⟩],[]⟩:St)) (Z1n x12) y1 ?_ fun J2=>?_
    ·rintro ⟨⟩ h;rw [Z1n] at h;(try dsimp only);refine Zk2 5 ?_;dsimp only [go_sem];refine An ?_;exact Zp4 h hin1
    ·refine Zk2 6 ?_;dsimp only [go_sem];refine An ?_;obtain ⟨x13,ex13,h⟩:=Bs h;refine Zj4 Side.row ex13 trivial rfl rfl rfl ?_;refine Zk2 12 ?_;dsimp only [go_sem];refine An ?_
     refine Ze4 (fun (x14:Bool)=>(⟨(.any :: .iv x2 :: .any :: .ptr 0 0 :: .any :: .ptr 1 0 :: .ptr 2 0 :: .any :: .iv x12 :: .ptr 3 0::an 26 (.bv x14::an 41 [])),[some ⟨61,[.iv x1.ID,.iv x1.Phase,.sl 8 (List.map Side.row x1.Sides)]⟩,some ⟨93,[.iv x3.Kind,.iv x3.Epoch,.iv x3.Num]⟩,some ⟨61,[.iv 0,.iv 0,.nl]⟩,some ⟨66,[.iv x13.Peer,.iv x13.Epoch,.iv x13.State,.bv x13.Fork,.bv x13.Dirty,.bv x13.Token,.bv x13.Bottle,.bv x13.Ask]⟩],[]⟩:St)) (Z5n x1 x3 x12 x13) y1 ?_ fun J3=>?_
     ·intro x14 h;rw [Z5n] at h;(try dsimp only);refine Zg4 h rfl (fun _ h=>?_) fun _ h=>?_
      ·refine Zk2 1 ?_;dsimp only [go_sem];refine An ?_;exact Zq4 J2 (s:=()) h
      ·refine Zk2 8 ?_;dsimp only [go_sem];refine An ?_;refine Ze4 (fun (x15:Bool)=>(⟨(an 3 (.ptr 0 0 :: .any :: .ptr 1 0 :: .ptr 2 0 :: .any :: .iv x12 :: .ptr 3 0::an 39 (.bv x15::an 28 []))),[some ⟨61,[.iv x1.ID,.iv x1.Phase,.sl 8 (List.map Side.row x1.Sides)]⟩,some ⟨93,[.iv x3.Kind,.iv x3.Epoch,.iv x3.Num]⟩,some ⟨61,[.iv 0,.iv 0,.nl]⟩,some ⟨66,[.iv x13.Peer,.iv x13.Epoch,.iv x13.State,.bv x13.Fork,.bv x13.Dirty,.bv x13.Token,.bv x13.Bottle,.bv x13.Ask]⟩],[]⟩:St)) (Z4n x1 x3 x12 x13) y1 ?_ fun J4=>?_
       ·intro x15 h;rw [Z4n] at h;(try dsimp only);refine Zg4 h rfl (fun _ h=>?_) fun _ h=>?_
        ·refine Zk2 6 ?_;dsimp only [go_sem];refine An ?_;exact Zo4 (res:=fun (r:(Diner×Int))=>.tup [.agg (Diner.row r.1),.iv r.2]) ok96 (Zd4 h hout1)
        ·refine Zk2 8 ?_;dsimp only [go_sem];refine An ?_;refine Ze4 (fun (x16:Bool)=>(⟨(an 3 (.ptr 0 0 :: .any :: .ptr 1 0 :: .ptr 2 0 :: .any :: .iv x12 :: .ptr 3 0::an 56 (.bv x16::an 11 []))),[some ⟨61,[.iv x1.ID,.iv x1.Phase,.sl 8 (List.map Side.row x1.Sides)]⟩,some ⟨93,[.iv x3.Kind,.iv x3.Epoch,.iv x3.Num]⟩,some ⟨61,[.iv 0,.iv 0,.nl]⟩,some ⟨66,[.iv x13.Peer,.iv x13.Epoch,.iv x13.State,.bv x13.Fork,.bv x13.Dirty,.bv x13.Token,.bv x13.Bottle,.bv x13.Ask]⟩],[]⟩:St)) (Z3n x1 x3 x12 x13) y1 ?_ fun J5=>?_
         ·intro x16 h;rw [Z3n] at h;(try dsimp only);refine Zg4 h rfl (fun _ h=>?_) fun _ h=>?_
          ·refine Zk2 6 ?_;dsimp only [go_sem];refine An ?_;exact Zo4 (res:=fun (r:(Diner×Int))=>.tup [.agg (Diner.row r.1),.iv r.2]) ok96 (Zd4 h hout1)
          ·refine Zk2 8 ?_;dsimp only [go_sem];refine An ?_;refine Ze4 (fun (x17:Side)=>(⟨(an 3 (.ptr 0 0 :: .any :: .any :: .ptr 2 0 :: .any :: .iv x12 :: .ptr 3 0::an 68 [])),[some ⟨61,[.iv x1.ID,.iv x1.Phase,.sl 8 (List.map Side.row x1.Sides)]⟩,none,some ⟨61,[.iv 0,.iv 0,.nl]⟩,some ⟨66,[.iv x17.Peer,.iv x17.Epoch,.iv x17.State,.bv x17.Fork,.bv x17.Dirty,.bv x17.Token,.bv x17.Bottle,.bv x17.Ask]⟩],[]⟩:St)) (Z2n x1 x12) y1 ?_ fun J6=>?_
           ·intro x17 h;rw [Z2n] at h;(try dsimp only);refine Zk2 5 ?_;dsimp only [go_sem];refine An ?_;obtain ⟨x18,ex18,h⟩:=Bs h;refine Zy2 trivial (Zcm x1 x12 x17 _ ex18) (h:=?_);refine Zk2 3 ?_;dsimp only [go_sem];refine An ?_;exact Zo4 (res:=fun (r:(Diner×Int))=>.tup [.agg (Diner.row r.1),.iv r.2]) ok96 (Zd4 h hout1)
           ·refine Zg4 h rfl (fun _ h=>?_) fun _ h=>?_
            ·refine Zk2 4 ?_;dsimp only [go_sem];refine An ?_;exact Zq4 J6 (s:=(Side.mk x13.Peer x13.Epoch x13.State true x13.Dirty x13.Token x13.Bottle x13.Ask)) h
            ·refine Zk2 4 ?_;dsimp only [go_sem];refine An ?_;exact Zq4 J6 (s:=(Side.mk x13.Peer x13.Epoch x13.State x13.Fork x13.Dirty true x13.Bottle x13.Ask)) h
         ·refine Zn4 54 h rfl (fun _ h=>?_) fun _ h=>?_
          ·dsimp only [go_sem];refine Zk2 4 ?_;dsimp only [go_sem];refine An ?_;refine Zn4 58 h rfl (fun _ h=>?_) fun _ h=>?_
           ·dsimp only [go_sem];refine Zk2 9 ?_;dsimp only [go_sem];refine An ?_;exact Zq4 J5 (s:=true) h
           ·dsimp only [go_sem];refine Zk2 4 ?_;dsimp only [go_sem];refine An ?_;refine Zn4 62 h rfl (fun _ h=>?_) fun _ h=>?_
            ·dsimp only [go_sem];refine Zk2 5 ?_;dsimp only [go_sem];refine An ?_;exact Zq4 J5 (s:=x13.Token) h
            ·dsimp only [go_sem];refine Zk2 5 ?_;dsimp only [go_sem];refine An ?_;exact Zq4 J5 (s:=false) h
          ·dsimp only [go_sem];refine Zk2 8 ?_;dsimp only [go_sem];refine An ?_;refine Zn4 62 h rfl (fun _ h=>?_) fun _ h=>?_
           ·dsimp only [go_sem];refine Zk2 5 ?_;dsimp only [go_sem];refine An ?_;exact Zq4 J5 (s:=x13.Token) h
           ·dsimp only [go_sem];refine Zk2 5 ?_;dsimp only [go_sem];refine An ?_;exact Zq4 J5 (s:=false) h
       ·refine Zn4 40 h rfl (fun _ h=>?_) fun _ h=>?_
        ·dsimp only [go_sem];refine Zk2 10 ?_;dsimp only [go_sem];refine An ?_;exact Zq4 J4 (s:=true) h
        ·dsimp only [go_sem];refine Zk2 4 ?_;dsimp only [go_sem];refine An ?_;refine Zn4 44 h rfl (fun _ h=>?_) fun _ h=>?_
         ·dsimp only [go_sem];refine Zk2 6 ?_;dsimp only [go_sem];refine An ?_;exact Zq4 J4 (s:=!decide (x3.Kind=2)) h
         ·dsimp only [go_sem];refine Zk2 6 ?_;dsimp only [go_sem];refine An ?_;exact Zq4 J4 (s:=false) h
     ·refine Zn4 30 h rfl (fun _ h=>?_) fun _ h=>?_
      ·dsimp only [go_sem];refine Zk2 7 ?_;dsimp only [go_sem];refine An ?_;exact Zq4 J3 (s:=true) h
      ·dsimp only [go_sem];refine Zk2 7 ?_;dsimp only [go_sem];refine An ?_;exact Zq4 J3 (s:=!decide (x13.Epoch=x3.Epoch)) h
   ·refine Zk2 1 ?_;dsimp only [go_sem];refine An ?_;exact Zq4 J1 (s:=()) (Zd4 h hout1)
set_option maxRecDepth 100000
set_option maxHeartbeats 4000000
@[go_sem] def e112:EC:=.seq (.reg [(Qx 2 48 2 0),(Qa 4 (.mv (.c .ff)))]) (.seq (.reg [(Qm 5 1),(Qa 6 (.bin .geq (.t 5) (.c (.iv 0)))),(Qm 7 6),(Qg 8 7 true (.mv (.t 1))),(Qh 9 7 true 0 2),(Qn 10 7 true 9),(Qg 11 7 true (.len (.t 10))),(Qg 12 7 true (.bin .lss (.t 8) (.t 11))),(Qp 13 7 12),(Qm 4 13)]) (.ret))
theorem ok112:FnOK Tryz.prog 112 Tryz.f112 e112 [.t 4] 2 12:=⟨by kernel_rfl,⟨_,rfl,by kernel_rfl⟩,by kernel_rfl,by kernel_rfl⟩
noncomputable def Z9n:Bool→Option Bool
| x3=>
 some x3
noncomputable def Zan (x1:Scene) (x2:Int):Option Bool:=
 ifb (decide (0≤x2)) (
 Z9n (decide (x2<(ln Diner.row x1.Diners)))) (
 Z9n false)
theorem Zbn (x1:Scene) (x2:Int) (r:Bool) (h:Zan x1 x2=some r):Zp2 Tryz.prog 112 [.agg (Scene.row x1),.iv x2] (.bv r):=by
 refine Zt2 ok112 rfl rfl fun w0 H0=>?_
 rw [Zan] at h
 refine Zk2 10 ?_;dsimp only [go_sem];refine An ?_;refine Ze4 (fun (x3:Bool)=>(⟨(an 4 (.bv x3::an 9 [])),[],[]⟩:St)) Z9n r ?_ fun J1=>?_
 ·intro x3 h;rw [Z9n] at h;(try dsimp only);exact Zo4 (res:=fun (r:Bool)=>.bv r) ok112 h
 ·refine Zn4 7 h rfl (fun _ h=>?_) fun _ h=>?_
  ·dsimp only [go_sem];refine Zk2 8 ?_;dsimp only [go_sem];refine An ?_;exact Zq4 J1 (s:=decide (x2<(ln Diner.row x1.Diners))) h
  ·dsimp only [go_sem];refine Zk2 8 ?_;dsimp only [go_sem];refine An ?_;exact Zq4 J1 (s:=false) h
set_option maxRecDepth 100000
set_option maxHeartbeats 4000000
@[go_sem] def e62_L1:EC:=.seq (.seq (.reg [(Qm 30 6),(Qf 31 1 1),(Ql 32 31),(Qa 33 (.len (.t 32))),(Qa 34 (.bin .lss (.t 30) (.t 33)))]) (.ite (.t 34) (.skip) (.exit 2))) (.seq (.blk 3 (.seq (.reg [(Qf 37 1 1),(Ql 38 37),(Qm 39 6),(Qk 40 5 38 39),(Qe 41 5 40),(Qa 7 (.alloc 95 [.iv 0,.iv 0,.iv 0,.iv 0,.iv 0])),(Qs 5 7 41)]) (.reg [(Qm 42 4),(Qm 43 42),(Qg 44 43 true (.loadA 2 (.t 1))),(Qh 45 43 true 0 7),(Qn 46 43 true 45),(Qg 47 43 true (.call 112 [(.t 44),(.t 46)])),(Qp 48 43 47),(Qm 49 48),(Qg 50 49 true (.loadA 2 (.t 1))),(Qh 51 49 true 1 7),(Qn 52 49 true 51),(Qg 53 49 true (.call 112 [(.t 50),(.t 52)])),(Qp 54 49 53),(Qm 55 54),(Qh 56 55 true 0 7),(Qn 57 55 true 56),(Qh 58 55 true 1 7),(Qn 59 55 true 58),(Qg 60 55 true (.bin .neq (.t 57) (.t 59))),(Qp 61 55 60),(Qm 4 61)]))) (.reg [(Qm 35 6),(Qv 36 35 1),(Qm 6 36)]))
@[go_sem] def e62_L0:EC:=.seq (.seq (.reg [(Qm 14 5),(Qf 15 0 1),(Ql 16 15),(Qa 17 (.len (.t 16))),(Qa 18 (.bin .lss (.t 14) (.t 17)))]) (.ite (.t 18) (.skip) (.exit 0))) (.seq (.blk 1 (.reg [(Qm 21 4),(Qm 22 21),(Qh 23 22 true 0 1),(Qn 24 22 true 23),(Qg 25 22 true (.mv (.t 5))),(Qg 26 22 true (.idx 3 (.t 24) (.t 25))),(Qg 27 22 true (.loadA 3 (.t 26))),(Qg 28 22 true (.call 110 [(.t 27)])),(Qp 29 22 28),(Qm 4 29)])) (.reg [(Qm 19 5),(Qv 20 19 1),(Qm 5 20)]))
@[go_sem] def e62:EC:=.seq (.reg [(Qx 1 48 2 0),(Qa 2 (.mv (.c .ff)))]) (.seq (.reg [(Qf 9 0 1),(Ql 10 9),(Qa 11 (.call 111 [(.t 10)])),(Qm 8 11),(Qa 12 (.ext (.t 8) 0)),(Qa 13 (.ext (.t 8) 1)),(Qa 3 (.alloc 53 [.iv 0,.nl])),(Qs 2 3 12),(Qm 4 13)]) (.seq (.seq (.reg [(Qi 5 0)]) (.blk 0 (.loop e62_L0))) (.seq (.seq (.reg [(Qi 6 0)]) (.blk 2 (.loop e62_L1))) (.seq (.reg [(Qm 62 4),(Qm 2 62)]) (.ret)))))
theorem ok62:FnOK Tryz.prog 62 Tryz.f62 e62 [.t 2] 1 62:=⟨by kernel_rfl,⟨_,rfl,by kernel_rfl⟩,by kernel_rfl,by kernel_rfl⟩
noncomputable def Zcn:Bool→Option Bool
| x36=>
 some x36
noncomputable def Zdn (x26:Int):Bool→Option ((Bool×Int) ⊕ Bool)
| x30=>
 some (.inl (x30,wr (x26+1)))
noncomputable def Zen (x1:Scene):(Bool×Int)→Option ((Bool×Int) ⊕ Bool)
| (x25,x26)=>
 ifb (decide (x26<(ln Mail.row x1.Mail))) (
 (at_ x1.Mail x26).bind fun x27=>
 ifb x25 (
 (Zan x1 x27.From).bind fun x28=>
 ifb x28 (
 (Zan x1 x27.To).bind fun x29=>
 ifb x29 (
 (Zdn x26) (!decide (x27.From=x27.To))) (
 (Zdn x26) false)) (
 (Zdn x26) false)) (
 (Zdn x26) false)) (
 Option.map Sum.inr (Zcn x25))
noncomputable def Zfn (x1:Scene):Bool→Option Bool
| x18=>
 loop (Zen x1) (x18,0)
noncomputable def Zgn (x9:Int):Bool→Option ((Bool×Int) ⊕ Bool)
| x12=>
 some (.inl (x12,wr (x9+1)))
noncomputable def Zhn (x1:Scene):(Bool×Int)→Option ((Bool×Int) ⊕ Bool)
| (x8,x9)=>
 ifb (decide (x9<(ln Diner.row x1.Diners))) (
 ifb x8 (
 (at_ x1.Diners x9).bind fun x10=>
 (Zym x10).bind fun x11=>
 (Zgn x9) x11) (
 (Zgn x9) false)) (
 Option.map Sum.inr ((Zfn x1) x8))
noncomputable def Zin (x1:Scene):Option Bool:=
 (Z9m x1.Diners).bind fun x2=>
 loop (Zhn x1) (x2.2,0)
theorem Zjn (x1:Scene) (r:Bool) (h:Zin x1=some r):Zp2 Tryz.prog 62 [.agg (Scene.row x1)] (.bv r):=by
 refine Zt2 ok62 rfl rfl fun w0 H0=>?_
 rw [Zin] at h
 refine Zk2 9 ?_;dsimp only [go_sem];refine An ?_;obtain ⟨x2,ex2,h⟩:=Bs h;refine Zy2 trivial (Zam x1.Diners _ ex2) (h:=?_);refine Zk2 12 ?_;dsimp only [go_sem];refine An ?_;refine Ze4 (fun (x18:Bool)=>(⟨(.any :: .ptr 0 0 :: .any :: .any :: .bv x18::an 58 []),[some ⟨48,[.sl 3 (List.map Diner.row x1.Diners),.sl 5 (List.map Mail.row x1.Mail)]⟩],[]⟩:St)) (Zfn x1) r ?_ fun J1=>?_
 ·intro x18 h;rw [Zfn] at h;(try dsimp only);refine Zk2 5 ?_;dsimp only [go_sem];refine An ?_;refine Ze4 (fun (x36:Bool)=>(⟨(an 4 (.bv x36::an 58 [])),[],[]⟩:St)) Zcn r ?_ fun J3=>?_
  ·intro x36 h;rw [Zcn] at h;(try dsimp only);refine Zk2 5 ?_;dsimp only [go_sem];refine An ?_;exact Zo4 (res:=fun (r:Bool)=>.bv r) ok62 h
  ·refine Zk2 1 ?_;dsimp only [go_sem];refine An ?_;refine Zf4 h (fun ((x25,x26):(Bool×Int))=>(⟨(.any :: .ptr 0 0 :: .any :: .any :: .bv x25 :: .any :: .iv x26::an 56 []),[some ⟨48,[.sl 3 (List.map Diner.row x1.Diners),.sl 5 (List.map Mail.row x1.Mail)]⟩],[]⟩:St)) (by simp [go_sem]) (by rintro ⟨x25,x26⟩;first | rfl | simp [go_sem]) ?_;rintro n1 ⟨x25,x26⟩ y1 h hin1 hout1;rw [Zen] at h;(try dsimp only);refine Zk2 9 ?_;dsimp only [go_sem];refine An ?_;refine Zg4 h rfl (fun _ h=>?_) fun _ h=>?_
   ·refine Zk2 8 ?_;dsimp only [go_sem];refine An ?_;obtain ⟨x27,ex27,h⟩:=Bs h;refine Zj4 Mail.row ex27 trivial rfl rfl rfl ?_;refine Zk2 7 ?_;dsimp only [go_sem];refine An ?_;refine Ze4 (fun (x30:Bool)=>(⟨(.any :: .ptr 0 0 :: .any :: .any :: .bv x30 :: .any :: .iv x26::an 56 []),[some ⟨48,[.sl 3 (List.map Diner.row x1.Diners),.sl 5 (List.map Mail.row x1.Mail)]⟩],[]⟩:St)) (Zdn x26) y1 ?_ fun J4=>?_
    ·intro x30 h;rw [Zdn] at h;(try dsimp only);refine Zk2 6 ?_;dsimp only [go_sem];refine An ?_;exact Zp4 h hin1
    ·refine Zn4 43 h rfl (fun _ h=>?_) fun _ h=>?_
     ·dsimp only [go_sem];refine Zk2 3 ?_;dsimp only [go_sem];refine An ?_;obtain ⟨x28,ex28,h⟩:=Bs h;refine Zy2 trivial (Zbn x1 x27.From _ ex28) (h:=?_);refine Zk2 2 ?_;dsimp only [go_sem];refine An ?_;refine Zn4 49 h rfl (fun _ h=>?_) fun _ h=>?_
      ·dsimp only [go_sem];refine Zk2 3 ?_;dsimp only [go_sem];refine An ?_;obtain ⟨x29,ex29,h⟩:=Bs h;refine Zy2 trivial (Zbn x1 x27.To _ ex29) (h:=?_);refine Zk2 2 ?_;dsimp only [go_sem];refine An ?_;refine Zn4 55 h rfl (fun _ h=>?_) fun _ h=>?_
       ·dsimp only [go_sem];refine Zk2 8 ?_;dsimp only [go_sem];refine An ?_;exact Zq4 J4 (s:=!decide (x27.From=x27.To)) h
       ·dsimp only [go_sem];refine Zk2 8 ?_;dsimp only [go_sem];refine An ?_;exact Zq4 J4 (s:=false) h
      ·dsimp only [go_sem];refine Zk2 14 ?_;dsimp only [go_sem];refine An ?_;exact Zq4 J4 (s:=false) h
     ·dsimp only [go_sem];refine Zk2 20 ?_;dsimp only [go_sem];refine An ?_;exact Zq4 J4 (s:=false) h
   ·refine Zk2 1 ?_;dsimp only [go_sem];refine An ?_;exact Zq4 J3 (s:=x25) (Zd4 h hout1)
 ·refine Zk2 1 ?_;dsimp only [go_sem];refine An ?_;refine Zf4 h (fun ((x8,x9):(Bool×Int))=>(⟨(.any :: .ptr 0 0 :: .any :: .any :: .bv x8 :: .iv x9::an 57 []),[some ⟨48,[.sl 3 (List.map Diner.row x1.Diners),.sl 5 (List.map Mail.row x1.Mail)]⟩],[]⟩:St)) (by simp [go_sem]) (by rintro ⟨x8,x9⟩;first | rfl | simp [go_sem]) ?_;rintro n1 ⟨x8,x9⟩ y1 h hin1 hout1;rw [Zhn] at h;(try dsimp only);refine Zk2 9 ?_;dsimp only [go_sem];refine An ?_;refine Zg4 h rfl (fun _ h=>?_) fun _ h=>?_
  ·refine Zk2 6 ?_;dsimp only [go_sem];refine An ?_;refine Ze4 (fun (x12:Bool)=>(⟨(.any :: .ptr 0 0 :: .any :: .any :: .bv x12 :: .iv x9::an 57 []),[some ⟨48,[.sl 3 (List.map Diner.row x1.Diners),.sl 5 (List.map Mail.row x1.Mail)]⟩],[]⟩:St)) (Zgn x9) y1 ?_ fun J2=>?_
   ·intro x12 h;rw [Zgn] at h;(try dsimp only);refine Zk2 6 ?_;dsimp only [go_sem];refine An ?_;exact Zp4 h hin1
   ·refine Zn4 22 h rfl (fun _ h=>?_) fun _ h=>?_
    ·dsimp only [go_sem];refine Zk2 3 ?_;dsimp only [go_sem];refine An ?_;obtain ⟨x10,ex10,h⟩:=Bs h;refine Zj4 Diner.row ex10 trivial rfl rfl rfl ?_;refine Zk2 1 ?_;dsimp only [go_sem];refine An ?_;obtain ⟨x11,ex11,h⟩:=Bs h;refine Zy2 trivial (Zzm x10 _ ex11) (h:=?_);refine Zk2 3 ?_;dsimp only [go_sem];refine An ?_;exact Zq4 J2 (s:=x11) h
    ·dsimp only [go_sem];refine Zk2 9 ?_;dsimp only [go_sem];refine An ?_;exact Zq4 J2 (s:=false) h
  ·refine Zk2 1 ?_;dsimp only [go_sem];refine An ?_;exact Zq4 J1 (s:=x8) (Zd4 h hout1)
theorem Zkn (d:Diner):Zym d=some (okD d):=by
 have key:d.Sides.length≤63→loop (Zwm d) 0=some (Zu9 d.ID (-1) d.Sides):=fun hl=>by
  refine loop_ppI d.Sides (Zwm d) (fun pre=>(pre.length:Int)) (fun pre post=>some (Zu9 d.ID (Zw9 (-1) pre) post)) (fun pre=> -1≤Zw9 (-1) pre) (fun pre x post h hI=>?_) (fun _=>?_) d.Sides [] rfl (Int.le_refl _)
  ·have hx:=Z78 h
   have hm:=Z88 h
   have body:Zwm d (pre.length:Int)=Zvm (pre.length:Int) (!Zt9 d.ID (Zw9 (-1) pre) x):=by
    have bad:∀b:Bool,b=false→Zvm (pre.length:Int) (!b)=Zvm (pre.length:Int) true:=fun b e=>by rw [e];rfl
    have tail:ifb (decide (x.Epoch<0)) (Zvm (pre.length:Int) true) (ifb (decide (65535<x.Epoch)) (Zvm (pre.length:Int) true) (ifb (decide (x.State<0)) (Zvm (pre.length:Int) true) (ifb (decide (3<x.State)) (Zvm (pre.length:Int) true) (ifb x.Dirty (Zvm (pre.length:Int) (!x.Fork)) (Zvm (pre.length:Int) false)))))
      =Zvm (pre.length:Int) (!(decide (0≤x.Epoch)&&(decide (x.Epoch≤65535)&&(decide (0≤x.State)&&(decide (x.State≤3)&&!(x.Dirty&&!x.Fork)))))):=by
     rw [show decide (0≤x.Epoch)=!decide (x.Epoch<0) by rw [←decide_not,decide_eq_decide];omega,show decide (x.Epoch≤65535)=!decide (65535<x.Epoch) by rw [←decide_not,decide_eq_decide];omega,
      show decide (0≤x.State)=!decide (x.State<0) by rw [←decide_not,decide_eq_decide];omega,show decide (x.State≤3)=!decide (3<x.State) by rw [←decide_not,decide_eq_decide];omega]
     cases decide (x.Epoch<0) with
     | true=>rfl
     | false=>
       cases decide (65535<x.Epoch) with
       | true=>rfl
       | false=>
         cases decide (x.State<0) with
         | true=>rfl
         | false=>
           cases decide (3<x.State) with
           | true=>rfl
           | false=>cases x.Dirty<;>cases x.Fork<;>rfl
    dsimp only [Zwm]
    rw [Z66 hx,Z06,Z46 hx,Option.bind_some]
    by_cases h1:x.Peer<0
    ·rw [decide_eq_true h1,Z06,bad]
     unfold Zt9;rw [decide_eq_false (by omega)];rfl
    ·rw [decide_eq_false h1,Z16]
     by_cases h2:x.Peer=d.ID
     ·rw [decide_eq_true h2,Z06,bad]
      unfold Zt9;rw [decide_eq_true h2];simp
     ·rw [decide_eq_false h2,Z16]
      rcases List.eq_nil_or_concat pre with rfl | ⟨q,y,rfl⟩
      ·rw [show decide ((0:Int)<(([]:List Side).length:Nat))=false from rfl,Z16,tail]
       have e:Zw9 (-1) [] = -1:=rfl
       rw [e]
       unfold Zt9
       rw [decide_eq_true (show -1<x.Peer by omega),decide_eq_false h2];rfl
      ·rw [List.concat_eq_append] at *
       have hy:d.Sides[q.length]?=some y:=by rw [h];simp
       rw [decide_eq_true (show (0:Int)<((q++[y]).length:Nat) by rw [Zc8];omega),Z06]
       have e1:wr (((q++[y]).length:Nat)-1)=(q.length:Int):=by rw [Zc8] at hm ⊢;rw [Z36 (by omega) (by omega)];omega
       rw [e1,Z46 hy,Option.bind_some,Zx9]
       by_cases h3:x.Peer≤y.Peer
       ·rw [decide_eq_true h3,Z06,bad]
        unfold Zt9;rw [decide_eq_false (by omega)];rfl
       ·rw [decide_eq_false h3,Z16,tail]
        unfold Zt9
        rw [decide_eq_true (show y.Peer<x.Peer by omega),decide_eq_false h2];rfl
   rw [body]
   cases hs:Zt9 d.ID (Zw9 (-1) pre) x with
   | true=>
     left
     refine ⟨by dsimp only [Zvm];rw [Bool.not_true,Z16,Z86 (by omega),Zc8],?_,by rw [Zu9,hs,Zx9,Bool.true_and]⟩
     rw [Zx9]
     unfold Zt9 at hs
     simp only [Bool.and_eq_true,decide_eq_true_eq] at hs
     omega
   | false=>exact .inr ⟨false,rfl,by rw [Zu9,hs,Bool.false_and]⟩
  ·dsimp only [Zwm]
   rw [Z76,Z16]
   rfl
 have j1:Zxm d (decide (63<ln Side.row d.Sides))=some (decide (d.Sides.length<64)&&Zu9 d.ID (-1) d.Sides):=by
  dsimp only [Zxm]
  by_cases h:d.Sides.length<64
  ·rw [Zw4,decide_eq_false (by omega),Z16,key (by omega),decide_eq_true h];rfl
  ·rw [Zw4,decide_eq_true (by omega),Z06,decide_eq_false h];rfl
 simp only [Zym,j1]
 unfold okD
 by_cases h1:d.ID<0
 ·rw [decide_eq_true h1,Z06,decide_eq_false (show ¬0≤d.ID by omega)];rfl
 ·rw [decide_eq_false h1,Z16,decide_eq_true (show 0≤d.ID by omega)]
  by_cases p0:d.Phase=0
  ·rw [p0];rfl
  ·by_cases p1:d.Phase=1
   ·rw [p1];rfl
   ·by_cases p2:d.Phase=2
    ·rw [p2];rfl
    ·rw [decide_eq_false p0,decide_eq_false p1,decide_eq_false p2]
     by_cases q:0≤d.Phase
     ·rw [decide_eq_false (show ¬d.Phase≤2 by omega)];simp [Zxm]
     ·rw [decide_eq_false q];simp [Zxm]
theorem Zln (d:Diner) (i:Nat) (x:Side) (hl:d.Sides.length≤5000) (hi:i<d.Sides.length):Zbm d i x=some ⟨d.ID,d.Phase,d.Sides.set i x⟩:=by
 simp only [Zbm]
 rw [Z56 _ _ (by omega) (by simp only [List.length_nil];omega),Option.bind_some,List.nil_append,Z46 (List.getElem?_eq_getElem hi),Option.bind_some,Int.toNat_natCast]
theorem Zmn {α:Type} (q:α→Bool) (x:α) (l:List α):(x::l).findIdx? q=if q x then some 0 else (l.findIdx? q).map (· + 1):=List.findIdx?_cons
theorem Znn {α β:Type} (l:List α) (body:Int→Option (Int ⊕ β)) (q:α→Bool) (F:Nat→α→Option β) (fin:Option β) (_:l.length≤4000000000000000000)
  (hb:∀(k:Nat) x,l[k]?=some x→body k=if q x then (F k x).map .inr else some (.inl ((k+1:Nat):Int))) (hn:∀(k:Nat) x,l[k]?=some x→q x=true→(F k x).isSome=true) (he:body l.length=fin.map .inr):
  loop body 0=match l.findIdx? q with | some i=>(match l[i]? with | some x=>F i x | none=>fin) | none=>fin:=by
 have:=Z58 l body (fun pre=>(pre.length:Int)) (fun pre post=>match post.findIdx? q with | some i=>(match l[pre.length+i]? with | some x=>F (pre.length+i) x | none=>fin) | none=>fin) (fun pre x post h=>by
  have hx:=Z78 h
  have hbx:=hb _ x hx
  rw [Zmn]
  cases hq:q x with
  | true=>
    rw [hq,if_pos rfl] at hbx
    right
    obtain ⟨r,hr⟩:=Option.isSome_iff_exists.1 (hn _ x hx hq)
    refine ⟨r,by rw [hbx,hr];rfl,?_⟩
    rw [if_pos rfl]
    dsimp only
    rw [Nat.add_zero,hx]
    exact hr
  | false=>
    rw [hq,if_neg (by simp)] at hbx
    left
    refine ⟨by rw [hbx,Zc8],?_⟩
    rw [if_neg (by simp),Zc8]
    cases post.findIdx? q with
    | none=>rfl
    | some i=>simp only [Option.map_some];rw [show pre.length+(i+1)=pre.length+1+i by omega]) (by
  rw [he];rfl)
 rw [show ((0:Int))=(([]:List α).length:Nat) from rfl,this]
 simp
theorem s_r13Get (d:Diner) (peer:Int) (m:Msg):Z7n d peer m=some (Z9a d peer m):=by
 simp only [Z7n,Zkn,Option.bind_some,Z9a]
 cases h:okD d with
 | false=>rfl
 | true=>
   have hl:=Z0a h
   rw [Bool.not_true,Z16,if_pos rfl]
   have F:∀(k:Nat) x,d.Sides[k]?=some x→Z5n d m k x false=some (.inr (if decide (m.Kind=1)&&decide (m.Num=0) then (if x.Fork then (Z1a,132) else (⟨d.ID,d.Phase,d.Sides.set k {x with Fork:=true}⟩,0))
    else if decide (m.Kind=2)&&decide (m.Num=0) then (if x.Token then (Z1a,132) else (⟨d.ID,d.Phase,d.Sides.set k {x with Token:=true}⟩,0)) else (Z1a,133))):=fun k x hx=>by
    have hlt:=(List.getElem?_eq_some_iff.1 hx).1
    have j6:∀z,Z2n d k z=some (.inr (⟨d.ID,d.Phase,d.Sides.set k z⟩,0)):=fun z=>by
     dsimp only [Z2n]
     rw [Zln d k z (by omega) hlt];rfl
    dsimp only [Z5n]
    rw [Z16]
    by_cases n0:m.Num=0
    ·rw [decide_eq_true n0,Bool.not_true,Z16]
     by_cases k1:m.Kind=1
     ·rw [decide_eq_true k1,Bool.not_true,Z16]
      dsimp only [Z4n]
      rw [Z16,decide_eq_true k1,Z06,decide_eq_false (show ¬m.Kind=2 by omega),Z16]
      cases hf:x.Fork with
      | true=>rfl
      | false=>
        rw [Z16]
        dsimp only [Z3n]
        rw [Z16,decide_eq_true k1,Z06,j6]
        rfl
     ·rw [decide_eq_false k1,Bool.not_false,Z06]
      by_cases k2:m.Kind=2
      ·rw [decide_eq_true k2,Bool.not_true]
       dsimp only [Z4n]
       rw [Z16,decide_eq_false k1,Z16,decide_eq_true k2,Z06]
       cases hf:x.Token with
       | true=>rfl
       | false=>
         dsimp only [Z3n]
         rw [Z16,decide_eq_false k1,Z16,j6]
         rfl
      ·rw [decide_eq_false k2];rfl
    ·rw [decide_eq_false n0,Bool.and_false,Bool.and_false];rfl
   have:=Znn d.Sides (Z6n d peer m) (fun x=>decide (x.Peer=peer)&&decide (x.Epoch=m.Epoch))
    (fun k x=>some (if decide (m.Kind=1)&&decide (m.Num=0) then (if x.Fork then (Z1a,132) else (⟨d.ID,d.Phase,d.Sides.set k {x with Fork:=true}⟩,0))
      else if decide (m.Kind=2)&&decide (m.Num=0) then (if x.Token then (Z1a,132) else (⟨d.ID,d.Phase,d.Sides.set k {x with Token:=true}⟩,0)) else (Z1a,133))) (some (Z1a,131)) (by omega) (fun k x hx=>by
    dsimp only [Z6n]
    rw [Z66 hx,Z06,Z46 hx,Option.bind_some]
    have no:Z5n d m k x true=some (.inl ((k+1:Nat):Int)):=by
     have:=(List.getElem?_eq_some_iff.1 hx).1
     dsimp only [Z5n,Z1n]
     rw [Z06,Z86 (by omega)]
    by_cases q1:x.Peer=peer
    ·rw [decide_eq_true q1,Bool.not_true,Z16,Bool.true_and]
     by_cases q2:x.Epoch=m.Epoch
     ·rw [decide_eq_true q2,Bool.not_true,F k x hx,if_pos rfl];rfl
     ·rw [decide_eq_false q2,Bool.not_false,no,if_neg (by simp)]
    ·rw [decide_eq_false q1,Bool.not_false,Z06,no,Bool.false_and,if_neg (by simp)]) (fun _ _ _ _=>rfl) (by
    dsimp only [Z6n]
    rw [Z76,Z16];rfl)
   rw [this]
   cases d.Sides.findIdx? (fun x=>decide (x.Peer=peer)&&decide (x.Epoch=m.Epoch)) with
   | none=>rfl
   | some i=>dsimp only;cases d.Sides[i]?<;>rfl
def Zon (ph:Int) (x:Side):Bool:=x.Fork&&(x.Dirty&&(x.Token&&!decide (ph=2)))
def Zpn (ph:Int) (x:Side):Bool:=!x.Fork&&(x.Token&&decide (ph=1))
theorem s_mail13 (d:Diner) (x:Side) (k:Int):Zdm d x k=some ⟨d.ID,x.Peer,⟨k,x.Epoch,0⟩⟩:=rfl
def oneF (d:Diner) (k:Nat) (x:Side):Diner×List Mail×Bool:=
 if Zon d.Phase x then (⟨d.ID,d.Phase,d.Sides.set k {x with Fork:=false,Dirty:=false}⟩,[⟨d.ID,x.Peer,⟨1,x.Epoch,0⟩⟩],true)
 else (⟨d.ID,d.Phase,d.Sides.set k {x with Token:=false}⟩,[⟨d.ID,x.Peer,⟨2,x.Epoch,0⟩⟩],true)
def oneE (d:Diner):Diner×List Mail×Bool:=if decide (d.Phase=1)&&d.Sides.all (·.Fork) then (⟨d.ID,2,d.Sides.map Z5a⟩,[],true) else (d,[],false)
theorem s_one (d:Diner) (hl:d.Sides.length≤63):Zpm d=some (match d.Sides.findIdx? (fun x=>Zon d.Phase x||Zpn d.Phase x) with | some i=>(match d.Sides[i]? with | some x=>oneF d i x | none=>oneE d) | none=>oneE d):=by
 have fin:Zjm d ()=some (oneE d):=by
  dsimp only [Zjm]
  unfold oneE
  by_cases p1:d.Phase=1
  ·rw [decide_eq_true p1,Bool.not_true,Z16,Bool.true_and]
   have e6:Zhm d ()=some (⟨d.ID,2,d.Sides.map Z5a⟩,[],true):=by
    dsimp only [Zhm]
    have:=Z68 d.Sides Zgm (fun pre=>((pre.length:Int),(⟨d.ID,2,pre.map Z5a++d.Sides.drop pre.length⟩:Diner))) (⟨d.ID,2,d.Sides.map Z5a⟩,[],true) (fun pre x post h=>by
     have hm:=Z88 h
     have hd:d.Sides.drop pre.length=x::post:=by rw [h];simp
     have hd':d.Sides.drop (pre++[x]).length=post:=by rw [h];simp
     have e1:((pre.length:Nat):Int)=(((pre.map Z5a).length:Nat):Int):=by simp
     have el:(pre.map Z5a++x::post).length=d.Sides.length:=by rw [h];simp
     have hx:(pre.map Z5a++x::post)[pre.length]?=some x:=by simp
     dsimp only [Zgm]
     rw [hd,Z66 hx,Z06,Z46 hx,Option.bind_some,Zln _ pre.length _ (by dsimp only;omega) (by dsimp only;omega),Option.bind_some,hd',Z86 (by omega),Zc8]
     dsimp only
     have e2:=Zb8 (pre.map Z5a) post x (Z5a x)
     rw [←e1,Int.toNat_natCast] at e2
     rw [show ({Peer:=x.Peer,Epoch:=x.Epoch,State:=x.State,Fork:=x.Fork,Dirty:=true,Token:=x.Token,Bottle:=x.Bottle,Ask:=x.Ask}:Side)=Z5a x from rfl,e2,List.map_append,List.append_assoc]
     rfl) (by
     have el:(d.Sides.map Z5a).length=d.Sides.length:=by simp
     dsimp only [Zgm]
     rw [List.drop_length,List.append_nil,←el,Z76,Z16]
     rfl)
    simpa using this
   have key:=Z58 d.Sides (Zim d) (fun pre=>(pre.length:Int)) (fun _ post=>some (if post.all (·.Fork) then (⟨d.ID,2,d.Sides.map Z5a⟩,[],true) else (d,[],false))) (fun pre x post h=>by
    have hx:=Z78 h
    have hm:=Z88 h
    dsimp only [Zim]
    rw [Z66 hx,Z06,Z46 hx,Option.bind_some,List.all_cons]
    cases hf:x.Fork with
    | true=>left;rw [Bool.not_true,Z16,Z86 (by omega),Zc8];exact ⟨rfl,rfl⟩
    | false=>right;exact ⟨_,rfl,rfl⟩) (by
    dsimp only [Zim]
    rw [Z76,Z16,e6];rfl)
   exact key
  ·rw [decide_eq_false p1];rfl
 have:=Znn d.Sides (Zom d) (fun x=>Zon d.Phase x||Zpn d.Phase x) (fun k x=>some (oneF d k x)) (some (oneE d)) (by omega) (fun k x hx=>by
  have hlt:=(List.getElem?_eq_some_iff.1 hx).1
  have j4:∀z,Zmm d k x z=if z then some (.inr (⟨d.ID,d.Phase,d.Sides.set k {x with Token:=false}⟩,[⟨d.ID,x.Peer,⟨2,x.Epoch,0⟩⟩],true)) else some (.inl ((k+1:Nat):Int)):=fun z=>by
   cases z with
   | true=>
     dsimp only [Zmm]
     rw [Z06,Zln d k _ (by omega) hlt,Option.bind_some,s_mail13];rfl
   | false=>dsimp only [Zmm];rw [Z16,Z86 (by omega)];rfl
  have j2:∀z,Znm d k x z=if z then some (.inr (⟨d.ID,d.Phase,d.Sides.set k {x with Fork:=false,Dirty:=false}⟩,[⟨d.ID,x.Peer,⟨1,x.Epoch,0⟩⟩],true)) else Zmm d k x (Zpn d.Phase x):=fun z=>by
   cases z with
   | true=>
     dsimp only [Znm]
     rw [Z06,Zln d k _ (by omega) hlt,Option.bind_some,s_mail13];rfl
   | false=>
     dsimp only [Znm]
     unfold Zpn
     rw [Z16]
     cases x.Fork<;>cases x.Token<;>rfl
  have e:Zom d k=Znm d k x (Zon d.Phase x):=by
   dsimp only [Zom]
   rw [Z66 hx,Z06,Z46 hx,Option.bind_some]
   unfold Zon
   cases x.Fork<;>cases x.Dirty<;>cases x.Token<;>rfl
  rw [e,j2,j4]
  unfold oneF
  cases Zon d.Phase x<;>cases Zpn d.Phase x<;>rfl) (fun _ _ _ _=>rfl) (by
  dsimp only [Zom]
  rw [Z76,Z16,fin])
 unfold Zpm
 rw [this]
 cases d.Sides.findIdx? (fun x=>Zon d.Phase x||Zpn d.Phase x) with
 | none=>rfl
 | some i=>dsimp only;cases d.Sides[i]?<;>rfl
noncomputable def F13 (d:Diner) (out:List Mail):Option (Diner×List Mail):=(Zpm d).bind fun r=>loop Zsm (r.2.1,r.2.2,d,r.1,out)
theorem F13_go {d d':Diner} {l out:List Mail} (h:Zpm d=some (d',l,true)) (hl:l.length≤10) (ho:out.length≤10000):F13 d out=F13 d' (out++l):=by
 unfold F13
 rw [h,Option.bind_some]
 dsimp only
 rw [Zc4]
 dsimp only [Zsm]
 rw [Z06,Z56 _ _ (by omega) (by omega),Option.bind_some]
 cases Zpm d'<;>rfl
theorem F13_end {d d':Diner} {l out:List Mail} (h:Zpm d=some (d',l,false)):F13 d out=some (d,out):=by
 unfold F13
 rw [h,Option.bind_some]
 dsimp only
 rw [Zc4]
 dsimp only [Zsm]
 rw [Z16];rfl
theorem one_none {ph:Int} {l:List Side} (h:∀x∈l,(Zon ph x||Zpn ph x)=false):l.findIdx? (fun x=>Zon ph x||Zpn ph x)=none:=by
 rw [List.findIdx?_eq_none_iff];exact h
theorem one_at {ph:Int} {A B:List Side} {x:Side} (h:∀x∈A,(Zon ph x||Zpn ph x)=false) (hx:(Zon ph x||Zpn ph x)=true):(A++x::B).findIdx? (fun x=>Zon ph x||Zpn ph x)=some A.length:=by
 rw [List.findIdx?_append,one_none h,Zmn,hx];simp
theorem fire2_one {ph:Int} {x:Side} (h:Zon ph x=false):Z3a ph x=(if Zpn ph x then {x with Token:=false} else x):=by
 have f1:Z2a ph x=x:=by unfold Z2a;unfold Zon at h;rw [h];rfl
 unfold Z3a Zpn
 rw [f1]
 obtain ⟨p,e,st,f,d,t,bo,ak⟩:=x
 cases f<;>cases t<;>cases decide (ph=1)<;>rfl
theorem F13_all (id ph:Int):∀(B A:List Side) (out:List Mail),(∀x∈A,(Zon ph x||Zpn ph x)=false)→A.length+B.length≤63→out.length+2*B.length≤1000→
  F13 ⟨id,ph,A++B⟩ out=some (if decide (ph=1)&&(A++B.map (Z3a ph)).all (·.Fork) then ⟨id,2,(A++B.map (Z3a ph)).map Z5a⟩ else ⟨id,ph,A++B.map (Z3a ph)⟩,out++B.flatMap (Z4a id ph))
 | [],A,out,hA,hl,ho=>by
   have h1:=s_one ⟨id,ph,A++[]⟩ (by simp at hl ⊢;omega)
   simp only [List.append_nil,one_none hA,List.map_nil,List.flatMap_nil] at h1 ⊢
   unfold oneE at h1
   dsimp only at h1
   cases hq:decide (ph=1)&&A.all (·.Fork) with
   | false=>
     rw [hq,if_neg (by simp)] at h1
     rw [if_neg (by simp)]
     exact F13_end h1
   | true=>
     rw [hq,if_pos rfl] at h1
     rw [if_pos rfl,F13_go h1 (by simp) (by omega),List.append_nil]
     have h2:=s_one ⟨id,2,A.map Z5a⟩ (by simp at hl ⊢;omega)
     rw [one_none (fun x _=>by unfold Zon Zpn;simp)] at h2
     exact F13_end h2
 | x::B,A,out,hA,hl,ho=>by
   have app:∀(y:Side),A++y::B=(A++[y])++B:=fun y=>by simp
   have ih:∀(y:Side) (out':List Mail),(Zon ph y||Zpn ph y)=false→out'.length≤out.length+2→F13 ⟨id,ph,A++y::B⟩ out'=some (if decide (ph=1)&&((A++[y])++B.map (Z3a ph)).all (·.Fork) then ⟨id,2,((A++[y])++B.map (Z3a ph)).map Z5a⟩ else ⟨id,ph,(A++[y])++B.map (Z3a ph)⟩,out'++B.flatMap (Z4a id ph)):=fun y out' hy ho'=>by
    rw [app y]
    exact F13_all id ph B (A++[y]) out' (fun z hz=>by
     rcases List.mem_append.1 hz with hz | hz
     ·exact hA z hz
     ·simp at hz;rw [hz];exact hy) (by simp at hl ⊢;omega) (by simp at ho ⊢;omega)
   have hx:∀y:Side,(A++y::B)[A.length]?=some y:=fun y=>by simp
   have st:∀y z:Side,(A++y::B).set A.length z=A++z::B:=fun y z=>by simp
   have fin:∀(y:Side) (out':List Mail),(Zon ph y||Zpn ph y)=false→out'.length≤out.length+2→y=Z3a ph x→out'=out++Z4a id ph x→
    F13 ⟨id,ph,A++y::B⟩ out'=some (if decide (ph=1)&&(A++(x::B).map (Z3a ph)).all (·.Fork) then ⟨id,2,(A++(x::B).map (Z3a ph)).map Z5a⟩ else ⟨id,ph,A++(x::B).map (Z3a ph)⟩,out++(x::B).flatMap (Z4a id ph)):=fun y out' hy ho' e1 e2=>by
    rw [ih y out' hy ho',e1,e2]
    simp only [List.map_cons,List.flatMap_cons,List.append_assoc,List.singleton_append]
   have tok:∀(y:Side) (out':List Mail),Zon ph y=false→out'.length≤out.length+1→Z3a ph x=(if Zpn ph y then {y with Token:=false} else y)→out++Z4a id ph x=out'++(if Zpn ph y then [⟨id,y.Peer,⟨2,y.Epoch,0⟩⟩] else [])→
    F13 ⟨id,ph,A++y::B⟩ out'=some (if decide (ph=1)&&(A++(x::B).map (Z3a ph)).all (·.Fork) then ⟨id,2,(A++(x::B).map (Z3a ph)).map Z5a⟩ else ⟨id,ph,A++(x::B).map (Z3a ph)⟩,out++(x::B).flatMap (Z4a id ph)):=fun y out' h1 ho' e1 e2=>by
    cases h2:Zpn ph y with
    | false=>
      rw [h2] at e1 e2
      exact fin y out' (by rw [h1,h2];rfl) (by omega) e1.symm (by rw [e2];simp)
    | true=>
      rw [h2,if_pos rfl] at e1 e2
      have h3:=s_one ⟨id,ph,A++y::B⟩ (by simp at hl ⊢;omega)
      dsimp only at h3
      rw [one_at hA (by rw [h1,h2];rfl)] at h3
      dsimp only at h3
      rw [hx y] at h3
      unfold oneF at h3
      dsimp only at h3
      rw [h1,if_neg (by simp),st] at h3
      rw [F13_go h3 (by simp) (by simp at ho;omega)]
      refine fin _ _ ?_ (by simp;omega) e1.symm e2.symm
      unfold Zon Zpn
      simp
   cases h1:Zon ph x with
   | false=>
     refine tok x out h1 (by omega) ?_ ?_
     ·exact fire2_one h1
     ·have f1:Z2a ph x=x:=by unfold Z2a;unfold Zon at h1;rw [h1];rfl
      unfold Z4a Zpn
      unfold Zon at h1
      rw [f1,h1]
      cases x.Fork<;>cases x.Token<;>cases decide (ph=1)<;>rfl
   | true=>
     have h3:=s_one ⟨id,ph,A++x::B⟩ (by simp at hl ⊢;omega)
     dsimp only at h3
     rw [one_at hA (by rw [h1];rfl)] at h3
     dsimp only at h3
     rw [hx x] at h3
     unfold oneF at h3
     dsimp only at h3
     rw [h1,if_pos rfl,st] at h3
     rw [F13_go h3 (by simp) (by simp at ho;omega)]
     refine tok _ _ (by unfold Zon;simp) (by simp) ?_ ?_
     ·have f1:Z2a ph x={x with Fork:=false,Dirty:=false}:=by unfold Z2a;unfold Zon at h1;rw [h1];rfl
      unfold Z3a Zpn
      rw [f1]
      cases x.Token<;>cases decide (ph=1)<;>rfl
     ·have f1:Z2a ph x={x with Fork:=false,Dirty:=false}:=by unfold Z2a;unfold Zon at h1;rw [h1];rfl
      unfold Z4a Zpn
      unfold Zon at h1
      rw [f1,h1]
      cases x.Token<;>cases decide (ph=1)<;>simp
theorem s_r13Fire (d:Diner) (hl:d.Sides.length≤63):Ztm d=some (Z6a d,Z7a d):=by
 have e:Ztm d=F13 d []:=rfl
 have:=F13_all d.ID d.Phase d.Sides [] [] (by simp) (by simpa using hl) (by simp;omega)
 rw [e]
 simp only [List.nil_append] at this
 exact this
theorem s_Node (s:Scene) (a:Int):Zan s a=some (Z6h s a):=by
 simp only [Zan,Z9n,Z6h,Zw4]
 cases decide (0≤a)<;>rfl
theorem s_r14Check (s:Scene) (hD:fewD s.Diners) (hM:s.Mail.length≤900000):Zin s=some (okS s):=by
 have h5:=hD.1
 have k2:∀ok,loop (Zen s) (ok,0)=some (ok&&s.Mail.all (Z5h s.Diners.length)):=fun ok=>by
  have:=Z58 s.Mail (Zen s) (fun pre=>(ok&&pre.all (Z5h s.Diners.length),(pre.length:Int))) (fun _ _=>some (ok&&s.Mail.all (Z5h s.Diners.length))) (fun pre m post h=>.inl ⟨by
   have hx:=Z78 h
   have hm:=Z88 h
   dsimp only [Zen]
   rw [Z66 hx,Z06,Z46 hx,Option.bind_some,List.all_append,Zc8]
   have j4:∀z,Zdn (pre.length:Int) z=some (.inl (z,((pre.length+1:Nat):Int))):=fun z=>by
    dsimp only [Zdn];rw [Z86 (by omega)]
   cases h1:(ok&&pre.all (Z5h s.Diners.length)) with
   | false=>rw [Z16,j4,←Bool.and_assoc,h1];rfl
   | true=>
     rw [Z06,s_Node,Option.bind_some,←Bool.and_assoc,h1,List.all_cons,List.all_nil]
     have e:Z5h s.Diners.length m=(Z6h s m.From&&(Z6h s m.To&&!decide (m.From=m.To))):=by
      rw [Bool.eq_iff_iff]
      unfold Z5h Z6h
      simp only [Bool.not_eq_true',Bool.or_eq_false_iff,Bool.and_eq_true,decide_eq_true_eq,decide_eq_false_iff_not]
      omega
     rw [e]
     cases Z6h s m.From with
     | false=>rw [Z16,j4];rfl
     | true=>
       rw [Z06,s_Node,Option.bind_some]
       cases Z6h s m.To with
       | false=>rw [Z16,j4];rfl
       | true=>rw [Z06,j4];cases decide (m.From=m.To)<;>rfl,rfl⟩) (by
   dsimp only [Zen]
   rw [Z76,Z16];rfl)
  rw [List.all_nil,Bool.and_true] at this
  exact this
 simp only [Zin,s_r12Graph _ hD,Option.bind_some]
 have:=Z58 s.Diners (Zhn s) (fun pre=>((Z09 s.Diners).2&&pre.all okD,(pre.length:Int))) (fun _ _=>some (okS s)) (fun pre d post h=>.inl ⟨by
  have hx:=Z78 h
  have hm:=Z88 h
  have j2:∀z,Zgn (pre.length:Int) z=some (.inl (z,((pre.length+1:Nat):Int))):=fun z=>by
   dsimp only [Zgn];rw [Z86 (by omega)]
  dsimp only [Zhn]
  rw [Z66 hx,Z06,List.all_append,Zc8]
  cases h1:((Z09 s.Diners).2&&pre.all okD) with
  | false=>rw [Z16,j2,←Bool.and_assoc,h1];rfl
  | true=>rw [Z06,Z46 hx,Option.bind_some,Zkn,Option.bind_some,j2,←Bool.and_assoc,h1];simp,rfl⟩) (by
  dsimp only [Zhn]
  rw [Z76,Z16]
  dsimp only [Zfn]
  rw [k2]
  unfold okS
  rw [Bool.and_assoc])
 rw [List.all_nil,Bool.and_true] at this
 exact this
set_option maxRecDepth 100000
set_option maxHeartbeats 4000000
set_option maxRecDepth 100000
set_option maxHeartbeats 4000000
set_option maxRecDepth 100000
set_option maxHeartbeats 4000000
set_option maxRecDepth 100000
set_option maxHeartbeats 4000000
set_option maxRecDepth 100000
set_option maxHeartbeats 4000000
set_option maxRecDepth 100000
set_option maxHeartbeats 4000000
set_option maxRecDepth 100000
set_option maxHeartbeats 4000000
@[go_sem] def e93_L0:EC:=.seq (.seq (.reg [(Qm 6 5),(Qf 7 0 2),(Qf 8 2 7),(Ql 9 8),(Qa 10 (.len (.t 9))),(Qa 11 (.bin .lss (.t 6) (.t 10)))]) (.ite (.t 11) (.skip) (.exit 0))) (.seq (.blk 1 (.seq (.reg [(Qf 14 0 2),(Qf 15 2 14),(Ql 16 15),(Qm 17 5),(Qk 18 8 16 17),(Qf 19 0 18),(Ql 20 19),(Qm 21 1),(Qa 22 (.bin .eql (.t 20) (.t 21)))]) (.ite (.t 22) (.seq (.reg [(Qm 23 5),(Qm 4 23)]) (.ret)) (.skip)))) (.reg [(Qm 12 5),(Qv 13 12 1),(Qm 5 13)]))
@[go_sem] def e93:EC:=.seq (.reg [(Qx 2 63 5 0),(Qi 4 0)]) (.seq (.seq (.reg [(Qi 5 0)]) (.blk 0 (.loop e93_L0))) (.seq (.reg [(Qa 4 (.mv (.c (.iv (-1)))))]) (.ret)))
theorem ok93:FnOK Tryz.prog 93 Tryz.f93 e93 [.t 4] 2 22:=⟨by kernel_rfl,⟨_,rfl,by kernel_rfl⟩,by kernel_rfl,by kernel_rfl⟩
noncomputable def Zqn:Unit→Option Int
| ()=>
 some (-1)
noncomputable def Zrn (x1:Drinker) (x2:Int):Int→Option (Int ⊕ Int)
| x5=>
 ifb (decide (x5<(ln Side.row x1.Diner.Sides))) (
 (at_ x1.Diner.Sides x5).bind fun x6=>
 ifb (decide (x6.Peer=x2)) (
 Option.map Sum.inr (some x5)) (
 some (.inl (wr (x5+1))))) (
 Option.map Sum.inr (Zqn ()))
noncomputable def Zsn (x1:Drinker) (x2:Int):Option Int:=
 loop (Zrn x1 x2) 0
theorem Ztn (x1:Drinker) (x2:Int) (r:Int) (h:Zsn x1 x2=some r):Zp2 Tryz.prog 93 [.agg (Drinker.row x1),.iv x2] (.iv r):=by
 refine Zt2 ok93 rfl rfl fun w0 H0=>?_
 rw [Zsn] at h
 refine Zk2 10 ?_;dsimp only [go_sem];refine An ?_;refine Ze4 (fun (_:Unit)=>(⟨(an 24 []),[],[]⟩:St)) Zqn r ?_ fun J1=>?_
 ·rintro ⟨⟩ h;rw [Zqn] at h;(try dsimp only);refine Zk2 4 ?_;dsimp only [go_sem];refine An ?_;exact Zo4 (res:=fun (r:Int)=>.iv r) ok93 h
 ·refine Zk2 1 ?_;dsimp only [go_sem];refine An ?_;refine Zf4 h (fun (x5:Int)=>(⟨(.any :: .iv x2 :: .ptr 0 0 :: .any :: .any :: .iv x5::an 18 []),[some ⟨63,[.iv x1.Diner.ID,.iv x1.Diner.Phase,.sl 8 (List.map Side.row x1.Diner.Sides),.iv x1.Thirst,.sl 1 (List.map Zu4 x1.Need)]⟩],[]⟩:St)) (by simp [go_sem]) (by intro x5;first | rfl | simp [go_sem]) ?_;rintro n1 x5 y1 h hin1 hout1;rw [Zrn] at h;(try dsimp only);refine Zk2 10 ?_;dsimp only [go_sem];refine An ?_;refine Zg4 h rfl (fun _ h=>?_) fun _ h=>?_
  ·refine Zk2 9 ?_;dsimp only [go_sem];refine An ?_;obtain ⟨x6,ex6,h⟩:=Bs h;refine Zj4 Side.row ex6 trivial rfl rfl rfl ?_;refine Zk2 5 ?_;dsimp only [go_sem];refine An ?_;refine Zg4 h rfl (fun _ h=>?_) fun _ h=>?_
   ·refine Zk2 5 ?_;dsimp only [go_sem];refine An ?_;exact Zo4 (res:=fun (r:Int)=>.iv r) ok93 (Zd4 h hout1)
   ·refine Zk2 7 ?_;dsimp only [go_sem];refine An ?_;exact Zp4 h hin1
  ·refine Zk2 1 ?_;dsimp only [go_sem];refine An ?_;exact Zq4 J1 (s:=()) (Zd4 h hout1)
set_option maxRecDepth 100000
set_option maxHeartbeats 4000000
@[go_sem] def e61_L0:EC:=.seq (.seq (.reg [(Qm 29 3),(Qf 30 4 1),(Ql 31 30),(Qa 32 (.len (.t 31))),(Qa 33 (.bin .lss (.t 29) (.t 32)))]) (.ite (.t 33) (.skip) (.exit 0))) (.seq (.blk 1 (.seq (.drw [(Qe 36 5 1),(Qf 37 4 1),(Ql 38 37),(Qm 39 3),(Qk 40 1 38 39),(Ql 41 40),(Qa 42 (.call 93 [(.t 36),(.t 41)])),(Qa 43 (.bin .lss (.t 42) (.c (.iv 0)))),(Qm 44 43),(Qg 45 44 false (.mv (.t 3))),(Qg 46 44 false (.bin .gtr (.t 45) (.c (.iv 0)))),(Qg 47 44 false (.mv (.t 46))),(Qh 48 47 true 4 1),(Qn 49 47 true 48),(Qg 50 47 true (.mv (.t 3))),(Qg 51 47 true (.bin .sub (.t 50) (.c (.iv 1)))),(Qg 52 47 true (.idx 1 (.t 49) (.t 51))),(Qn 53 47 true 52),(Qh 54 47 true 4 1),(Qn 55 47 true 54),(Qg 56 47 true (.mv (.t 3))),(Qg 57 47 true (.idx 1 (.t 55) (.t 56))),(Qn 58 47 true 57),(Qg 59 47 true (.bin .geq (.t 53) (.t 58))),(Qg 60 44 false (.pick (.t 47) (.t 59) (.c .ff))),(Qq 61 44 60)] [[],[],[1],[],[2,3],[4],[0,5],[6],[7,6],[8],[9,8],[10,8,8],[11],[12,11],[11],[14,11],[13,15,11],[16,11],[11],[18,11],[11],[19,20,11],[21,11],[17,22,11],[11,23,8],[8,24]] [[6],[2],[1,4],[4],[2,3,5],[4,6],[0,5,7],[6,8],[7,9,10,11,24,25],[8,10],[8,9,11],[8,10,12,13,14,15,16,17,18,19,20,21,22,23,24],[11,13],[11,12,16],[11,15],[11,14,16],[11,13,15,17],[11,16,23],[11,19],[11,18,21],[11,21],[11,19,20,22],[11,21,23],[11,17,22,24],[8,11,23,25],[8,24]]) (.ite (.t 61) (.seq (.reg [(Qa 2 (.mv (.c .ff)))]) (.ret)) (.skip)))) (.reg [(Qm 34 3),(Qv 35 34 1),(Qm 3 35)]))
@[go_sem] def e61:EC:=.seq (.reg [(Qx 1 63 5 0),(Qa 2 (.mv (.c .ff)))]) (.seq (.seq (.reg [(Qf 4 0 1),(Qe 5 3 4),(Qa 6 (.call 110 [(.t 5)])),(Qa 7 (.not (.t 6))),(Qm 8 7),(Qh 9 8 false 3 1),(Qn 10 8 false 9),(Qg 11 8 false (.bin .lss (.t 10) (.c (.iv 0)))),(Qq 12 8 11),(Qm 13 12),(Qh 14 13 false 3 1),(Qn 15 13 false 14),(Qg 16 13 false (.bin .gtr (.t 15) (.c (.iv 2)))),(Qq 17 13 16),(Qm 18 17),(Qh 19 18 false 3 1),(Qn 20 18 false 19),(Qg 21 18 false (.bin .eql (.t 20) (.c (.iv 0)))),(Qg 22 18 false (.mv (.t 21))),(Qh 23 22 true 4 1),(Qn 24 22 true 23),(Qg 25 22 true (.len (.t 24))),(Qg 26 22 true (.bin .gtr (.t 25) (.c (.iv 0)))),(Qg 27 18 false (.pick (.t 22) (.t 26) (.c .ff))),(Qq 28 18 27)]) (.ite (.t 28) (.seq (.reg [(Qa 2 (.mv (.c .ff)))]) (.ret)) (.skip))) (.seq (.seq (.reg [(Qi 3 0)]) (.blk 0 (.loop e61_L0))) (.seq (.reg [(Qa 2 (.mv (.c .tt)))]) (.ret))))
theorem ok61:FnOK Tryz.prog 61 Tryz.f61 e61 [.t 2] 1 61:=⟨by kernel_rfl,⟨_,rfl,by kernel_rfl⟩,by kernel_rfl,by kernel_rfl⟩
noncomputable def Zun:Unit→Option Bool
| ()=>
 some true
noncomputable def Zvn (x10:Int):Bool→Option (Int ⊕ Bool)
| x15=>
 ifb x15 (
 Option.map Sum.inr (some false)) (
 some (.inl (wr (x10+1))))
noncomputable def Zwn (x1:Drinker):Int→Option (Int ⊕ Bool)
| x10=>
 ifb (decide (x10<(ln Zu4 x1.Need))) (
 (at_ x1.Need x10).bind fun x11=>
 (Zsn x1 x11).bind fun x12=>
 ifb (decide (x12<0)) (
 (Zvn x10) true) (
 ifb (decide (0<x10)) (
 (at_ x1.Need (wr (x10-1))).bind fun x13=>
 (at_ x1.Need x10).bind fun x14=>
 (Zvn x10) (decide (x14≤x13))) (
 (Zvn x10) false))) (
 Option.map Sum.inr (Zun ()))
noncomputable def Zxn (x1:Drinker):Bool→Option Bool
| x3=>
 ifb x3 (
 some false) (
 loop (Zwn x1) 0)
noncomputable def Zyn (x1:Drinker):Option Bool:=
 (Zym x1.Diner).bind fun x2=>
 ifb (!x2) (
 (Zxn x1) true) (
 ifb (decide (x1.Thirst<0)) (
 (Zxn x1) true) (
 ifb (decide (2<x1.Thirst)) (
 (Zxn x1) true) (
 ifb (decide (x1.Thirst=0)) (
 (Zxn x1) (decide (0<(ln Zu4 x1.Need)))) (
 (Zxn x1) false))))
theorem Zzn (x1:Drinker) (r:Bool) (h:Zyn x1=some r):Zp2 Tryz.prog 61 [.agg (Drinker.row x1)] (.bv r):=by
 refine Zt2 ok61 rfl rfl fun w0 H0=>?_
 rw [Zyn] at h
 refine Zk2 10 ?_;dsimp only [go_sem];refine An ?_;obtain ⟨x2,ex2,h⟩:=Bs h;refine Zy2 trivial (Zzm x1.Diner _ ex2) (h:=?_);refine Zk2 2 ?_;dsimp only [go_sem];refine An ?_;refine Ze4 (fun (x3:Bool)=>(⟨(.any :: .ptr 0 0::an 26 (.bv x3::an 33 [])),[some ⟨63,[.iv x1.Diner.ID,.iv x1.Diner.Phase,.sl 8 (List.map Side.row x1.Diner.Sides),.iv x1.Thirst,.sl 1 (List.map Zu4 x1.Need)]⟩],[]⟩:St)) (Zxn x1) r ?_ fun J1=>?_
 ·intro x3 h;rw [Zxn] at h;(try dsimp only);refine Zg4 h rfl (fun _ h=>?_) fun _ h=>?_
  ·refine Zk2 4 ?_;dsimp only [go_sem];refine An ?_;exact Zo4 (res:=fun (r:Bool)=>.bv r) ok61 h
  ·refine Zk2 6 ?_;dsimp only [go_sem];refine An ?_;refine Ze4 (fun (_:Unit)=>(⟨(an 62 []),[],[]⟩:St)) Zun r ?_ fun J2=>?_
   ·rintro ⟨⟩ h;rw [Zun] at h;(try dsimp only);refine Zk2 4 ?_;dsimp only [go_sem];refine An ?_;exact Zo4 (res:=fun (r:Bool)=>.bv r) ok61 h
   ·refine Zk2 1 ?_;dsimp only [go_sem];refine An ?_;refine Zf4 h (fun (x10:Int)=>(⟨(.any :: .ptr 0 0 :: .any :: .iv x10::an 58 []),[some ⟨63,[.iv x1.Diner.ID,.iv x1.Diner.Phase,.sl 8 (List.map Side.row x1.Diner.Sides),.iv x1.Thirst,.sl 1 (List.map Zu4 x1.Need)]⟩],[]⟩:St)) (by simp [go_sem]) (by intro x10;first | rfl | simp [go_sem]) ?_;rintro n1 x10 y1 h hin1 hout1;rw [Zwn] at h;(try dsimp only);refine Zk2 9 ?_;dsimp only [go_sem];refine An ?_;refine Zg4 h rfl (fun _ h=>?_) fun _ h=>?_
    ·refine Zk2 4 ?_;dsimp only [go_sem];refine An ?_;refine Ze4 (fun (x15:Bool)=>(⟨(.any :: .ptr 0 0 :: .any :: .iv x10::an 57 [.bv x15]),[some ⟨63,[.iv x1.Diner.ID,.iv x1.Diner.Phase,.sl 8 (List.map Side.row x1.Diner.Sides),.iv x1.Thirst,.sl 1 (List.map Zu4 x1.Need)]⟩],[]⟩:St)) (Zvn x10) y1 ?_ fun J3=>?_
     ·intro x15 h;rw [Zvn] at h;(try dsimp only);refine Zg4 h rfl (fun _ h=>?_) fun _ h=>?_
      ·refine Zk2 4 ?_;dsimp only [go_sem];refine An ?_;exact Zo4 (res:=fun (r:Bool)=>.bv r) ok61 (Zd4 h hout1)
      ·refine Zk2 7 ?_;dsimp only [go_sem];refine An ?_;exact Zp4 h hin1
     ·refine Zf3 (by kernel_rfl) fun all hall hs hnap haf=>?_;dsimp only [go_sem];refine Z65 hall hs haf hnap 4 22 [4,22] [(36,[.agg [.iv x1.Diner.ID,.iv x1.Diner.Phase,.sl 8 (List.map Side.row x1.Diner.Sides),.iv x1.Thirst,.sl 1 (List.map Zu4 x1.Need)],.ptr 0 4,.sl 1 (List.map Zu4 x1.Need),.iv x10])] (by kernel_rfl) ?_;dsimp only [go_sem];obtain ⟨x11,ex11,h⟩:=Bs h;refine Zk4 hall hs haf hnap 4 Zu4 ex11 rfl rfl trivial rfl rfl rfl rfl ?_;refine Z55 hall hs haf hnap 1 20 ?_;dsimp only [go_sem];refine An ?_;refine Zq3 6 rfl ?_
      obtain ⟨x12,ex12,h⟩:=Bs h;refine Zw3 hall rfl trivial (Ztn x1 x11 _ ex12) (h:=?_);dsimp only [go_sem];refine Z55 hall hs haf hnap 2 17 ?_;dsimp only [go_sem];refine An ?_;refine Zx4 44 h rfl (fun _ h=>?_) fun _ h=>?_
      ·dsimp only [go_sem];refine Z65 hall hs haf hnap 17 0 [26] [(45,[.un,.un,.un,.un,.un,.un,.un,.un,.un,.un,.un,.un,.un,.un,.un,.un,.tt])] (by kernel_rfl) ?_;dsimp only [go_sem];refine Zp3 rfl ?_ _;exact Zq4 J3 (s:=true) h
      ·dsimp only [go_sem];refine Z65 hall hs haf hnap 3 14 [12,14] [(45,[.iv x10,.bv (decide (0<x10)),.bv (decide (0<x10))])] (by kernel_rfl) ?_;dsimp only [go_sem];refine Zx4 47 h rfl (fun _ h=>?_) fun _ h=>?_
       ·dsimp only [go_sem];refine Z65 hall hs haf hnap 7 7 [16,2,3,5] [(48,[.ptr 0 4,.sl 1 (List.map Zu4 x1.Need),.iv x10,.iv (wr (x10-1))]),(2,[.ptr 0 4,.sl 1 (List.map Zu4 x1.Need),.iv x10])] (by kernel_rfl) ?_;dsimp only [go_sem];obtain ⟨x13,ex13,h⟩:=Bs h;refine Zk4 hall hs haf hnap 16 Zu4 ex13 rfl rfl trivial rfl rfl rfl rfl ?_;refine Z55 hall hs haf hnap 1 5 ?_;dsimp only [go_sem];refine An ?_;obtain ⟨x14,ex14,h⟩:=Bs h;refine Zk4 hall hs haf hnap 21 Zu4 ex14 rfl rfl trivial rfl rfl rfl rfl ?_
        refine Z65 hall hs haf hnap 4 0 [26] [(58,[.iv x14,.bv (decide (x14≤x13)),.bv (decide (x14≤x13)),.bv (decide (x14≤x13))])] (by kernel_rfl) ?_;dsimp only [go_sem];refine Zp3 rfl ?_ _;exact Zq4 J3 (s:=decide (x14≤x13)) h
       ·dsimp only [go_sem];refine Z65 hall hs haf hnap 14 0 [26] [(48,[.un,.un,.un,.un,.un,.un,.un,.un,.un,.un,.un,.un,.ff,.ff])] (by kernel_rfl) ?_;dsimp only [go_sem];refine Zp3 rfl ?_ _;exact Zq4 J3 (s:=false) h
    ·refine Zk2 1 ?_;dsimp only [go_sem];refine An ?_;exact Zq4 J2 (s:=()) (Zd4 h hout1)
 ·refine Zn4 8 h rfl (fun _ h=>?_) fun _ h=>?_
  ·dsimp only [go_sem];refine Zk2 21 ?_;dsimp only [go_sem];refine An ?_;exact Zq4 J1 (s:=true) h
  ·dsimp only [go_sem];refine Zk2 5 ?_;dsimp only [go_sem];refine An ?_;refine Zn4 13 h rfl (fun _ h=>?_) fun _ h=>?_
   ·dsimp only [go_sem];refine Zk2 16 ?_;dsimp only [go_sem];refine An ?_;exact Zq4 J1 (s:=true) h
   ·dsimp only [go_sem];refine Zk2 5 ?_;dsimp only [go_sem];refine An ?_;refine Zn4 18 h rfl (fun _ h=>?_) fun _ h=>?_
    ·dsimp only [go_sem];refine Zk2 11 ?_;dsimp only [go_sem];refine An ?_;exact Zq4 J1 (s:=true) h
    ·dsimp only [go_sem];refine Zk2 4 ?_;dsimp only [go_sem];refine An ?_;refine Zn4 22 h rfl (fun _ h=>?_) fun _ h=>?_
     ·dsimp only [go_sem];refine Zk2 7 ?_;dsimp only [go_sem];refine An ?_;exact Zq4 J1 (s:=decide (0<(ln Zu4 x1.Need))) h
     ·dsimp only [go_sem];refine Zk2 7 ?_;dsimp only [go_sem];refine An ?_;exact Zq4 J1 (s:=false) h
set_option maxRecDepth 100000
set_option maxHeartbeats 4000000
@[go_sem] def e139_L0:EC:=.seq (.seq (.reg [(Qm 7 6),(Qm 8 0),(Qa 9 (.len (.t 8))),(Qa 10 (.bin .lss (.t 7) (.t 9)))]) (.ite (.t 10) (.skip) (.exit 0))) (.seq (.blk 1 (.seq (.drw [(Qm 13 0),(Qm 14 6),(Qk 15 1 13 14),(Ql 16 15),(Qm 17 1),(Qa 18 (.bin .lss (.t 16) (.t 17))),(Qm 19 18),(Qg 20 19 true (.mv (.t 0))),(Qg 21 19 true (.mv (.t 6))),(Qg 22 19 true (.slice 1 (.t 20) none (some (.t 21)))),(Qg 23 19 true (.mv (.t 0))),(Qg 24 19 true (.mv (.t 6))),(Qg 25 19 true (.idx 1 (.t 23) (.t 24))),(Qn 26 19 true 25),(Qg 27 19 true (.call 33 [(.t 22),(.t 26)])),(Qg 28 19 true (.not (.t 27))),(Qp 29 19 28)] [[],[],[0,1],[2],[],[3,4],[5],[6],[6],[7,8,6],[6],[6],[10,11,6],[12,6],[9,13,6,6],[14,6],[6,15]] [[2],[2],[0,1,3],[2,5],[5],[3,4,6],[5,7,8,9,10,11,12,13,14,15,16],[6,9],[6,9],[6,7,8,14],[6,12],[6,12],[6,10,11,13],[6,12,14],[6,9,13,15],[6,14,16],[6,15]]) (.ite (.t 29) (.reg [(Qm 30 5),(Qv 31 30 1),(Qm 5 31)]) (.skip)))) (.reg [(Qm 11 6),(Qv 12 11 1),(Qm 6 12)]))
@[go_sem] def e139:EC:=.seq (.reg [(Qi 4 0)]) (.seq (.reg [(Qi 5 0)]) (.seq (.seq (.reg [(Qi 6 0)]) (.blk 0 (.loop e139_L0))) (.seq (.reg [(Qm 32 5),(Qm 4 32)]) (.ret))))
theorem ok139:FnOK Tryz.prog 139 Tryz.f139 e139 [.t 4] 2 31:=⟨by kernel_rfl,⟨_,rfl,by kernel_rfl⟩,by kernel_rfl,by kernel_rfl⟩
noncomputable def Z0o:Int→Option Int
| x25=>
 some x25
noncomputable def Z1o (x12:Int):Int→Option ((Int×Int) ⊕ Int)
| x18=>
 some (.inl (x18,wr (x12+1)))
noncomputable def Z2o (x11:Int) (x12:Int):Bool→Option ((Int×Int) ⊕ Int)
| x17=>
 ifb x17 (
 (Z1o x12) (wr (x11+1))) (
 (Z1o x12) x11)
noncomputable def Z3o (x1:(List Int)) (x2:Int):(Int×Int)→Option ((Int×Int) ⊕ Int)
| (x11,x12)=>
 ifb (decide (x12<(ln Zu4 x1))) (
 (at_ x1 x12).bind fun x13=>
 ifb (decide (x13<x2)) (
 (at_ x1 x12).bind fun x14=>
 (Z94 x1 0 x12).bind fun x15=>
 (Zuc x15 x14).bind fun x16=>
 (Z2o x11 x12) (!x16)) (
 (Z2o x11 x12) false)) (
 Option.map Sum.inr (Z0o x11))
noncomputable def Z4o (x1:(List Int)) (x2:Int):Option Int:=
 loop (Z3o x1 x2) (0,0)
theorem Z5o (x1:(List Int)) (x2:Int) (r:Int) (h:Z4o x1 x2=some r):Zp2 Tryz.prog 139 [.sl 1 (List.map Zu4 x1),.iv x2] (.iv r):=by
 refine Zt2 ok139 rfl rfl fun w0 H0=>?_
 rw [Z4o] at h
 refine Zk2 13 ?_;dsimp only [go_sem];refine An ?_;refine Ze4 (fun (x25:Int)=>(⟨(an 5 (.iv x25::an 27 [])),[],[]⟩:St)) Z0o r ?_ fun J1=>?_
 ·intro x25 h;rw [Z0o] at h;(try dsimp only);refine Zk2 5 ?_;dsimp only [go_sem];refine An ?_;exact Zo4 (res:=fun (r:Int)=>.iv r) ok139 h
 ·refine Zk2 1 ?_;dsimp only [go_sem];refine An ?_;refine Zf4 h (fun ((x11,x12):(Int×Int))=>(⟨(.sl 1 (List.map Zu4 x1) :: .iv x2::an 3 (.iv x11 :: .iv x12::an 26 [])),[],[]⟩:St)) (by simp [go_sem]) (by rintro ⟨x11,x12⟩;first | rfl | simp [go_sem]) ?_;rintro n1 ⟨x11,x12⟩ y1 h hin1 hout1;rw [Z3o] at h;(try dsimp only);refine Zk2 8 ?_;dsimp only [go_sem];refine An ?_;refine Zg4 h rfl (fun _ h=>?_) fun _ h=>?_
  ·refine Zk2 4 ?_;dsimp only [go_sem];refine An ?_;refine Ze4 (fun (x17:Bool)=>(⟨(.sl 1 (List.map Zu4 x1) :: .iv x2::an 3 (.iv x11 :: .iv x12::an 22 (.bv x17::an 3 []))),[],[]⟩:St)) (Z2o x11 x12) y1 ?_ fun J2=>?_
   ·intro x17 h;rw [Z2o] at h;(try dsimp only);refine Ze4 (fun (x18:Int)=>(⟨(.sl 1 (List.map Zu4 x1) :: .iv x2::an 3 (.iv x18 :: .iv x12::an 26 [])),[],[]⟩:St)) (Z1o x12) y1 ?_ fun J3=>?_
    ·intro x18 h;rw [Z1o] at h;(try dsimp only);refine Zk2 6 ?_;dsimp only [go_sem];refine An ?_;exact Zp4 h hin1
    ·refine Zg4 h rfl (fun _ h=>?_) fun _ h=>?_
     ·refine Zk2 5 ?_;dsimp only [go_sem];refine An ?_;exact Zq4 J3 (s:=wr (x11+1)) h
     ·refine Zk2 1 ?_;dsimp only [go_sem];refine An ?_;exact Zq4 J3 (s:=x11) h
   ·refine Zf3 (by kernel_rfl) fun all hall hs hnap haf=>?_;dsimp only [go_sem];refine Z55 hall hs haf hnap 3 14 ?_;dsimp only [go_sem];refine An ?_;obtain ⟨x13,ex13,h⟩:=Bs h;refine Zk4 hall hs haf hnap 2 Zu4 ex13 rfl rfl trivial rfl rfl rfl rfl ?_;refine Z55 hall hs haf hnap 3 10 ?_;dsimp only [go_sem];refine An ?_;refine Zx4 19 h rfl (fun _ h=>?_) fun _ h=>?_
    ·dsimp only [go_sem];refine Z65 hall hs haf hnap 4 6 [9,1,2,5] [(20,[.sl 1 (List.map Zu4 x1),.iv x12]),(1,[.sl 1 (List.map Zu4 x1),.iv x12])] (by kernel_rfl) ?_;dsimp only [go_sem];obtain ⟨x14,ex14,h⟩:=Bs h;refine Zk4 hall hs haf hnap 12 Zu4 ex14 rfl rfl trivial rfl rfl rfl rfl ?_;refine Z55 hall hs haf hnap 1 4 ?_;dsimp only [go_sem];refine An ?_;obtain ⟨x15,ex15,h⟩:=Bs h;refine Z15 hall hs haf hnap 9 Zu4 ex15 rfl rfl trivial rfl rfl rfl rfl rfl ?_;dsimp only [go_sem];refine Zq3 14 rfl ?_;obtain ⟨x16,ex16,h⟩:=Bs h
     refine Zw3 hall rfl trivial (Zvc x15 x14 _ ex16) (h:=?_);dsimp only [go_sem];refine Z55 hall hs haf hnap 2 0 ?_;dsimp only [go_sem];refine An ?_;refine Zp3 rfl ?_ _;exact Zq4 J2 (s:=!x16) h
    ·dsimp only [go_sem];refine Z65 hall hs haf hnap 10 0 [17] [(20,[.un,.un,.un,.un,.un,.un,.un,.un,.un,.ff])] (by kernel_rfl) ?_;dsimp only [go_sem];refine Zp3 rfl ?_ _;exact Zq4 J2 (s:=false) h
  ·refine Zk2 1 ?_;dsimp only [go_sem];refine An ?_;exact Zq4 J1 (s:=x11) (Zd4 h hout1)
set_option maxRecDepth 100000
set_option maxHeartbeats 4000000
@[go_sem] def e94_L0:EC:=.seq (.seq (.reg [(Qm 7 4),(Qm 8 0),(Qa 9 (.len (.t 8))),(Qa 10 (.bin .lss (.t 7) (.t 9)))]) (.ite (.t 10) (.skip) (.exit 0))) (.seq (.blk 1 (.seq (.seq (.reg [(Qm 13 3),(Qm 14 0),(Qm 15 4),(Qk 16 1 14 15),(Ql 17 16),(Qa 18 (.call 33 [(.t 13),(.t 17)]))]) (.ite (.t 18) (.exit 1) (.skip))) (.seq (.reg [(Qm 19 3),(Qm 20 0),(Qm 21 4),(Qk 22 1 20 21),(Ql 23 22),(Qa 24 (.call 139 [(.t 19),(.t 23)])),(Qm 5 24)]) (.drw [(Qa 25 (.bsl 3 1 0 [.iv 0] [])),(Qm 26 3),(Qm 27 5),(Qa 28 (.slice 1 (.t 26) none (some (.t 27)))),(Qa 29 (.app 3 1 8 (.t 25) (.t 28))),(Qm 30 0),(Qm 31 4),(Qk 32 1 30 31),(Ql 33 32),(Qa 34 (.bsl 3 1 1 [.iv 0] [(0,(.t 33))])),(Qa 35 (.app 3 1 8 (.t 29) (.t 34))),(Qm 36 3),(Qm 37 5),(Qa 38 (.slice 1 (.t 36) (some (.t 37)) none)),(Qa 39 (.app 3 1 8 (.t 35) (.t 38))),(Qm 3 39)] [[],[],[],[1,2],[0,3],[],[],[5,6],[7],[8],[4,9,4],[],[],[11,12],[10,13,10],[14,14,0,1,2,3,4,5,6,7,8,9,10,11,12,13,14]] [[4],[3,15],[3],[1,2,4],[0,3,10],[7],[7],[5,6,8],[7,9],[8,10],[4,9,14],[13,15],[13],[11,12,14],[10,13,15],[1,11,14]])))) (.reg [(Qm 11 4),(Qv 12 11 1),(Qm 4 12)]))
@[go_sem] def e94:EC:=.seq (.reg [(Qa 2 (.mv (.c .nl)))]) (.seq (.reg [(Qa 6 (.bsl 3 1 0 [.iv 0] [])),(Qm 3 6)]) (.seq (.seq (.reg [(Qi 4 0)]) (.blk 0 (.loop e94_L0))) (.seq (.reg [(Qm 40 3),(Qm 2 40)]) (.ret))))
theorem ok94:FnOK Tryz.prog 94 Tryz.f94 e94 [.t 2] 1 40:=⟨by kernel_rfl,⟨_,rfl,by kernel_rfl⟩,by kernel_rfl,by kernel_rfl⟩
noncomputable def Z6o:(List Int)→Option (List Int)
| x35=>
 some x35
noncomputable def Z7o (x16:Int):(List Int)→Option ((Int×(List Int)) ⊕ (List Int))
| x29=>
 some (.inl (wr (x16+1),x29))
noncomputable def Z8o (x1:(List Int)):(Int×(List Int))→Option ((Int×(List Int)) ⊕ (List Int))
| (x16,x17)=>
 ifb (decide (x16<(ln Zu4 x1))) (
 (at_ x1 x16).bind fun x18=>
 (Zuc x17 x18).bind fun x19=>
 ifb x19 (
 (Z7o x16) x17) (
 (at_ x1 x16).bind fun x20=>
 (Z4o x17 x20).bind fun x21=>
 (at_ x1 x16).bind fun x22=>
 (Z94 x17 0 x21).bind fun x23=>
 (Z94 x17 x21 (ln Zu4 x17)).bind fun x24=>
 (Z84 8 (([]:List Int)) x23).bind fun x25=>
 (Z84 8 x25 ([x22])).bind fun x27=>
 (Z84 8 x27 x24).bind fun x28=>
 (Z7o x16) x28)) (
 Option.map Sum.inr (Z6o x17))
noncomputable def Z9o (x1:(List Int)):Option (List Int):=
 loop (Z8o x1) (0,([]:List Int))
theorem Zao (x1:(List Int)) (r:(List Int)) (h:Z9o x1=some r):FunO Tryz.prog 94 [.sl 1 (List.map Zu4 x1)] 3 1 (List.map Zu4 r):=by
 refine Z25 ok94 rfl fun w0 H0=>?_
 rw [Z9o] at h
 refine Zk2 14 ?_;dsimp only [go_sem];refine An ?_;refine Ze4 (fun (x35:(List Int))=>(⟨(an 3 (.osl 0::an 37 [])),[],[some ⟨3,1,List.map Zu4 x35⟩]⟩:St)) Z6o r ?_ fun J1=>?_
 ·intro x35 h;rw [Z6o] at h;(try dsimp only);refine Zk2 5 ?_;dsimp only [go_sem];refine An ?_;exact Z75 Zu4 ok94 h rfl rfl
 ·refine Zk2 1 ?_;dsimp only [go_sem];refine An ?_;refine Zf4 h (fun ((x16,x17):(Int×(List Int)))=>(⟨(.sl 1 (List.map Zu4 x1) :: .any :: .any :: .osl 0 :: .iv x16::an 36 []),[],[some ⟨3,1,List.map Zu4 x17⟩]⟩:St)) (by simp [go_sem]) (by rintro ⟨x16,x17⟩;first | rfl | simp [go_sem]) ?_;rintro n1 ⟨x16,x17⟩ y1 h hin1 hout1;rw [Z8o] at h;(try dsimp only);refine Zk2 8 ?_;dsimp only [go_sem];refine An ?_;refine Zg4 h rfl (fun _ h=>?_) fun _ h=>?_
  ·refine Zk2 2 ?_;dsimp only [go_sem];refine An ?_;refine Ze4 (fun (x29:(List Int))=>(⟨(.sl 1 (List.map Zu4 x1) :: .any :: .any :: .osl 0 :: .iv x16::an 36 []),[],[some ⟨3,1,List.map Zu4 x29⟩]⟩:St)) (Z7o x16) y1 ?_ fun J2=>?_
   ·intro x29 h;rw [Z7o] at h;(try dsimp only);refine Zk2 5 ?_;dsimp only [go_sem];refine An ?_;exact Zp4 h hin1
   ·refine Zk2 7 ?_;dsimp only [go_sem];refine An ?_;obtain ⟨x18,ex18,h⟩:=Bs h;refine Zj4 Zu4 ex18 trivial rfl rfl rfl ?_;refine Zk2 1 ?_;dsimp only [go_sem];refine An ?_;obtain ⟨x19,ex19,h⟩:=Bs h;refine Zs4 trivial ((Zr4.refl _).slice 0 rfl) (Zvc x17 x18 _ ex19) (h:=?_);refine Zk2 1 ?_;dsimp only [go_sem];refine An ?_;refine Zg4 h rfl (fun _ h=>?_) fun _ h=>?_
    ·refine Zk2 1 ?_;dsimp only [go_sem];refine An ?_;exact Zq4 J2 (s:=x17) h
    ·refine Zk2 6 ?_;dsimp only [go_sem];refine An ?_;obtain ⟨x20,ex20,h⟩:=Bs h;refine Zj4 Zu4 ex20 trivial rfl rfl rfl ?_;refine Zk2 1 ?_;dsimp only [go_sem];refine An ?_;obtain ⟨x21,ex21,h⟩:=Bs h;refine Zs4 trivial ((Zr4.refl _).slice 0 rfl) (Z5o x17 x20 _ ex21) (h:=?_);refine Zk2 2 ?_;dsimp only [go_sem];refine An ?_;refine Z73 0 rfl ?_;dsimp only [go_sem];refine Zf3 (by kernel_rfl) fun all hall hs hnap haf=>?_;dsimp only [go_sem]
     refine Z65 hall hs haf hnap 6 10 [0,1,2,2,2,4,2,3] [(26,[.sl 1 (List.map Zu4 x17),.iv x21]),(2,[.sl 1 (List.map Zu4 x1),.iv x16]),(4,[.sl 1 (List.map Zu4 x17),.iv x21])] (by kernel_rfl) ?_;dsimp only [go_sem];obtain ⟨x22,ex22,h⟩:=Bs h;refine Zk4 hall hs haf hnap 7 Zu4 ex22 rfl rfl trivial rfl rfl rfl rfl ?_;refine Z55 hall hs haf hnap 1 8 ?_;dsimp only [go_sem];refine An ?_;obtain ⟨x23,ex23,h⟩:=Bs h;refine Z15 hall hs haf hnap 3 Zu4 ex23 rfl rfl trivial rfl rfl rfl rfl rfl ?_;dsimp only [go_sem];obtain ⟨x24,ex24,h⟩:=Bs h
     refine Z15 hall hs haf hnap 13 Zu4 ex24 rfl rfl trivial rfl rfl rfl rfl rfl ?_;dsimp only [go_sem];refine Zr3 0 9 rfl ?_ ?_
     ·refine Zv3 hall rfl trivial ?_;dsimp only [go_sem];obtain ⟨x25,ex25,h⟩:=Bs h;refine Zr3 4 9 rfl ?_ ?_
      ·refine Zm4 Zu4 ex25 hall rfl trivial rfl rfl rfl ?_;dsimp only [go_sem];refine Zq3 9 rfl ?_;refine Zv3 hall rfl trivial ?_;dsimp only [go_sem];refine Zq3 10 rfl ?_;obtain ⟨x27,ex27,h⟩:=Bs h;refine Zm4 Zu4 ex27 hall rfl trivial rfl rfl rfl ?_;dsimp only [go_sem];refine Zq3 14 rfl ?_;obtain ⟨x28,ex28,h⟩:=Bs h;refine Zm4 Zu4 ex28 hall rfl trivial rfl rfl rfl ?_;dsimp only [go_sem];refine Z55 hall hs haf hnap 1 0 ?_;dsimp only [go_sem];refine An ?_;refine Zp3 rfl ?_ _;refine Zk2 1 ?_;dsimp only [go_sem];refine An ?_
       refine Z14 5 0 rfl rfl rfl ?_;dsimp only [go_sem];exact Zq4 J2 (s:=x28) h
      ·refine Zv3 hall rfl trivial ?_;dsimp only [go_sem];refine Zq3 4 rfl ?_;refine Zm4 Zu4 ex25 hall rfl trivial rfl rfl rfl ?_;dsimp only [go_sem];refine Zq3 10 rfl ?_;obtain ⟨x27,ex27,h⟩:=Bs h;refine Zm4 Zu4 ex27 hall rfl trivial rfl rfl rfl ?_;dsimp only [go_sem];refine Zq3 14 rfl ?_;obtain ⟨x28,ex28,h⟩:=Bs h;refine Zm4 Zu4 ex28 hall rfl trivial rfl rfl rfl ?_;dsimp only [go_sem];refine Z55 hall hs haf hnap 1 0 ?_;dsimp only [go_sem];refine An ?_;refine Zp3 rfl ?_ _;refine Zk2 1 ?_;dsimp only [go_sem];refine An ?_
       refine Z14 5 0 rfl rfl rfl ?_;dsimp only [go_sem];exact Zq4 J2 (s:=x28) h
     ·refine Zv3 hall rfl trivial ?_;dsimp only [go_sem];refine Zq3 0 rfl ?_;refine Zv3 hall rfl trivial ?_;dsimp only [go_sem];refine Zq3 4 rfl ?_;obtain ⟨x25,ex25,h⟩:=Bs h;refine Zm4 Zu4 ex25 hall rfl trivial rfl rfl rfl ?_;dsimp only [go_sem];refine Zq3 10 rfl ?_;obtain ⟨x26,ex26,h⟩:=Bs h;refine Zm4 Zu4 ex26 hall rfl trivial rfl rfl rfl ?_;dsimp only [go_sem];refine Zq3 14 rfl ?_;obtain ⟨x27,ex27,h⟩:=Bs h;refine Zm4 Zu4 ex27 hall rfl trivial rfl rfl rfl ?_;dsimp only [go_sem];refine Z55 hall hs haf hnap 1 0 ?_
      dsimp only [go_sem];refine An ?_;refine Zp3 rfl ?_ _;refine Zk2 1 ?_;dsimp only [go_sem];refine An ?_;refine Z14 5 0 rfl rfl rfl ?_;dsimp only [go_sem];exact Zq4 J2 (s:=x27) h
  ·refine Zk2 1 ?_;dsimp only [go_sem];refine An ?_;exact Zq4 J1 (s:=x17) (Zd4 h hout1)
theorem Zbo (x1:(List Int)) (r:(List Int)) (h:Z9o x1=some r):Zp2 Tryz.prog 94 [.sl 1 (List.map Zu4 x1)] (.sl 1 (List.map Zu4 r)):=(Zao x1 r h).sealed
set_option maxRecDepth 100000
set_option maxHeartbeats 4000000
@[go_sem] def e52_L0:EC:=.seq (.seq (.reg [(Qm 16 6),(Qm 17 1),(Qa 18 (.len (.t 17))),(Qa 19 (.bin .lss (.t 16) (.t 18)))]) (.ite (.t 19) (.skip) (.exit 0))) (.seq (.blk 1 (.seq (.drw [(Qe 22 5 2),(Qm 23 1),(Qm 24 6),(Qk 25 1 23 24),(Ql 26 25),(Qa 27 (.call 93 [(.t 22),(.t 26)])),(Qm 7 27)] [[],[],[],[1,2],[3],[0,4],[5,5,0,1,2,3,4,5]] [[5],[3],[3],[1,2,4],[3,5],[0,4,6],[5]]) (.seq (.reg [(Qm 28 7),(Qa 29 (.bin .lss (.t 28) (.c (.iv 0)))),(Qm 30 29),(Qh 31 30 false 0 2),(Qh 32 30 false 2 31),(Qn 33 30 false 32),(Qg 34 30 false (.mv (.t 7))),(Qg 35 30 false (.idx 8 (.t 33) (.t 34))),(Qh 36 30 false 2 35),(Qn 37 30 false 36),(Qg 38 30 false (.bin .neq (.t 37) (.c (.iv 0)))),(Qq 39 30 38)]) (.ite (.t 39) (.seq (.reg [(Qa 40 (.build [.iv 0,.iv 0,.nl,.iv 0,.nl] [])),(Qs 5 4 40),(Qi 5 151)]) (.ret)) (.skip))))) (.reg [(Qm 20 6),(Qv 21 20 1),(Qm 6 21)]))
@[go_sem] def e52:EC:=.seq (.reg [(Qx 2 63 5 0),(Qa 4 (.alloc 63 [.iv 0,.iv 0,.nl,.iv 0,.nl])),(Qi 5 0)]) (.seq (.seq (.reg [(Qe 8 5 2),(Qa 9 (.call 61 [(.t 8)])),(Qa 10 (.not (.t 9)))]) (.ite (.t 10) (.seq (.reg [(Qa 11 (.build [.iv 0,.iv 0,.nl,.iv 0,.nl] [])),(Qs 5 4 11),(Qi 5 150)]) (.ret)) (.skip))) (.seq (.seq (.reg [(Qf 12 3 2),(Ql 13 12),(Qa 14 (.bin .neq (.t 13) (.c (.iv 0))))]) (.ite (.t 14) (.seq (.reg [(Qa 15 (.build [.iv 0,.iv 0,.nl,.iv 0,.nl] [])),(Qs 5 4 15),(Qi 5 152)]) (.ret)) (.skip))) (.seq (.seq (.reg [(Qi 6 0)]) (.blk 0 (.loop e52_L0))) (.seq (.reg [(Qm 41 1),(Qa 42 (.call 94 [(.t 41)])),(Qf 43 3 2),(Qb (.store 1 (.t 43) (.c (.iv 1)))),(Qf 44 4 2),(Qs 1 44 42)]) (.seq (.reg [(Qe 45 5 2),(Qs 5 4 45),(Qi 5 0)]) (.ret))))))
theorem ok52:FnOK Tryz.prog 52 Tryz.f52 e52 [.c 4 (some 5),.t 5] 2 44:=⟨by kernel_rfl,⟨_,rfl,by kernel_rfl⟩,by kernel_rfl,by kernel_rfl⟩
noncomputable def Zco (x1:Drinker) (x2:(List Int)):Unit→Option (Drinker×Int)
| ()=>
 (Z9o x2).bind fun x18=>
 some ((Drinker.mk x1.Diner 1 x18),0)
noncomputable def Zdo (x9:Int):Bool→Option (Int ⊕ (Drinker×Int))
| x13=>
 ifb x13 (
 Option.map Sum.inr (some ((Drinker.mk ((Diner.mk 0 0 (([]:(List Side))))) 0 (([]:(List Int)))),151))) (
 some (.inl (wr (x9+1))))
noncomputable def Zeo (x1:Drinker) (x2:(List Int)):Int→Option (Int ⊕ (Drinker×Int))
| x9=>
 ifb (decide (x9<(ln Zu4 x2))) (
 (at_ x2 x9).bind fun x10=>
 (Zsn x1 x10).bind fun x11=>
 ifb (decide (x11<0)) (
 (Zdo x9) true) (
 (at_ x1.Diner.Sides x11).bind fun x12=>
 (Zdo x9) (!decide (x12.State=0)))) (
 Option.map Sum.inr ((Zco x1 x2) ()))
noncomputable def Zfo (x1:Drinker) (x2:(List Int)):Option (Drinker×Int):=
 (Zyn x1).bind fun x3=>
 ifb (!x3) (
 some ((Drinker.mk ((Diner.mk 0 0 (([]:(List Side))))) 0 (([]:(List Int)))),150)) (
 ifb (!decide (x1.Thirst=0)) (
 some ((Drinker.mk ((Diner.mk 0 0 (([]:(List Side))))) 0 (([]:(List Int)))),152)) (
 loop (Zeo x1 x2) 0))
theorem Zgo (x1:Drinker) (x2:(List Int)) (r:(Drinker×Int)) (h:Zfo x1 x2=some r):Zp2 Tryz.prog 52 [.agg (Drinker.row x1),.sl 1 (List.map Zu4 x2)] (.tup [.agg (Drinker.row r.1),.iv r.2]):=by
 refine Zt2 ok52 rfl rfl fun w0 H0=>?_
 rw [Zfo] at h
 refine Zk2 10 ?_;dsimp only [go_sem];refine An ?_;obtain ⟨x3,ex3,h⟩:=Bs h;refine Zy2 trivial (Zzn x1 _ ex3) (h:=?_);refine Zk2 2 ?_;dsimp only [go_sem];refine An ?_;refine Zg4 h rfl (fun _ h=>?_) fun _ h=>?_
 ·refine Zk2 6 ?_;dsimp only [go_sem];refine An ?_;exact Zo4 (res:=fun (r:(Drinker×Int))=>.tup [.agg (Drinker.row r.1),.iv r.2]) ok52 h
 ·refine Zk2 8 ?_;dsimp only [go_sem];refine An ?_;refine Zg4 h rfl (fun _ h=>?_) fun _ h=>?_
  ·refine Zk2 6 ?_;dsimp only [go_sem];refine An ?_;exact Zo4 (res:=fun (r:(Drinker×Int))=>.tup [.agg (Drinker.row r.1),.iv r.2]) ok52 h
  ·refine Zk2 6 ?_;dsimp only [go_sem];refine An ?_;refine Ze4 (fun (_:Unit)=>(⟨(.any :: .sl 1 (List.map Zu4 x2) :: .ptr 0 0 :: .any :: .ptr 1 0::an 41 []),[some ⟨63,[.iv x1.Diner.ID,.iv x1.Diner.Phase,.sl 8 (List.map Side.row x1.Diner.Sides),.iv x1.Thirst,.sl 1 (List.map Zu4 x1.Need)]⟩,some ⟨63,[.iv 0,.iv 0,.nl,.iv 0,.nl]⟩],[]⟩:St)) (Zco x1 x2) r ?_ fun J1=>?_
   ·rintro ⟨⟩ h;rw [Zco] at h;(try dsimp only);refine Zk2 3 ?_;dsimp only [go_sem];refine An ?_;obtain ⟨x18,ex18,h⟩:=Bs h;refine Zy2 trivial (Zbo x2 _ ex18) (h:=?_);refine Zk2 11 ?_;dsimp only [go_sem];refine An ?_;exact Zo4 (res:=fun (r:(Drinker×Int))=>.tup [.agg (Drinker.row r.1),.iv r.2]) ok52 h
   ·refine Zk2 1 ?_;dsimp only [go_sem];refine An ?_;refine Zf4 h (fun (x9:Int)=>(⟨(.any :: .sl 1 (List.map Zu4 x2) :: .ptr 0 0 :: .any :: .ptr 1 0 :: .any :: .iv x9::an 39 []),[some ⟨63,[.iv x1.Diner.ID,.iv x1.Diner.Phase,.sl 8 (List.map Side.row x1.Diner.Sides),.iv x1.Thirst,.sl 1 (List.map Zu4 x1.Need)]⟩,some ⟨63,[.iv 0,.iv 0,.nl,.iv 0,.nl]⟩],[]⟩:St)) (by simp [go_sem]) (by intro x9;first | rfl | simp [go_sem]) ?_;rintro n1 x9 y1 h hin1 hout1;rw [Zeo] at h;(try dsimp only);refine Zk2 8 ?_;dsimp only [go_sem];refine An ?_
    refine Zg4 h rfl (fun _ h=>?_) fun _ h=>?_
    ·refine Zk2 4 ?_;dsimp only [go_sem];refine An ?_;refine Zf3 (by kernel_rfl) fun all hall hs hnap haf=>?_;dsimp only [go_sem];refine Z55 hall hs haf hnap 3 4 ?_;dsimp only [go_sem];refine An ?_;obtain ⟨x10,ex10,h⟩:=Bs h;refine Zk4 hall hs haf hnap 3 Zu4 ex10 rfl rfl trivial rfl rfl rfl rfl ?_;refine Z55 hall hs haf hnap 1 2 ?_;dsimp only [go_sem];refine An ?_;refine Zq3 5 rfl ?_;obtain ⟨x11,ex11,h⟩:=Bs h;refine Zw3 hall rfl trivial (Ztn x1 x10 _ ex11) (h:=?_);dsimp only [go_sem];refine Z55 hall hs haf hnap 1 0 ?_
     dsimp only [go_sem];refine An ?_;refine Zp3 rfl ?_ _;refine Zk2 5 ?_;dsimp only [go_sem];refine An ?_;refine Ze4 (fun (x13:Bool)=>(⟨(.any :: .sl 1 (List.map Zu4 x2) :: .ptr 0 0 :: .any :: .ptr 1 0 :: .any :: .iv x9::an 32 (.bv x13::an 6 [])),[some ⟨63,[.iv x1.Diner.ID,.iv x1.Diner.Phase,.sl 8 (List.map Side.row x1.Diner.Sides),.iv x1.Thirst,.sl 1 (List.map Zu4 x1.Need)]⟩,some ⟨63,[.iv 0,.iv 0,.nl,.iv 0,.nl]⟩],[]⟩:St)) (Zdo x9) y1 ?_ fun J2=>?_
     ·intro x13 h;rw [Zdo] at h;(try dsimp only);refine Zg4 h rfl (fun _ h=>?_) fun _ h=>?_
      ·refine Zk2 6 ?_;dsimp only [go_sem];refine An ?_;exact Zo4 (res:=fun (r:(Drinker×Int))=>.tup [.agg (Drinker.row r.1),.iv r.2]) ok52 (Zd4 h hout1)
      ·refine Zk2 7 ?_;dsimp only [go_sem];refine An ?_;exact Zp4 h hin1
     ·refine Zn4 30 h rfl (fun _ h=>?_) fun _ h=>?_
      ·dsimp only [go_sem];refine Zk2 10 ?_;dsimp only [go_sem];refine An ?_;exact Zq4 J2 (s:=true) h
      ·dsimp only [go_sem];refine Zk2 4 ?_;dsimp only [go_sem];refine An ?_;obtain ⟨x12,ex12,h⟩:=Bs h;refine Zj4 Side.row ex12 trivial rfl rfl rfl ?_;refine Zk2 5 ?_;dsimp only [go_sem];refine An ?_;exact Zq4 J2 (s:=!decide (x12.State=0)) h
    ·refine Zk2 1 ?_;dsimp only [go_sem];refine An ?_;exact Zq4 J1 (s:=()) (Zd4 h hout1)
set_option maxRecDepth 100000
set_option maxHeartbeats 4000000
@[go_sem] def e53:EC:=.seq (.reg [(Qx 1 63 5 0),(Qa 2 (.alloc 63 [.iv 0,.iv 0,.nl,.iv 0,.nl])),(Qi 3 0)]) (.seq (.seq (.reg [(Qe 4 5 1),(Qa 5 (.call 61 [(.t 4)])),(Qa 6 (.not (.t 5)))]) (.ite (.t 6) (.seq (.reg [(Qa 7 (.build [.iv 0,.iv 0,.nl,.iv 0,.nl] [])),(Qs 5 2 7),(Qi 3 150)]) (.ret)) (.skip))) (.seq (.seq (.reg [(Qf 8 3 1),(Ql 9 8),(Qa 10 (.bin .eql (.t 9) (.c (.iv 0))))]) (.ite (.t 10) (.seq (.reg [(Qa 11 (.build [.iv 0,.iv 0,.nl,.iv 0,.nl] [])),(Qs 5 2 11),(Qi 3 152)]) (.ret)) (.skip))) (.seq (.reg [(Qf 12 3 1),(Qb (.store 1 (.t 12) (.c (.iv 0)))),(Qf 13 4 1),(Qb (.store 1 (.t 13) (.c .nl)))]) (.seq (.reg [(Qe 14 5 1),(Qs 5 2 14),(Qi 3 0)]) (.ret)))))
theorem ok53:FnOK Tryz.prog 53 Tryz.f53 e53 [.c 2 (some 5),.t 3] 1 14:=⟨by kernel_rfl,⟨_,rfl,by kernel_rfl⟩,by kernel_rfl,by kernel_rfl⟩
noncomputable def Zho (x1:Drinker):Option (Drinker×Int):=
 (Zyn x1).bind fun x2=>
 ifb (!x2) (
 some ((Drinker.mk ((Diner.mk 0 0 (([]:(List Side))))) 0 (([]:(List Int)))),150)) (
 ifb (decide (x1.Thirst=0)) (
 some ((Drinker.mk ((Diner.mk 0 0 (([]:(List Side))))) 0 (([]:(List Int)))),152)) (
 some ((Drinker.mk x1.Diner 0 (([]:(List Int)))),0)))
theorem Zio (x1:Drinker) (r:(Drinker×Int)) (h:Zho x1=some r):Zp2 Tryz.prog 53 [.agg (Drinker.row x1)] (.tup [.agg (Drinker.row r.1),.iv r.2]):=by
 refine Zt2 ok53 rfl rfl fun w0 H0=>?_
 rw [Zho] at h
 refine Zk2 10 ?_;dsimp only [go_sem];refine An ?_;obtain ⟨x2,ex2,h⟩:=Bs h;refine Zy2 trivial (Zzn x1 _ ex2) (h:=?_);refine Zk2 2 ?_;dsimp only [go_sem];refine An ?_;refine Zg4 h rfl (fun _ h=>?_) fun _ h=>?_
 ·refine Zk2 6 ?_;dsimp only [go_sem];refine An ?_;exact Zo4 (res:=fun (r:(Drinker×Int))=>.tup [.agg (Drinker.row r.1),.iv r.2]) ok53 h
 ·refine Zk2 8 ?_;dsimp only [go_sem];refine An ?_;refine Zg4 h rfl (fun _ h=>?_) fun _ h=>?_
  ·refine Zk2 6 ?_;dsimp only [go_sem];refine An ?_;exact Zo4 (res:=fun (r:(Drinker×Int))=>.tup [.agg (Drinker.row r.1),.iv r.2]) ok53 h
  ·refine Zk2 14 ?_;dsimp only [go_sem];refine An ?_;exact Zo4 (res:=fun (r:(Drinker×Int))=>.tup [.agg (Drinker.row r.1),.iv r.2]) ok53 h
set_option maxRecDepth 100000
set_option maxHeartbeats 4000000
@[go_sem] def e54:EC:=.seq (.reg [(Qx 3 63 5 0),(Qx 5 93 3 2),(Qa 6 (.alloc 63 [.iv 0,.iv 0,.nl,.iv 0,.nl])),(Qi 7 0)]) (.seq (.seq (.reg [(Qe 12 5 3),(Qa 13 (.call 61 [(.t 12)])),(Qa 14 (.not (.t 13)))]) (.ite (.t 14) (.seq (.reg [(Qa 15 (.build [.iv 0,.iv 0,.nl,.iv 0,.nl] [])),(Qs 5 6 15),(Qi 7 150)]) (.ret)) (.skip))) (.seq (.reg [(Qe 16 5 3),(Qm 17 1),(Qa 18 (.call 93 [(.t 16),(.t 17)])),(Qm 8 18)]) (.seq (.seq (.drw [(Qm 19 8),(Qa 20 (.bin .lss (.t 19) (.c (.iv 0)))),(Qm 21 20),(Qh 22 21 false 0 3),(Qh 23 21 false 2 22),(Qn 24 21 false 23),(Qg 25 21 false (.mv (.t 8))),(Qg 26 21 false (.idx 8 (.t 24) (.t 25))),(Qh 27 21 false 1 26),(Qn 28 21 false 27),(Qh 29 21 false 1 5),(Qn 30 21 false 29),(Qg 31 21 false (.bin .neq (.t 28) (.t 30))),(Qq 32 21 31)] [[],[0],[1],[2],[3,2],[4,2],[2],[5,6,2],[7,2],[8,2],[2],[10,2],[9,11,2],[2,12]] [[1],[0,2],[1,3,4,5,6,7,8,9,10,11,12,13],[2,4],[2,3,5],[2,4,7],[2,7],[2,5,6,8],[2,7,9],[2,8,12],[2,11],[2,10,12],[2,9,11,13],[2,12]]) (.ite (.t 32) (.seq (.reg [(Qa 33 (.build [.iv 0,.iv 0,.nl,.iv 0,.nl] [])),(Qs 5 6 33),(Qi 7 131)]) (.ret)) (.skip))) (.seq (.reg [(Qf 34 0 3),(Qf 35 2 34),(Ql 36 35),(Qm 37 8),(Qk 38 8 36 37),(Qe 39 8 38),(Qa 9 (.alloc 66 [.iv 0,.iv 0,.iv 0,.ff,.ff,.ff,.ff,.ff])),(Qs 8 9 39)]) (.seq (.seq (.reg [(Qf 40 2 5),(Ql 41 40),(Qa 42 (.bin .eql (.t 41) (.c (.iv 0)))),(Qm 43 42),(Qh 44 43 true 0 5),(Qn 45 43 true 44),(Qg 46 43 true (.bin .eql (.t 45) (.c (.iv 3)))),(Qp 47 43 46)]) (.ite (.t 47) (.seq (.seq (.reg [(Qf 48 6 9),(Ql 49 48)]) (.ite (.t 49) (.seq (.reg [(Qa 50 (.build [.iv 0,.iv 0,.nl,.iv 0,.nl] [])),(Qs 5 6 50),(Qi 7 132)]) (.ret)) (.skip))) (.seq (.reg [(Qf 51 6 9),(Qb (.store 1 (.t 51) (.c .tt)))]) (.seq (.reg [(Qf 52 0 3),(Qe 53 3 52),(Qm 54 8),(Qe 55 8 9),(Qa 56 (.call 95 [(.t 53),(.t 54),(.t 55)])),(Qf 57 0 3),(Qs 3 57 56)]) (.seq (.reg [(Qe 58 5 3),(Qs 5 6 58),(Qi 7 0)]) (.ret))))) (.skip))) (.seq (.seq (.reg [(Qf 59 2 5),(Ql 60 59),(Qa 61 (.bin .eql (.t 60) (.c (.iv 0)))),(Qm 62 61),(Qh 63 62 true 0 5),(Qn 64 62 true 63),(Qg 65 62 true (.bin .eql (.t 64) (.c (.iv 4)))),(Qp 66 62 65)]) (.ite (.t 66) (.seq (.seq (.reg [(Qf 67 7 9),(Ql 68 67)]) (.ite (.t 68) (.seq (.reg [(Qa 69 (.build [.iv 0,.iv 0,.nl,.iv 0,.nl] [])),(Qs 5 6 69),(Qi 7 132)]) (.ret)) (.skip))) (.seq (.reg [(Qf 70 7 9),(Qb (.store 1 (.t 70) (.c .tt)))]) (.seq (.reg [(Qf 71 0 3),(Qe 72 3 71),(Qm 73 8),(Qe 74 8 9),(Qa 75 (.call 95 [(.t 72),(.t 73),(.t 74)])),(Qf 76 0 3),(Qs 3 76 75)]) (.seq (.reg [(Qe 77 5 3),(Qs 5 6 77),(Qi 7 0)]) (.ret))))) (.skip))) (.seq (.reg [(Qf 79 0 3),(Qe 80 3 79),(Qm 81 1),(Qe 82 3 5),(Qa 83 (.call 96 [(.t 80),(.t 81),(.t 82)])),(Qm 78 83),(Qa 84 (.ext (.t 78) 0)),(Qa 85 (.ext (.t 78) 1)),(Qa 10 (.alloc 61 [.iv 0,.iv 0,.nl])),(Qs 3 10 84),(Qm 11 85)]) (.seq (.seq (.reg [(Qm 86 11),(Qa 87 (.bin .neq (.t 86) (.c (.iv 0))))]) (.ite (.t 87) (.seq (.reg [(Qa 88 (.build [.iv 0,.iv 0,.nl,.iv 0,.nl] [])),(Qm 89 11),(Qs 5 6 88),(Qm 7 89)]) (.ret)) (.skip))) (.seq (.reg [(Qe 90 3 10),(Qf 91 0 3),(Qs 3 91 90)]) (.seq (.reg [(Qe 92 5 3),(Qs 5 6 92),(Qi 7 0)]) (.ret)))))))))))
theorem ok54:FnOK Tryz.prog 54 Tryz.f54 e54 [.c 6 (some 5),.t 7] 3 90:=⟨by kernel_rfl,⟨_,rfl,by kernel_rfl⟩,by kernel_rfl,by kernel_rfl⟩
noncomputable def Zjo (x1:Drinker) (x2:Int) (x3:Msg) (x5:Int) (x8:Side):Bool→Option (Drinker×Int)
| x11=>
 ifb x11 (
 ifb x8.Ask (
 some ((Drinker.mk ((Diner.mk 0 0 (([]:(List Side))))) 0 (([]:(List Int)))),132)) (
 (Zbm x1.Diner x5 ((Side.mk x8.Peer x8.Epoch x8.State x8.Fork x8.Dirty x8.Token x8.Bottle true))).bind fun x12=>
 some ((Drinker.mk x12 x1.Thirst x1.Need),0))) (
 (Z7n x1.Diner x2 x3).bind fun x13=>
 ifb (!decide (x13.2=0)) (
 some ((Drinker.mk ((Diner.mk 0 0 (([]:(List Side))))) 0 (([]:(List Int)))),x13.2)) (
 some ((Drinker.mk x13.1 x1.Thirst x1.Need),0)))
noncomputable def Zko (x1:Drinker) (x2:Int) (x3:Msg) (x5:Int) (x8:Side):Bool→Option (Drinker×Int)
| x9=>
 ifb x9 (
 ifb x8.Bottle (
 some ((Drinker.mk ((Diner.mk 0 0 (([]:(List Side))))) 0 (([]:(List Int)))),132)) (
 (Zbm x1.Diner x5 ((Side.mk x8.Peer x8.Epoch x8.State x8.Fork x8.Dirty x8.Token true x8.Ask))).bind fun x10=>
 some ((Drinker.mk x10 x1.Thirst x1.Need),0))) (
 ifb (decide (x3.Num=0)) (
 (Zjo x1 x2 x3 x5 x8) (decide (x3.Kind=4))) (
 (Zjo x1 x2 x3 x5 x8) false))
noncomputable def Zlo (x1:Drinker) (x2:Int) (x3:Msg) (x5:Int):Bool→Option (Drinker×Int)
| x7=>
 ifb x7 (
 some ((Drinker.mk ((Diner.mk 0 0 (([]:(List Side))))) 0 (([]:(List Int)))),131)) (
 (at_ x1.Diner.Sides x5).bind fun x8=>
 ifb (decide (x3.Num=0)) (
 (Zko x1 x2 x3 x5 x8) (decide (x3.Kind=3))) (
 (Zko x1 x2 x3 x5 x8) false))
noncomputable def Zmo (x1:Drinker) (x2:Int) (x3:Msg):Option (Drinker×Int):=
 (Zyn x1).bind fun x4=>
 ifb (!x4) (
 some ((Drinker.mk ((Diner.mk 0 0 (([]:(List Side))))) 0 (([]:(List Int)))),150)) (
 (Zsn x1 x2).bind fun x5=>
 ifb (decide (x5<0)) (
 (Zlo x1 x2 x3 x5) true) (
 (at_ x1.Diner.Sides x5).bind fun x6=>
 (Zlo x1 x2 x3 x5) (!decide (x6.Epoch=x3.Epoch))))
theorem Zno (x1:Drinker) (x2:Int) (x3:Msg) (r:(Drinker×Int)) (h:Zmo x1 x2 x3=some r):Zp2 Tryz.prog 54 [.agg (Drinker.row x1),.iv x2,.agg (Msg.row x3)] (.tup [.agg (Drinker.row r.1),.iv r.2]):=by
 refine Zt2 ok54 rfl rfl fun w0 H0=>?_
 rw [Zmo] at h
 refine Zk2 11 ?_;dsimp only [go_sem];refine An ?_;obtain ⟨x4,ex4,h⟩:=Bs h;refine Zy2 trivial (Zzn x1 _ ex4) (h:=?_);refine Zk2 2 ?_;dsimp only [go_sem];refine An ?_;refine Zg4 h rfl (fun _ h=>?_) fun _ h=>?_
 ·refine Zk2 6 ?_;dsimp only [go_sem];refine An ?_;exact Zo4 (res:=fun (r:(Drinker×Int))=>.tup [.agg (Drinker.row r.1),.iv r.2]) ok54 h
 ·refine Zk2 5 ?_;dsimp only [go_sem];refine An ?_;obtain ⟨x5,ex5,h⟩:=Bs h;refine Zy2 trivial (Ztn x1 x2 _ ex5) (h:=?_);refine Zk2 4 ?_;dsimp only [go_sem];refine An ?_
  refine Ze4 (fun (x7:Bool)=>(⟨(.any :: .iv x2 :: .any :: .ptr 0 0 :: .any :: .ptr 1 0 :: .ptr 2 0 :: .any :: .iv x5::an 23 (.bv x7::an 60 [])),[some ⟨63,[.iv x1.Diner.ID,.iv x1.Diner.Phase,.sl 8 (List.map Side.row x1.Diner.Sides),.iv x1.Thirst,.sl 1 (List.map Zu4 x1.Need)]⟩,some ⟨93,[.iv x3.Kind,.iv x3.Epoch,.iv x3.Num]⟩,some ⟨63,[.iv 0,.iv 0,.nl,.iv 0,.nl]⟩],[]⟩:St)) (Zlo x1 x2 x3 x5) r ?_ fun J1=>?_
  ·intro x7 h;rw [Zlo] at h;(try dsimp only);refine Zg4 h rfl (fun _ h=>?_) fun _ h=>?_
   ·refine Zk2 6 ?_;dsimp only [go_sem];refine An ?_;exact Zo4 (res:=fun (r:(Drinker×Int))=>.tup [.agg (Drinker.row r.1),.iv r.2]) ok54 h
   ·refine Zk2 7 ?_;dsimp only [go_sem];refine An ?_;obtain ⟨x8,ex8,h⟩:=Bs h;refine Zj4 Side.row ex8 trivial rfl rfl rfl ?_;refine Zk2 11 ?_;dsimp only [go_sem];refine An ?_
    refine Ze4 (fun (x9:Bool)=>(⟨(.any :: .iv x2 :: .any :: .ptr 0 0 :: .any :: .ptr 1 0 :: .ptr 2 0 :: .any :: .iv x5 :: .ptr 3 0::an 37 (.bv x9::an 45 [])),[some ⟨63,[.iv x1.Diner.ID,.iv x1.Diner.Phase,.sl 8 (List.map Side.row x1.Diner.Sides),.iv x1.Thirst,.sl 1 (List.map Zu4 x1.Need)]⟩,some ⟨93,[.iv x3.Kind,.iv x3.Epoch,.iv x3.Num]⟩,some ⟨63,[.iv 0,.iv 0,.nl,.iv 0,.nl]⟩,some ⟨66,[.iv x8.Peer,.iv x8.Epoch,.iv x8.State,.bv x8.Fork,.bv x8.Dirty,.bv x8.Token,.bv x8.Bottle,.bv x8.Ask]⟩],[]⟩:St)) (Zko x1 x2 x3 x5 x8) r ?_ fun J2=>?_
    ·intro x9 h;rw [Zko] at h;(try dsimp only);refine Zg4 h rfl (fun _ h=>?_) fun _ h=>?_
     ·refine Zk2 6 ?_;dsimp only [go_sem];refine An ?_;refine Zg4 h rfl (fun _ h=>?_) fun _ h=>?_
      ·refine Zk2 6 ?_;dsimp only [go_sem];refine An ?_;exact Zo4 (res:=fun (r:(Drinker×Int))=>.tup [.agg (Drinker.row r.1),.iv r.2]) ok54 h
      ·refine Zk2 12 ?_;dsimp only [go_sem];refine An ?_;obtain ⟨x10,ex10,h⟩:=Bs h;refine Zy2 trivial (Zcm x1.Diner x5 ((Side.mk x8.Peer x8.Epoch x8.State x8.Fork x8.Dirty x8.Token true x8.Ask)) _ ex10) (h:=?_);refine Zk2 9 ?_;dsimp only [go_sem];refine An ?_;exact Zo4 (res:=fun (r:(Drinker×Int))=>.tup [.agg (Drinker.row r.1),.iv r.2]) ok54 h
     ·refine Zk2 8 ?_;dsimp only [go_sem];refine An ?_
      refine Ze4 (fun (x11:Bool)=>(⟨(.any :: .iv x2 :: .any :: .ptr 0 0 :: .any :: .ptr 1 0 :: .ptr 2 0 :: .any :: .iv x5 :: .ptr 3 0::an 56 (.bv x11::an 26 [])),[some ⟨63,[.iv x1.Diner.ID,.iv x1.Diner.Phase,.sl 8 (List.map Side.row x1.Diner.Sides),.iv x1.Thirst,.sl 1 (List.map Zu4 x1.Need)]⟩,some ⟨93,[.iv x3.Kind,.iv x3.Epoch,.iv x3.Num]⟩,some ⟨63,[.iv 0,.iv 0,.nl,.iv 0,.nl]⟩,some ⟨66,[.iv x8.Peer,.iv x8.Epoch,.iv x8.State,.bv x8.Fork,.bv x8.Dirty,.bv x8.Token,.bv x8.Bottle,.bv x8.Ask]⟩],[]⟩:St)) (Zjo x1 x2 x3 x5 x8) r ?_ fun J3=>?_
      ·intro x11 h;rw [Zjo] at h;(try dsimp only);refine Zg4 h rfl (fun _ h=>?_) fun _ h=>?_
       ·refine Zk2 6 ?_;dsimp only [go_sem];refine An ?_;refine Zg4 h rfl (fun _ h=>?_) fun _ h=>?_
        ·refine Zk2 6 ?_;dsimp only [go_sem];refine An ?_;exact Zo4 (res:=fun (r:(Drinker×Int))=>.tup [.agg (Drinker.row r.1),.iv r.2]) ok54 h
        ·refine Zk2 12 ?_;dsimp only [go_sem];refine An ?_;obtain ⟨x12,ex12,h⟩:=Bs h;refine Zy2 trivial (Zcm x1.Diner x5 ((Side.mk x8.Peer x8.Epoch x8.State x8.Fork x8.Dirty x8.Token x8.Bottle true)) _ ex12) (h:=?_);refine Zk2 9 ?_;dsimp only [go_sem];refine An ?_;exact Zo4 (res:=fun (r:(Drinker×Int))=>.tup [.agg (Drinker.row r.1),.iv r.2]) ok54 h
       ·refine Zk2 7 ?_;dsimp only [go_sem];refine An ?_;obtain ⟨x13,ex13,h⟩:=Bs h;refine Zy2 trivial (Z8n x1.Diner x2 x3 _ ex13) (h:=?_);refine Zk2 13 ?_;dsimp only [go_sem];refine An ?_;refine Zg4 h rfl (fun _ h=>?_) fun _ h=>?_
        ·refine Zk2 7 ?_;dsimp only [go_sem];refine An ?_;exact Zo4 (res:=fun (r:(Drinker×Int))=>.tup [.agg (Drinker.row r.1),.iv r.2]) ok54 h
        ·refine Zk2 13 ?_;dsimp only [go_sem];refine An ?_;exact Zo4 (res:=fun (r:(Drinker×Int))=>.tup [.agg (Drinker.row r.1),.iv r.2]) ok54 h
      ·refine Zn4 62 h rfl (fun _ h=>?_) fun _ h=>?_
       ·dsimp only [go_sem];refine Zk2 5 ?_;dsimp only [go_sem];refine An ?_;exact Zq4 J3 (s:=decide (x3.Kind=4)) h
       ·dsimp only [go_sem];refine Zk2 5 ?_;dsimp only [go_sem];refine An ?_;exact Zq4 J3 (s:=false) h
    ·refine Zn4 43 h rfl (fun _ h=>?_) fun _ h=>?_
     ·dsimp only [go_sem];refine Zk2 5 ?_;dsimp only [go_sem];refine An ?_;exact Zq4 J2 (s:=decide (x3.Kind=3)) h
     ·dsimp only [go_sem];refine Zk2 5 ?_;dsimp only [go_sem];refine An ?_;exact Zq4 J2 (s:=false) h
  ·refine Zf3 (by kernel_rfl) fun all hall hs hnap haf=>?_;dsimp only [go_sem];refine Z55 hall hs haf hnap 3 11 ?_;dsimp only [go_sem];refine An ?_;refine Zx4 21 h rfl (fun _ h=>?_) fun _ h=>?_
   ·dsimp only [go_sem];refine Z65 hall hs haf hnap 11 0 [14] [(32,[.tt])] (by kernel_rfl) ?_;dsimp only [go_sem];refine Zp3 rfl ?_ _;exact Zq4 J1 (s:=true) h
   ·dsimp only [go_sem];refine Z65 hall hs haf hnap 6 5 [7,3,2,2] [(22,[.ptr 0 0,.ptr 0 2,.sl 8 (List.map Side.row x1.Diner.Sides),.iv x5]),(3,[.ptr 1 1,.iv x3.Epoch])] (by kernel_rfl) ?_;dsimp only [go_sem];obtain ⟨x6,ex6,h⟩:=Bs h;refine Zk4 hall hs haf hnap 7 Side.row ex6 rfl rfl trivial rfl rfl rfl rfl ?_;refine Z55 hall hs haf hnap 4 0 ?_;dsimp only [go_sem];refine An ?_;refine Zp3 rfl ?_ _;exact Zq4 J1 (s:=!decide (x6.Epoch=x3.Epoch)) h
theorem split_lt (v:Int):∀ {l:List Int},l.Pairwise (· < ·)→l.filter (fun x=>decide (x<v))++l.filter (fun x=>!decide (x<v))=l
 | [],_=>rfl
 | x::l,h=>by
   rw [List.pairwise_cons] at h
   by_cases hx:x<v
   ·have:=split_lt v h.2
    simp only [List.filter_cons,decide_eq_true hx,if_true,Bool.not_true]
    simpa using this
   ·have e1:(x::l).filter (fun x=>decide (x<v))=[]:=List.filter_eq_nil_iff.2 fun y hy=>by
     rcases List.mem_cons.1 hy with rfl | hy
     ·simpa using hx
     ·have:=h.1 y hy;simp;omega
    have e2:(x::l).filter (fun x=>!decide (x<v))=x::l:=List.filter_eq_self.2 fun y hy=>by
     rcases List.mem_cons.1 hy with rfl | hy
     ·simpa using hx
     ·have:=h.1 y hy;simp;omega
    rw [e1,e2];rfl
theorem s_r01Place (l:List Int) (v:Int) (hl:l.length≤1000000) (h:l.Pairwise (· < ·)):Z4o l v=some (((l.filter fun x=>decide (x<v)).length:Nat):Int):=by
 unfold Z4o
 refine Z68 l (Z3o l v) (fun pre=>(((pre.filter fun x=>decide (x<v)).length:Nat),(pre.length:Int))) _ (fun pre x post hp=>?_) ?_
 ·have hx:=Z78 hp
  have hm:=Z88 hp
  have hf:(pre.filter fun x=>decide (x<v)).length≤pre.length:=List.length_filter_le _ _
  have hno:x∉pre:=fun hm=>by
   rw [hp,List.pairwise_append] at h
   have:=h.2.2 x hm x (by simp);omega
  have e1:Z94 l 0 (pre.length:Int)=some pre:=by
   unfold Z94
   rw [if_pos ⟨by omega,by omega,by omega⟩,hp];simp
  dsimp only [Z3o]
  rw [Z66 hx,Z06,Z46 hx,Option.bind_some,List.filter_append,List.length_append,Zc8]
  by_cases hv:x<v
  ·rw [decide_eq_true hv,Z06,Option.bind_some,e1,Option.bind_some,Zxc pre x (by omega),Option.bind_some,decide_eq_false hno]
   dsimp only [Z2o,Z1o]
   rw [Bool.not_false,Z06,Z86 (by omega),Z86 (by omega)]
   simp [hv]
  ·rw [decide_eq_false hv,Z16]
   dsimp only [Z2o,Z1o]
   rw [Z16,Z86 (by omega)]
   simp [hv]
 ·dsimp only [Z3o]
  rw [Z76,Z16];rfl
def insU (l:List Int) (v:Int):List Int:=if v∈l then l else l.filter (fun x=>decide (x<v))++v::l.filter (fun x=>!decide (x<v))
theorem insU_spec {l:List Int} (h:l.Pairwise (· < ·)) (v:Int):(insU l v).Pairwise (· < ·)∧(insU l v).length≤l.length+1∧∀x,x∈insU l v↔x∈l∨x=v:=by
 unfold insU
 by_cases hv:v∈l
 ·rw [if_pos hv]
  exact ⟨h,by omega,fun x=>⟨.inl,fun hx=>by rcases hx with hx | rfl<;>assumption⟩⟩
 ·rw [if_neg hv]
  have hs:=split_lt v h
  refine ⟨?_,?_,fun x=>?_⟩
  ·rw [List.pairwise_append,List.pairwise_cons]
   refine ⟨h.filter _,⟨fun y hy=>?_,h.filter _⟩,fun x hx y hy=>?_⟩
   ·rw [List.mem_filter] at hy
    have:=hy.2
    have hne:y≠v:=fun e=>hv (e ▸ hy.1)
    simp at this;omega
   ·rw [List.mem_filter] at hx
    have h1:=hx.2
    rcases List.mem_cons.1 hy with rfl | hy
    ·simpa using h1
    ·rw [List.mem_filter] at hy
     have h2:=hy.2
     simp at h1 h2;omega
  ·have:=congrArg List.length hs
   simp only [List.length_append,List.length_cons] at this ⊢
   omega
  ·rw [List.mem_append,List.mem_cons,List.mem_filter,List.mem_filter]
   by_cases hx:x<v
   ·simp [hx]
   ·simp only [hx,decide_false,Bool.false_eq_true,and_false,false_or,Bool.not_false,and_true]
    exact Or.comm
theorem Zoo {α:Type} {A B l:List α} (h:A++B=l):l.take A.length=A∧l.drop A.length=B:=by subst h;simp
theorem s_r01Of (l:List Int) (hl:l.length≤5000):Z9o l=some (setL l):=by
 have spec:∀pre:List Int,(pre.foldl insU []).Pairwise (· < ·)∧(pre.foldl insU []).length≤pre.length∧∀x,x∈pre.foldl insU []↔x∈pre:=fun pre=>by
  have key:∀(r acc:List Int),acc.Pairwise (· < ·)→(r.foldl insU acc).Pairwise (· < ·)∧(r.foldl insU acc).length≤acc.length+r.length∧∀x,x∈r.foldl insU acc↔x∈acc∨x∈r:=fun r=>by
   induction r with
   | nil=>intro acc h;exact ⟨h,by simp,by simp⟩
   | cons v r ih=>
     intro acc h
     obtain ⟨a1,a2,a3⟩:=insU_spec h v
     obtain ⟨b1,b2,b3⟩:=ih _ a1
     refine ⟨b1,by rw [List.foldl_cons,List.length_cons];omega,fun x=>?_⟩
     rw [List.foldl_cons,b3,a3,List.mem_cons,or_assoc]
  obtain ⟨h1,h2,h3⟩:=key pre [] List.Pairwise.nil
  exact ⟨h1,by simpa using h2,fun x=>by rw [h3];simp⟩
 have e:l.foldl insU []=setL l:=by
  obtain ⟨h1,_,h3⟩:=spec l
  obtain ⟨k1,k2⟩:=setL_spec l
  exact pw_ext (fun x=>by omega) (fun x y h=>by omega) h1 k1 fun x=>by rw [h3,k2]
 unfold Z9o
 rw [←e]
 refine Z68 l (Z8o l) (fun pre=>((pre.length:Int),pre.foldl insU [])) _ (fun pre x post hp=>?_) ?_
 ·have hx:=Z78 hp
  have hm:=Z88 hp
  obtain ⟨h1,h2,_⟩:=spec pre
  generalize hacc:pre.foldl insU []=acc at h1 h2
  have hsn:(pre++[x]).foldl insU []=insU acc x:=by rw [List.foldl_append,hacc];rfl
  have hf:(acc.filter fun y=>decide (y<x)).length≤acc.length:=List.length_filter_le _ _
  have hs:=split_lt x h1
  have hsl:=congrArg List.length hs
  rw [List.length_append] at hsl
  have e1:Z94 acc 0 (((acc.filter fun y=>decide (y<x)).length:Nat):Int)=some (acc.filter fun y=>decide (y<x)):=by
   unfold Z94
   rw [if_pos ⟨by omega,by omega,by omega⟩]
   rw [Int.toNat_natCast,(Zoo hs).1];rfl
  have e2:Z94 acc (((acc.filter fun y=>decide (y<x)).length:Nat):Int) (acc.length:Int)=some (acc.filter fun y=>!decide (y<x)):=by
   unfold Z94
   rw [if_pos ⟨by omega,by omega,by omega⟩]
   rw [Int.toNat_natCast,Int.toNat_natCast,List.take_length,(Zoo hs).2]
  dsimp only [Z8o]
  rw [Z66 hx,Z06,Z46 hx,Option.bind_some,Zxc acc x (by omega),Option.bind_some,hsn,Zc8]
  unfold insU
  by_cases hv:x∈acc
  ·rw [decide_eq_true hv,Z06,if_pos hv]
   dsimp only [Z7o];rw [Z86 (by omega)]
  ·rw [decide_eq_false hv,Z16,if_neg hv,Option.bind_some,s_r01Place acc x (by omega) h1,Option.bind_some,Option.bind_some,e1,Option.bind_some,Zw4,e2,Option.bind_some,
    Z56 _ _ (by omega) (by simp;omega),Option.bind_some,Z56 _ _ (by omega) (by simp;omega),Option.bind_some,Z56 _ _ (by omega) (by simp;omega),Option.bind_some]
   dsimp only [Z7o];rw [Z86 (by omega)]
   simp
 ·dsimp only [Z8o]
  rw [Z76,Z16];rfl
theorem Zpo (id:Int):∀(l:List Side) (q:Int),Zu9 id q l=true→l.Pairwise (fun x y=>x.Peer<y.Peer)∧∀x∈l,q<x.Peer
 | [],_,_=>⟨List.Pairwise.nil,by simp⟩
 | x::l,q,h=>by
   simp only [Zu9,Bool.and_eq_true] at h
   obtain ⟨h1,h2⟩:=Zpo id l x.Peer h.2
   have hq:q<x.Peer:=by
    have:=h.1
    unfold Zt9 at this
    simp only [Bool.and_eq_true,decide_eq_true_eq] at this
    omega
   refine ⟨List.pairwise_cons.2 ⟨h2,h1⟩,fun y hy=>?_⟩
   rcases List.mem_cons.1 hy with rfl | hy
   ·exact hq
   ·have:=h2 y hy;omega
theorem okD_pw {d:Diner} (h:okD d=true):d.Sides.Pairwise (fun x y=>x.Peer<y.Peer):=by
 simp only [okD,Bool.and_eq_true] at h
 exact (Zpo d.ID _ _ h.2.2.2.2).1
theorem s_side15 (d:Drinker) (p:Int) (hl:d.Diner.Sides.length≤1000000):Zsn d p=some (plc (d.Diner.Sides.findIdx? fun x=>decide (x.Peer=p))):=by
 unfold Zsn
 refine Ze6 d.Diner.Sides _ _ (by omega) (fun k x hx=>?_) ?_
 ·simp only [Zrn,Z66 hx,Z06,Z46 hx,Option.bind_some,Z96 hx (show d.Diner.Sides.length≤4000000000000000000 by omega)]
  cases decide (x.Peer=p)<;>rfl
 ·simp only [Zrn,Z76,Z16,Zqn,Option.map_some]
theorem Zqo (d:Drinker) (hn:d.Need.length≤1000000):Zyn d=some (okDr d):=by
 simp only [Zyn,Zkn,Option.bind_some]
 unfold okDr
 cases hk:okD d.Diner with
 | false=>rfl
 | true=>
   have hl:=Z0a hk
   rw [Bool.not_true,Z16,Bool.true_and]
   have key:loop (Zwn d) 0=some (okI none d.Need&&d.Need.all (Zpf d.Diner)):=by
    refine Z58 d.Need (Zwn d) (fun pre=>(pre.length:Int)) (fun pre post=>some (okI pre.getLast? post&&post.all (Zpf d.Diner))) (fun pre x post h=>?_) ?_
    ·have hx:=Z78 h
     have hm:=Z88 h
     have j3:∀z,Zvn (pre.length:Int) z=if z then some (.inr false) else some (.inl ((pre.length+1:Nat):Int)):=fun z=>by
      cases z with
      | true=>rfl
      | false=>dsimp only [Zvn];rw [Z16,Z86 (by omega)];rfl
     dsimp only [Zwn]
     rw [Z66 hx,Z06,Z46 hx,Option.bind_some,s_side15 d x (by omega),Option.bind_some,Zc6]
     have e0:(d.Diner.Sides.findIdx? fun y=>decide (y.Peer=x)).isNone=!Zpf d.Diner x:=by
      unfold Zpf
      rw [←Zf6]
      cases d.Diner.Sides.findIdx? fun y=>decide (y.Peer=x)<;>rfl
     rw [e0]
     cases hs:Zpf d.Diner x with
     | false=>
       right
       refine ⟨false,by rw [Bool.not_false,Z06,j3];rfl,by rw [List.all_cons,hs,Bool.false_and,Bool.and_false]⟩
     | true=>
       rw [Bool.not_true,Z16]
       rcases List.eq_nil_or_concat pre with rfl | ⟨q,y,rfl⟩
       ·left
        rw [show decide ((0:Int)<(([]:List Int).length:Nat))=false from rfl,Z16,j3]
        refine ⟨rfl,?_⟩
        rw [List.all_cons,hs,Bool.true_and];rfl
       ·rw [List.concat_eq_append] at *
        have hy:d.Need[q.length]?=some y:=by rw [h];simp
        rw [decide_eq_true (show (0:Int)<((q++[y]).length:Nat) by rw [Zc8];omega),Z06]
        have e1:wr (((q++[y]).length:Nat)-1)=(q.length:Int):=by rw [Zc8] at hm ⊢;rw [Z36 (by omega) (by omega)];omega
        rw [e1,Z46 hy,Option.bind_some,Option.bind_some,j3]
        by_cases hc:x≤y
        ·right
         refine ⟨false,by rw [decide_eq_true hc];rfl,?_⟩
         have:¬y<x:=by omega
         simp [okI,this]
        ·left
         have:y<x:=by omega
         refine ⟨by rw [decide_eq_false hc,Zc8 (q++[y])];rfl,?_⟩
         simp [okI,this,hs]
    ·dsimp only [Zwn]
     rw [Z76,Z16];rfl
   have j1:∀z,Zxn d z=some (!z&&(okI none d.Need&&d.Need.all (Zpf d.Diner))):=fun z=>by
    cases z with
    | true=>rfl
    | false=>dsimp only [Zxn];rw [Z16,key];rfl
   simp only [j1]
   have e3:decide ((0:Int)<ln Zu4 d.Need)=decide (0<d.Need.length):=by rw [Zw4,decide_eq_decide];omega
   rw [e3]
   by_cases h1:d.Thirst<0
   ·rw [decide_eq_true h1,Z06,decide_eq_false (show ¬0≤d.Thirst by omega)];rfl
   ·rw [decide_eq_false h1,Z16,decide_eq_true (show 0≤d.Thirst by omega)]
    by_cases h2:2<d.Thirst
    ·rw [decide_eq_true h2,decide_eq_false (show ¬d.Thirst≤2 by omega)];rfl
    ·rw [decide_eq_false h2,decide_eq_true (show d.Thirst≤2 by omega),Z16]
     cases decide (d.Thirst=0) with
     | false=>rw [Z16];simp
     | true=>rw [Z06];cases decide (0<d.Need.length)<;>simp
theorem any_find {l:List Side} (h:l.Pairwise fun x y=>x.Peer<y.Peer) (p:Int) (q:Side→Bool):l.any (fun x=>decide (x.Peer=p)&&q x)=(match l.find? (fun x=>decide (x.Peer=p)) with | some x=>q x | none=>false):=by
 induction l with
 | nil=>rfl
 | cons x l ih=>
   rw [List.pairwise_cons] at h
   rw [List.any_cons,List.find?_cons]
   by_cases hx:x.Peer=p
   ·have:l.any (fun x=>decide (x.Peer=p)&&q x)=false:=List.any_eq_false.2 fun y hy=>by have:=h.1 y hy;simp;omega
    rw [this,decide_eq_true hx];simp
   ·rw [ih h.2,decide_eq_false hx];rfl
theorem Zro {l:List Side} (h:l.Pairwise fun x y=>x.Peer<y.Peer) (p:Int) (q:Side→Bool):l.findIdx? (fun x=>decide (x.Peer=p)&&q x)=(match l.findIdx? (fun x=>decide (x.Peer=p)) with | some i=>(match l[i]? with | some x=>if q x then some i else none | none=>none) | none=>none):=by
 induction l with
 | nil=>rfl
 | cons x l ih=>
   rw [List.pairwise_cons] at h
   rw [Zmn,Zmn]
   by_cases hx:x.Peer=p
   ·have:l.findIdx? (fun x=>decide (x.Peer=p)&&q x)=none:=List.findIdx?_eq_none_iff.2 fun y hy=>by have:=h.1 y hy;simp;omega
    rw [decide_eq_true hx,Bool.true_and,if_pos rfl,this]
    simp only [List.getElem?_cons_zero,Option.map_none]
   ·rw [ih h.2,decide_eq_false hx,Bool.false_and,if_neg (by simp),if_neg (by simp)]
    cases l.findIdx? (fun x=>decide (x.Peer=p)) with
    | none=>rfl
    | some i=>
      simp only [Option.map_some,List.getElem?_cons_succ]
      cases l[i]? with
      | none=>rfl
      | some y=>dsimp only;cases q y<;>rfl
theorem s_r15Open (d:Drinker) (need:List Int) (hn:d.Need.length≤1000000) (hm:need.length≤5000):Zfo d need=some (Ztf d need):=by
 simp only [Zfo,Zqo d hn,Option.bind_some]
 unfold Ztf
 cases hk:okDr d with
 | false=>rfl
 | true=>
   have hk2:=Zvf hk
   have hl:=Z0a hk2
   rw [Bool.not_true,Z16,if_pos rfl]
   by_cases h1:d.Thirst=0
   ·rw [decide_eq_true h1,Bool.not_true,Z16,if_pos h1]
    refine Zg6 need (Zeo d need) (Zsf d.Diner) _ _ (by omega) (fun k x hx=>?_) ?_
    ·have hlt:=(List.getElem?_eq_some_iff.1 hx).1
     have j2:∀z,Zdo (k:Int) z=some (if z then .inr (Zqf,151) else .inl ((k+1:Nat):Int)):=fun z=>by
      cases z with
      | true=>rfl
      | false=>dsimp only [Zdo];rw [Z16,Z86 (by omega)];rfl
     dsimp only [Zeo]
     rw [Z66 hx,Z06,Z46 hx,Option.bind_some,s_side15 d x (by omega),Option.bind_some,Zc6]
     unfold Zsf
     rw [any_find (okD_pw hk2)]
     have hfi:=Zj8 (fun y:Side=>decide (y.Peer=x)) d.Diner.Sides
     cases hf:d.Diner.Sides.findIdx? (fun y=>decide (y.Peer=x)) with
     | none=>rw [hf] at hfi;rw [show (d.Diner.Sides.find? fun y=>decide (y.Peer=x))=none from hfi];dsimp only [Option.isNone];rw [Z06,j2];rfl
     | some i=>
       rw [hf] at hfi
       obtain ⟨y,hy,hy2⟩:=hfi
       rw [hy2]
       dsimp only [Option.isNone,plc]
       rw [Z16,Z46 hy,Option.bind_some,j2]
    ·dsimp only [Zeo,Zco]
     rw [Z76,Z16,s_r01Of need hm];rfl
   ·rw [decide_eq_false h1,Bool.not_false,Z06,if_neg h1];rfl
theorem s_r15Close (d:Drinker) (hn:d.Need.length≤1000000):Zho d=some (Zuf d):=by
 simp only [Zho,Zqo d hn,Option.bind_some]
 unfold Zuf
 cases hk:okDr d with
 | false=>rfl
 | true=>
   rw [Bool.not_true,Z16,if_pos rfl]
   by_cases h1:d.Thirst=0
   ·rw [decide_eq_true h1,Z06,if_pos h1];rfl
   ·rw [decide_eq_false h1,Z16,if_neg h1]
theorem s_r15Get (d:Drinker) (peer:Int) (m:Msg) (hn:d.Need.length≤1000000):Zmo d peer m=some (Zwf d peer m):=by
 simp only [Zmo,Zqo d hn,Option.bind_some]
 unfold Zwf
 cases hk:okDr d with
 | false=>rfl
 | true=>
   have hk2:=Zvf hk
   have hl:=Z0a hk2
   rw [Bool.not_true,Z16,if_pos rfl,s_side15 d peer (by omega),Option.bind_some,Zc6,Zro (okD_pw hk2)]
   have hv:(d.Diner.Sides.findIdx? (fun x=>decide (x.Peer=peer)&&decide (x.Epoch=m.Epoch)))=none→viaD d peer m=(Zqf,131):=fun e=>by
    unfold viaD Z9a
    rw [hk2,if_pos rfl,e];rfl
   rw [Zro (okD_pw hk2)] at hv
   have hfi:=Zj8 (fun y:Side=>decide (y.Peer=peer)) d.Diner.Sides
   cases hf:d.Diner.Sides.findIdx? (fun y=>decide (y.Peer=peer)) with
   | none=>rw [hf] at hv;dsimp only at hv ⊢;rw [hv rfl];rfl
   | some i=>
     rw [hf] at hfi hv
     obtain ⟨x,hx,_⟩:=hfi
     have hlt:=(List.getElem?_eq_some_iff.1 hx).1
     dsimp only [Option.isNone,plc] at hv ⊢
     rw [hx] at hv ⊢
     dsimp only at hv ⊢
     rw [Z16,Z46 hx,Option.bind_some]
     by_cases he:x.Epoch=m.Epoch
     ·rw [decide_eq_true he,if_pos rfl,Bool.not_true]
      dsimp only
      rw [hx]
      dsimp only [Zlo]
      rw [Z16,Z46 hx,Option.bind_some]
      have via:Zjo d peer m (i:Int) x false=some (viaD d peer m):=by
       dsimp only [Zjo]
       rw [Z16,s_r13Get,Option.bind_some]
       unfold viaD
       by_cases h0:(Z9a d.Diner peer m).2=0
       ·rw [decide_eq_true h0,if_pos h0];rfl
       ·rw [decide_eq_false h0,if_neg h0];rfl
      by_cases n0:m.Num=0
      ·rw [decide_eq_true n0,Z06,Bool.true_and]
       dsimp only [Zko]
       by_cases k3:m.Kind=3
       ·rw [decide_eq_true k3,Z06,Bool.true_or,if_pos rfl,if_neg (by omega)]
        cases hb:x.Bottle with
        | true=>rfl
        | false=>rw [Z16,Zln d.Diner i _ (by omega) hlt];rfl
       ·rw [decide_eq_false k3,Z16,decide_eq_true n0,Z06,Bool.false_or]
        by_cases k4:m.Kind=4
        ·rw [decide_eq_true k4,if_pos rfl,if_pos k4]
         dsimp only [Zjo]
         rw [Z06]
         cases hb:x.Ask with
         | true=>rfl
         | false=>rw [Z16,Zln d.Diner i _ (by omega) hlt];rfl
        ·rw [decide_eq_false k4,if_neg (by simp),via]
      ·rw [decide_eq_false n0,Z16,Bool.false_and,if_neg (by simp)]
       dsimp only [Zko]
       rw [Z16,decide_eq_false n0,Z16,via]
     ·rw [decide_eq_false he] at hv ⊢
      rw [if_neg (by simp)] at hv ⊢
      dsimp only
      rw [hv rfl];rfl
theorem Zso (id:Int) {x y:Side} (hp:y.Peer=x.Peer) (hs:∀q,Zt9 id q x=true→Zt9 id q y=true):∀(l:List Side) (q:Int) (i:Nat),l[i]?=some x→Zu9 id q l=true→Zu9 id q (l.set i y)=true
 | z::l,q,0,h,hk=>by
   have e:z=x:=by simpa using h
   subst e
   rw [List.set_cons_zero]
   simp only [Zu9,Bool.and_eq_true] at hk ⊢
   exact ⟨hs q hk.1,by rw [hp];exact hk.2⟩
 | z::l,q,i+1,h,hk=>by
   rw [List.set_cons_succ]
   simp only [Zu9,Bool.and_eq_true] at hk ⊢
   exact ⟨hk.1,Zso id hp hs l z.Peer i (by simpa using h) hk.2⟩
theorem Zto {d:Drinker} (h:okDr d=true) {i:Nat} {x y:Side} (hx:d.Diner.Sides[i]?=some x) (hp:y.Peer=x.Peer) (hs:∀q,Zt9 d.Diner.ID q x=true→Zt9 d.Diner.ID q y=true):okDr ⟨⟨d.Diner.ID,d.Diner.Phase,d.Diner.Sides.set i y⟩,d.Thirst,d.Need⟩=true:=by
 unfold okDr at h ⊢
 rw [Bool.and_eq_true] at h ⊢
 refine ⟨?_,?_⟩
 ·have h1:=h.1
  simp only [okD,Bool.and_eq_true,decide_eq_true_eq] at h1 ⊢
  exact ⟨h1.1,h1.2.1,h1.2.2.1,by simpa using h1.2.2.2.1,Zso _ hp hs _ _ i hx h1.2.2.2.2⟩
 ·have e:Zpf ⟨d.Diner.ID,d.Diner.Phase,d.Diner.Sides.set i y⟩=Zpf d.Diner:=by
   funext p
   have hmap:=map_set_peer hx hp
   have:∀l:List Side,(l.any fun x=>decide (x.Peer=p))=(l.map (·.Peer)).any fun z=>decide (z=p):=fun l=>by rw [List.any_map];rfl
   unfold Zpf
   rw [this,this,hmap]
  dsimp only
  rw [e]
  exact h.2
theorem getDr_ok {d:Drinker} {p:Int} {m:Msg} (h:okDr d=true) (h0:(Zwf d p m).2=0):okDr (Zwf d p m).1=true:=by
 have hk:=Zvf h
 have hvia:(viaD d p m).2=0→okDr (viaD d p m).1=true:=fun h0=>by
  unfold viaD at h0 ⊢
  split at h0
  ·rename_i hz
   rw [if_pos hz]
   unfold Z9a at hz ⊢
   rw [hk,if_pos rfl] at hz ⊢
   cases hi:d.Diner.Sides.findIdx? (fun x=>decide (x.Peer=p)&&decide (x.Epoch=m.Epoch)) with
   | none=>rw [hi] at hz;simp at hz
   | some i=>
     rw [hi] at hz
     dsimp only at hz ⊢
     cases hx:d.Diner.Sides[i]? with
     | none=>rw [hx] at hz;simp at hz
     | some x=>
       rw [hx] at hz
       dsimp only at hz ⊢
       split at hz
       ·rename_i q1
        rw [if_pos q1]
        split at hz
        ·simp at hz
        ·rename_i q2
         rw [if_neg q2]
         exact Zto h hx rfl fun q hq=>by
          unfold Zt9 at hq ⊢
          simp only [Bool.and_eq_true,Bool.not_eq_true',Bool.and_eq_false_iff] at hq ⊢
          simp_all
       ·rename_i q1
        rw [if_neg q1]
        split at hz
        ·rename_i q2
         rw [if_pos q2]
         split at hz
         ·simp at hz
         ·rename_i q3
          rw [if_neg q3]
          exact Zto h hx rfl fun q hq=>hq
        ·simp at hz
  ·rename_i hz;exact absurd h0 hz
 unfold Zwf at h0 ⊢
 rw [h,if_pos rfl] at h0 ⊢
 cases hi:d.Diner.Sides.findIdx? (fun x=>decide (x.Peer=p)&&decide (x.Epoch=m.Epoch)) with
 | none=>rw [hi] at h0;exact hvia h0
 | some i=>
   rw [hi] at h0
   dsimp only at h0 ⊢
   cases hx:d.Diner.Sides[i]? with
   | none=>rw [hx] at h0;exact hvia h0
   | some x=>
     rw [hx] at h0
     dsimp only at h0 ⊢
     split at h0
     ·rename_i q1
      rw [if_pos q1]
      split at h0
      ·rename_i q2
       rw [if_pos q2]
       split at h0
       ·simp at h0
       ·rename_i q3
        rw [if_neg q3]
        exact Zto h hx rfl fun q hq=>hq
      ·rename_i q2
       rw [if_neg q2]
       split at h0
       ·simp at h0
       ·rename_i q3
        rw [if_neg q3]
        exact Zto h hx rfl fun q hq=>hq
     ·rename_i q1
      rw [if_neg q1]
      exact hvia h0
theorem closeDr_ok {d:Drinker} (h:okDr d=true) (h0:(Zuf d).2=0):okDr (Zuf d).1=true:=by
 unfold Zuf at h0 ⊢
 rw [h,if_pos rfl] at h0 ⊢
 split at h0
 ·simp at h0
 ·rename_i q
  rw [if_neg q]
  unfold okDr
  rw [Zvf h];rfl
theorem openDr_ok {d:Drinker} {need:List Int} (h:okDr d=true) (h0:(Ztf d need).2=0):okDr (Ztf d need).1=true:=by
 unfold Ztf at h0 ⊢
 rw [h,if_pos rfl] at h0 ⊢
 split at h0
 ·rename_i q
  rw [if_pos q]
  split at h0
  ·simp at h0
  ·rename_i q2
   rw [if_neg q2]
   obtain ⟨s1,s2⟩:=setL_spec need
   unfold okDr
   have e1:okI none (setL need)=true:=okI_of _ _ s1 (by simp)
   have e2:(setL need).all (Zpf d.Diner)=true:=List.all_eq_true.2 fun p hp=>by
    have hp':=(s2 p).1 hp
    have:Zsf d.Diner p=false:=by
     cases hq:Zsf d.Diner p with
     | false=>rfl
     | true=>exact absurd (List.any_eq_true.2 ⟨p,hp',hq⟩) q2
    unfold Zsf at this
    simp only [Bool.not_eq_false',List.any_eq_true,Bool.and_eq_true,decide_eq_true_eq] at this
    obtain ⟨x,hx,hxp,_⟩:=this
    exact List.any_eq_true.2 ⟨x,hx,decide_eq_true hxp⟩
   dsimp only
   rw [Zvf h,e1,e2];rfl
 ·simp at h0
set_option maxRecDepth 100000
set_option maxHeartbeats 4000000
@[go_sem] def e141:EC:=.seq (.reg [(Qx 2 63 5 0),(Qx 3 66 8 1),(Qa 4 (.alloc 66 [.iv 0,.iv 0,.iv 0,.ff,.ff,.ff,.ff,.ff])),(Qa 5 (.mv (.c .nl)))]) (.seq (.reg [(Qa 9 (.bsl 95 5 0 [.iv 0,.iv 0,.iv 0,.iv 0,.iv 0] [])),(Qm 6 9)]) (.seq (.reg [(Qf 10 4 2),(Ql 11 10),(Qf 12 0 3),(Ql 13 12),(Qa 14 (.call 33 [(.t 11),(.t 13)])),(Qm 7 14)]) (.seq (.reg [(Qm 15 7),(Qm 16 15),(Qh 17 16 true 3 2),(Qn 18 16 true 17),(Qg 19 16 true (.bin .eql (.t 18) (.c (.iv 2)))),(Qg 20 16 true (.mv (.t 19))),(Qh 21 20 false 3 2),(Qn 22 20 false 21),(Qg 23 20 false (.bin .eql (.t 22) (.c (.iv 1)))),(Qg 24 20 false (.mv (.t 23))),(Qh 25 24 true 3 3),(Qn 26 24 true 25),(Qg 27 20 false (.pick (.t 24) (.t 26) (.c .ff))),(Qg 28 16 true (.pick (.t 20) (.c .tt) (.t 27))),(Qp 29 16 28),(Qm 8 29)]) (.seq (.seq (.reg [(Qf 30 6 3),(Ql 31 30),(Qm 32 31),(Qh 33 32 true 7 3),(Qn 34 32 true 33),(Qp 35 32 34),(Qm 36 35),(Qg 37 36 true (.mv (.t 8))),(Qg 38 36 true (.not (.t 37))),(Qp 39 36 38)]) (.ite (.t 39) (.seq (.reg [(Qf 40 6 3),(Qb (.store 1 (.t 40) (.c .ff)))]) (.reg [(Qm 41 6),(Qf 42 0 2),(Qf 43 0 42),(Ql 44 43),(Qf 45 0 3),(Ql 46 45),(Qf 47 1 3),(Ql 48 47),(Qa 49 (.build [.iv 0,.iv 0,.iv 0] [(0,1,(.c (.iv 3))),(1,1,(.t 48))])),(Qa 50 (.build [.iv 0,.iv 0,.iv 0,.iv 0,.iv 0] [(0,1,(.t 44)),(1,1,(.t 46)),(2,3,(.t 49))])),(Qa 51 (.bsl 95 5 1 [.iv 0,.iv 0,.iv 0,.iv 0,.iv 0] [(0,(.t 50))])),(Qa 52 (.app 95 5 40 (.t 41) (.t 51))),(Qm 6 52)])) (.skip))) (.seq (.seq (.reg [(Qm 53 7),(Qm 54 53),(Qh 55 54 true 3 2),(Qn 56 54 true 55),(Qg 57 54 true (.bin .eql (.t 56) (.c (.iv 1)))),(Qp 58 54 57),(Qm 59 58),(Qh 60 59 true 7 3),(Qn 61 59 true 60),(Qp 62 59 61),(Qm 63 62),(Qh 64 63 true 6 3),(Qn 65 63 true 64),(Qg 66 63 true (.not (.t 65))),(Qp 67 63 66)]) (.ite (.t 67) (.seq (.reg [(Qf 68 7 3),(Qb (.store 1 (.t 68) (.c .ff)))]) (.reg [(Qm 69 6),(Qf 70 0 2),(Qf 71 0 70),(Ql 72 71),(Qf 73 0 3),(Ql 74 73),(Qf 75 1 3),(Ql 76 75),(Qa 77 (.build [.iv 0,.iv 0,.iv 0] [(0,1,(.c (.iv 4))),(1,1,(.t 76))])),(Qa 78 (.build [.iv 0,.iv 0,.iv 0,.iv 0,.iv 0] [(0,1,(.t 72)),(1,1,(.t 74)),(2,3,(.t 77))])),(Qa 79 (.bsl 95 5 1 [.iv 0,.iv 0,.iv 0,.iv 0,.iv 0] [(0,(.t 78))])),(Qa 80 (.app 95 5 40 (.t 69) (.t 79))),(Qm 6 80)])) (.skip))) (.seq (.reg [(Qe 81 8 3),(Qm 82 6),(Qs 8 4 81),(Qm 5 82)]) (.ret)))))))
theorem ok141:FnOK Tryz.prog 141 Tryz.f141 e141 [.c 4 (some 8),.t 5] 2 81:=⟨by kernel_rfl,⟨_,rfl,by kernel_rfl⟩,by kernel_rfl,by kernel_rfl⟩
noncomputable def Zuo:(Side×(List Mail))→Option (Side×(List Mail))
| (x11,x12)=>
 some (x11,x12)
noncomputable def Zvo (x1:Drinker) (x7:Side) (x8:(List Mail)):Bool→Option (Side×(List Mail))
| x9=>
 ifb x9 (
 (Z84 40 x8 ([(Mail.mk x1.Diner.ID x7.Peer ((Msg.mk 4 x7.Epoch 0)))])).bind fun x10=>
 Zuo ((Side.mk x7.Peer x7.Epoch x7.State x7.Fork x7.Dirty x7.Token x7.Bottle false),x10)) (
 Zuo (x7,x8))
noncomputable def Zwo (x1:Drinker) (x3:Bool):(Side×(List Mail))→Option (Side×(List Mail))
| (x7,x8)=>
 ifb x3 (
 ifb (decide (x1.Thirst=1)) (
 ifb x7.Ask (
 (Zvo x1 x7 x8) (!x7.Bottle)) (
 (Zvo x1 x7 x8) false)) (
 (Zvo x1 x7 x8) false)) (
 (Zvo x1 x7 x8) false)
noncomputable def Zxo (x1:Drinker) (x2:Side) (x3:Bool):Bool→Option (Side×(List Mail))
| x5=>
 ifb x5 (
 (Z84 40 (([]:List Mail)) ([(Mail.mk x1.Diner.ID x2.Peer ((Msg.mk 3 x2.Epoch 0)))])).bind fun x6=>
 (Zwo x1 x3) ((Side.mk x2.Peer x2.Epoch x2.State x2.Fork x2.Dirty x2.Token false x2.Ask),x6)) (
 (Zwo x1 x3) (x2,([]:List Mail)))
noncomputable def Zyo (x1:Drinker) (x2:Side) (x3:Bool):Bool→Option (Side×(List Mail))
| x4=>
 ifb x2.Bottle (
 ifb x2.Ask (
 (Zxo x1 x2 x3) (!x4)) (
 (Zxo x1 x2 x3) false)) (
 (Zxo x1 x2 x3) false)
noncomputable def Zzo (x1:Drinker) (x2:Side):Option (Side×(List Mail)):=
 (Zuc x1.Need x2.Peer).bind fun x3=>
 ifb x3 (
 ifb (decide (x1.Thirst=2)) (
 (Zyo x1 x2 x3) true) (
 ifb (decide (x1.Thirst=1)) (
 (Zyo x1 x2 x3) x2.Fork) (
 (Zyo x1 x2 x3) false))) (
 (Zyo x1 x2 x3) false)
theorem Z0p (x1:Drinker) (x2:Side) (r:(Side×(List Mail))) (h:Zzo x1 x2=some r):Zp2 Tryz.prog 141 [.agg (Drinker.row x1),.agg (Side.row x2)] (.tup [.agg (Side.row r.1),.sl 5 (List.map Mail.row r.2)]):=by
 refine Zt2 ok141 rfl rfl fun w0 H0=>?_
 rw [Zzo] at h
 refine Zk2 18 ?_;dsimp only [go_sem];refine An ?_;obtain ⟨x3,ex3,h⟩:=Bs h;refine Zy2 trivial (Zvc x1.Need x2.Peer _ ex3) (h:=?_);refine Zk2 6 ?_;dsimp only [go_sem];refine An ?_
 refine Ze4 (fun (x4:Bool)=>(⟨(.any :: .any :: .ptr 0 0 :: .ptr 1 0 :: .ptr 2 0 :: .any :: .osl 0 :: .bv x3 :: .bv x4::an 74 []),[some ⟨63,[.iv x1.Diner.ID,.iv x1.Diner.Phase,.sl 8 (List.map Side.row x1.Diner.Sides),.iv x1.Thirst,.sl 1 (List.map Zu4 x1.Need)]⟩,some ⟨66,[.iv x2.Peer,.iv x2.Epoch,.iv x2.State,.bv x2.Fork,.bv x2.Dirty,.bv x2.Token,.bv x2.Bottle,.bv x2.Ask]⟩,some ⟨66,[.iv 0,.iv 0,.iv 0,.ff,.ff,.ff,.ff,.ff]⟩],[some ⟨95,5,List.map Mail.row (([]:List Mail))⟩]⟩:St)) (Zyo x1 x2 x3) r ?_ fun J1=>?_
 ·intro x4 h;rw [Zyo] at h;(try dsimp only);refine Zk2 6 ?_;dsimp only [go_sem];refine An ?_
  refine Ze4 (fun (x5:Bool)=>(⟨(.any :: .any :: .ptr 0 0 :: .ptr 1 0 :: .ptr 2 0 :: .any :: .osl 0 :: .bv x3::an 31 (.bv x5::an 43 [])),[some ⟨63,[.iv x1.Diner.ID,.iv x1.Diner.Phase,.sl 8 (List.map Side.row x1.Diner.Sides),.iv x1.Thirst,.sl 1 (List.map Zu4 x1.Need)]⟩,some ⟨66,[.iv x2.Peer,.iv x2.Epoch,.iv x2.State,.bv x2.Fork,.bv x2.Dirty,.bv x2.Token,.bv x2.Bottle,.bv x2.Ask]⟩,some ⟨66,[.iv 0,.iv 0,.iv 0,.ff,.ff,.ff,.ff,.ff]⟩],[some ⟨95,5,List.map Mail.row (([]:List Mail))⟩]⟩:St)) (Zxo x1 x2 x3) r ?_ fun J2=>?_
  ·intro x5 h;rw [Zxo] at h;(try dsimp only)
   refine Ze4 (fun ((x7,x8):(Side×(List Mail)))=>(⟨(.any :: .any :: .ptr 0 0 :: .ptr 1 0 :: .ptr 2 0 :: .any :: .osl 0 :: .bv x3::an 75 []),[some ⟨63,[.iv x1.Diner.ID,.iv x1.Diner.Phase,.sl 8 (List.map Side.row x1.Diner.Sides),.iv x1.Thirst,.sl 1 (List.map Zu4 x1.Need)]⟩,some ⟨66,[.iv x7.Peer,.iv x7.Epoch,.iv x7.State,.bv x7.Fork,.bv x7.Dirty,.bv x7.Token,.bv x7.Bottle,.bv x7.Ask]⟩,some ⟨66,[.iv 0,.iv 0,.iv 0,.ff,.ff,.ff,.ff,.ff]⟩],[some ⟨95,5,List.map Mail.row x8⟩]⟩:St)) (Zwo x1 x3) r ?_ fun J3=>?_
   ·rintro ⟨x7,x8⟩ h;rw [Zwo] at h;(try dsimp only);refine Zk2 5 ?_;dsimp only [go_sem];refine An ?_
    refine Ze4 (fun (x9:Bool)=>(⟨(.any :: .any :: .ptr 0 0 :: .ptr 1 0 :: .ptr 2 0 :: .any :: .osl 0::an 60 (.bv x9::an 15 [])),[some ⟨63,[.iv x1.Diner.ID,.iv x1.Diner.Phase,.sl 8 (List.map Side.row x1.Diner.Sides),.iv x1.Thirst,.sl 1 (List.map Zu4 x1.Need)]⟩,some ⟨66,[.iv x7.Peer,.iv x7.Epoch,.iv x7.State,.bv x7.Fork,.bv x7.Dirty,.bv x7.Token,.bv x7.Bottle,.bv x7.Ask]⟩,some ⟨66,[.iv 0,.iv 0,.iv 0,.ff,.ff,.ff,.ff,.ff]⟩],[some ⟨95,5,List.map Mail.row x8⟩]⟩:St)) (Zvo x1 x7 x8) r ?_ fun J4=>?_
    ·intro x9 h;rw [Zvo] at h;(try dsimp only);refine Ze4 (fun ((x11,x12):(Side×(List Mail)))=>(⟨(an 3 (.ptr 1 0 :: .ptr 2 0 :: .any :: .osl 0::an 76 [])),[none,some ⟨66,[.iv x11.Peer,.iv x11.Epoch,.iv x11.State,.bv x11.Fork,.bv x11.Dirty,.bv x11.Token,.bv x11.Bottle,.bv x11.Ask]⟩,some ⟨66,[.iv 0,.iv 0,.iv 0,.ff,.ff,.ff,.ff,.ff]⟩],[some ⟨95,5,List.map Mail.row x12⟩]⟩:St)) Zuo r ?_ fun J5=>?_
     ·rintro ⟨x11,x12⟩ h;rw [Zuo] at h;(try dsimp only);refine Zk2 7 ?_;dsimp only [go_sem];refine An ?_;refine Z73 0 rfl ?_;dsimp only [go_sem];exact Zo4 (res:=fun (r:(Side×(List Mail)))=>.tup [.agg (Side.row r.1),.sl 5 (List.map Mail.row r.2)]) ok141 h
     ·refine Zg4 h rfl (fun _ h=>?_) fun _ h=>?_
      ·refine Zk2 17 ?_;dsimp only [go_sem];refine An ?_;obtain ⟨x10,ex10,h⟩:=Bs h;refine Zl4 Mail.row ex10 trivial rfl rfl rfl ?_;refine Zk2 2 ?_;dsimp only [go_sem];refine An ?_;refine Z14 2 0 rfl rfl rfl ?_;dsimp only [go_sem];exact Zq4 J5 (s:=((Side.mk x7.Peer x7.Epoch x7.State x7.Fork x7.Dirty x7.Token x7.Bottle false),x10)) h
      ·refine Zk2 1 ?_;dsimp only [go_sem];refine An ?_;exact Zq4 J5 (s:=(x7,x8)) h
    ·refine Zn4 54 h rfl (fun _ h=>?_) fun _ h=>?_
     ·dsimp only [go_sem];refine Zk2 5 ?_;dsimp only [go_sem];refine An ?_;refine Zn4 59 h rfl (fun _ h=>?_) fun _ h=>?_
      ·dsimp only [go_sem];refine Zk2 4 ?_;dsimp only [go_sem];refine An ?_;refine Zn4 63 h rfl (fun _ h=>?_) fun _ h=>?_
       ·dsimp only [go_sem];refine Zk2 5 ?_;dsimp only [go_sem];refine An ?_;exact Zq4 J4 (s:=!x7.Bottle) h
       ·dsimp only [go_sem];refine Zk2 5 ?_;dsimp only [go_sem];refine An ?_;exact Zq4 J4 (s:=false) h
      ·dsimp only [go_sem];refine Zk2 9 ?_;dsimp only [go_sem];refine An ?_;exact Zq4 J4 (s:=false) h
     ·dsimp only [go_sem];refine Zk2 14 ?_;dsimp only [go_sem];refine An ?_;exact Zq4 J4 (s:=false) h
   ·refine Zg4 h rfl (fun _ h=>?_) fun _ h=>?_
    ·refine Zk2 17 ?_;dsimp only [go_sem];refine An ?_;obtain ⟨x6,ex6,h⟩:=Bs h;refine Zl4 Mail.row ex6 trivial rfl rfl rfl ?_;refine Zk2 2 ?_;dsimp only [go_sem];refine An ?_;refine Z14 2 0 rfl rfl rfl ?_;dsimp only [go_sem];exact Zq4 J3 (s:=((Side.mk x2.Peer x2.Epoch x2.State x2.Fork x2.Dirty x2.Token false x2.Ask),x6)) h
    ·refine Zk2 1 ?_;dsimp only [go_sem];refine An ?_;exact Zq4 J3 (s:=(x2,([]:List Mail))) h
  ·refine Zn4 32 h rfl (fun _ h=>?_) fun _ h=>?_
   ·dsimp only [go_sem];refine Zk2 4 ?_;dsimp only [go_sem];refine An ?_;refine Zn4 36 h rfl (fun _ h=>?_) fun _ h=>?_
    ·dsimp only [go_sem];refine Zk2 4 ?_;dsimp only [go_sem];refine An ?_;exact Zq4 J2 (s:=!x4) h
    ·dsimp only [go_sem];refine Zk2 4 ?_;dsimp only [go_sem];refine An ?_;exact Zq4 J2 (s:=false) h
   ·dsimp only [go_sem];refine Zk2 8 ?_;dsimp only [go_sem];refine An ?_;exact Zq4 J2 (s:=false) h
 ·refine Zn4 16 h rfl (fun _ h=>?_) fun _ h=>?_
  ·dsimp only [go_sem];refine Zk2 4 ?_;dsimp only [go_sem];refine An ?_;refine Zn4 20 h rfl (fun _ h=>?_) fun _ h=>?_
   ·dsimp only [go_sem];refine Zk2 11 ?_;dsimp only [go_sem];refine An ?_;exact Zq4 J1 (s:=true) h
   ·dsimp only [go_sem];refine Zk2 4 ?_;dsimp only [go_sem];refine An ?_;refine Zn4 24 h rfl (fun _ h=>?_) fun _ h=>?_
    ·dsimp only [go_sem];refine Zk2 7 ?_;dsimp only [go_sem];refine An ?_;exact Zq4 J1 (s:=x2.Fork) h
    ·dsimp only [go_sem];refine Zk2 7 ?_;dsimp only [go_sem];refine An ?_;exact Zq4 J1 (s:=false) h
  ·dsimp only [go_sem];refine Zk2 15 ?_;dsimp only [go_sem];refine An ?_;exact Zq4 J1 (s:=false) h
set_option maxRecDepth 100000
set_option maxHeartbeats 4000000
@[go_sem] def e97_L1:EC:=.seq (.seq (.reg [(Qm 65 9),(Qf 66 0 1),(Qf 67 2 66),(Ql 68 67),(Qa 69 (.len (.t 68))),(Qa 70 (.bin .lss (.t 65) (.t 69)))]) (.ite (.t 70) (.skip) (.exit 2))) (.seq (.blk 3 (.seq (.drw [(Qe 74 5 1),(Qf 75 0 1),(Qf 76 2 75),(Ql 77 76),(Qm 78 9),(Qk 79 8 77 78),(Qe 80 8 79),(Qa 81 (.call 141 [(.t 74),(.t 80)])),(Qm 73 81),(Qa 82 (.ext (.t 73) 0)),(Qa 83 (.ext (.t 73) 1)),(Qa 10 (.alloc 66 [.iv 0,.iv 0,.iv 0,.ff,.ff,.ff,.ff,.ff])),(Qs 8 10 82),(Qm 11 83)] [[],[],[1],[2],[],[3,4],[5],[0,6],[7],[8],[8],[],[11,9,7,0,1,2,3,4,5,6,7,8,9,11],[10,12,0,1,2,3,4,5,6,7,8,9,10,11,12]] [[7],[2],[1,3],[2,5],[5],[3,4,6],[5,7],[0,6,8],[7,9,10],[8,12],[8,13],[12],[9,11],[10]]) (.seq (.reg [(Qf 84 0 1),(Qe 85 3 84),(Qm 86 9),(Qe 87 8 10),(Qa 88 (.call 95 [(.t 85),(.t 86),(.t 87)])),(Qf 89 0 1),(Qs 3 89 88)]) (.seq (.reg [(Qm 90 7),(Qm 91 11),(Qa 92 (.app 95 5 40 (.t 90) (.t 91))),(Qm 7 92)]) (.reg [(Qm 93 8),(Qm 94 93),(Qh 95 94 false 4 1),(Qn 96 94 false 95),(Qh 97 94 false 0 10),(Qn 98 94 false 97),(Qg 99 94 false (.call 33 [(.t 96),(.t 98)])),(Qg 100 94 false (.mv (.t 99))),(Qh 101 100 true 6 10),(Qn 102 100 true 101),(Qg 103 100 true (.not (.t 102))),(Qg 104 94 false (.pick (.t 100) (.t 103) (.c .ff))),(Qq 105 94 104),(Qm 8 105)]))))) (.reg [(Qm 71 9),(Qv 72 71 1),(Qm 9 72)]))
@[go_sem] def e97_L0:EC:=.seq (.seq (.reg [(Qm 12 5),(Qf 13 0 1),(Qf 14 2 13),(Ql 15 14),(Qa 16 (.len (.t 15))),(Qa 17 (.bin .lss (.t 12) (.t 16)))]) (.ite (.t 17) (.skip) (.exit 0))) (.seq (.blk 1 (.reg [(Qm 20 4),(Qm 21 20),(Qh 22 21 false 0 1),(Qh 23 21 false 2 22),(Qn 24 21 false 23),(Qg 25 21 false (.mv (.t 5))),(Qg 26 21 false (.idx 8 (.t 24) (.t 25))),(Qh 27 21 false 2 26),(Qn 28 21 false 27),(Qg 29 21 false (.bin .eql (.t 28) (.c (.iv 1)))),(Qq 30 21 29),(Qm 4 30)])) (.reg [(Qm 18 5),(Qv 19 18 1),(Qm 5 19)]))
@[go_sem] def e97:EC:=.seq (.reg [(Qx 1 63 5 0),(Qa 2 (.alloc 63 [.iv 0,.iv 0,.nl,.iv 0,.nl])),(Qa 3 (.mv (.c .nl)))]) (.seq (.reg [(Qa 4 (.mv (.c .ff)))]) (.seq (.seq (.reg [(Qi 5 0)]) (.blk 0 (.loop e97_L0))) (.seq (.seq (.reg [(Qf 31 3 1),(Ql 32 31),(Qa 33 (.bin .eql (.t 32) (.c (.iv 1)))),(Qm 34 33),(Qh 35 34 true 0 1),(Qh 36 34 true 1 35),(Qn 37 34 true 36),(Qg 38 34 true (.bin .eql (.t 37) (.c (.iv 0)))),(Qp 39 34 38)]) (.ite (.t 39) (.reg [(Qf 40 0 1),(Qf 41 1 40),(Qb (.store 1 (.t 41) (.c (.iv 1))))]) (.seq (.reg [(Qf 42 3 1),(Ql 43 42),(Qa 44 (.bin .neq (.t 43) (.c (.iv 1)))),(Qm 45 44),(Qh 46 45 true 0 1),(Qh 47 45 true 1 46),(Qn 48 45 true 47),(Qg 49 45 true (.bin .eql (.t 48) (.c (.iv 2)))),(Qp 50 45 49),(Qm 51 50),(Qg 52 51 true (.mv (.t 4))),(Qg 53 51 true (.not (.t 52))),(Qp 54 51 53)]) (.ite (.t 54) (.reg [(Qf 55 0 1),(Qf 56 1 55),(Qb (.store 1 (.t 56) (.c (.iv 0))))]) (.skip))))) (.seq (.reg [(Qf 58 0 1),(Qe 59 3 58),(Qa 60 (.call 140 [(.t 59)])),(Qm 57 60),(Qa 61 (.ext (.t 57) 0)),(Qa 62 (.ext (.t 57) 1)),(Qa 6 (.alloc 61 [.iv 0,.iv 0,.nl])),(Qs 3 6 61),(Qm 7 62)]) (.seq (.reg [(Qe 63 3 6),(Qf 64 0 1),(Qs 3 64 63)]) (.seq (.reg [(Qa 8 (.mv (.c .ff)))]) (.seq (.seq (.reg [(Qi 9 0)]) (.blk 2 (.loop e97_L1))) (.seq (.seq (.reg [(Qf 106 3 1),(Ql 107 106),(Qa 108 (.bin .eql (.t 107) (.c (.iv 1)))),(Qm 109 108),(Qg 110 109 true (.mv (.t 8))),(Qg 111 109 true (.not (.t 110))),(Qp 112 109 111)]) (.ite (.t 112) (.reg [(Qf 113 3 1),(Qb (.store 1 (.t 113) (.c (.iv 2))))]) (.skip))) (.seq (.reg [(Qe 114 5 1),(Qm 115 7),(Qs 5 2 114),(Qm 3 115)]) (.ret))))))))))
theorem ok97:FnOK Tryz.prog 97 Tryz.f97 e97 [.c 2 (some 5),.t 3] 1 115:=⟨by kernel_rfl,⟨_,rfl,by kernel_rfl⟩,by kernel_rfl,by kernel_rfl⟩
noncomputable def Z1p:(Diner×(List Mail))→Option (Diner×(List Mail))
| (x27,x28)=>
 some (x27,x28)
noncomputable def Z2p:((List Mail)×Bool×Diner×Diner×(List Mail))→Option (((List Mail)×Bool×Diner×Diner×(List Mail)) ⊕ (Diner×(List Mail)))
| (x10,x11,x12,x13,x14)=>
 ifb x11 (
 (Z84 40 x14 x10).bind fun x15=>
 (Zpm x13).bind fun x16=>
 some (.inl (x16.2.1,x16.2.2,x13,x16.1,x15))) (
 Option.map Sum.inr (Z1p (x12,x14)))
noncomputable def Z3p (x1:Diner):Option (Diner×(List Mail)):=
 (Zpm x1).bind fun x2=>
 loop Z2p (x2.2.1,x2.2.2,x1,x2.1,([]:List Mail))
theorem Z4p (x1:Diner) (r:(Diner×(List Mail))) (h:Z3p x1=some r):FunT Tryz.prog 140 [.agg [.iv x1.ID,.iv x1.Phase,.sl 8 (List.map Side.row x1.Sides)]] [none,none] [] (.tup [.agg [.iv r.1.ID,.iv r.1.Phase,.sl 8 (List.map Side.row r.1.Sides)],.osl 0]) [none,none] [some ⟨95,5,List.map Mail.row r.2⟩]:=by
 refine Zj5 ok140 rfl rfl rfl (by first | rfl | simp [go_sem]) fun w0 M0=>?_
 rw [Z3p] at h
 dsimp only [lun,List.cons_append,List.nil_append]
 refine Zk2 14 ?_;dsimp only [go_sem];refine An ?_;obtain ⟨x2,ex2,h⟩:=Bs h;refine Zy2 trivial (Zqm x1 _ ex2) (h:=?_);refine Zk2 10 ?_;dsimp only [go_sem];refine An ?_;refine Ze4 (fun ((x27,x28):(Diner×(List Mail)))=>(⟨(.any :: .ptr 2 0 :: .ptr 3 0 :: .any :: .osl 0::an 23 []),[none,none,some ⟨61,[.iv x27.ID,.iv x27.Phase,.sl 8 (List.map Side.row x27.Sides)]⟩,some ⟨61,[.iv 0,.iv 0,.nl]⟩],[some ⟨95,5,List.map Mail.row x28⟩]⟩:St)) Z1p r ?_ fun J1=>?_
 ·rintro ⟨x27,x28⟩ h;rw [Z1p] at h;(try dsimp only);refine Zk2 7 ?_;dsimp only [go_sem];refine An ?_;obtain rfl:=Option.some.inj h;exact Zk5 ok140 rfl (by simp [go_sem])
 ·refine Zk2 1 ?_;dsimp only [go_sem];refine An ?_
  refine Zf4 h (fun ((x10,x11,x12,x13,x14):((List Mail)×Bool×Diner×Diner×(List Mail)))=>(⟨(.any :: .ptr 2 0 :: .ptr 3 0 :: .any :: .osl 0 :: .ptr 4 0 :: .sl 5 (List.map Mail.row x10) :: .bv x11::an 20 []),[none,none,some ⟨61,[.iv x12.ID,.iv x12.Phase,.sl 8 (List.map Side.row x12.Sides)]⟩,some ⟨61,[.iv 0,.iv 0,.nl]⟩,some ⟨61,[.iv x13.ID,.iv x13.Phase,.sl 8 (List.map Side.row x13.Sides)]⟩],[some ⟨95,5,List.map Mail.row x14⟩]⟩:St)) (by simp [go_sem]) (by rintro ⟨x10,x11,x12,x13,x14⟩;first | rfl | simp [go_sem]) ?_
  rintro n1 ⟨x10,x11,x12,x13,x14⟩ y1 h hin1 hout1;rw [Z2p] at h;(try dsimp only);refine Zk2 5 ?_;dsimp only [go_sem];refine An ?_;refine Zg4 h rfl (fun _ h=>?_) fun _ h=>?_
  ·refine Zk2 11 ?_;dsimp only [go_sem];refine An ?_;obtain ⟨x15,ex15,h⟩:=Bs h;refine Zl4 Mail.row ex15 trivial rfl rfl rfl ?_;refine Zk2 4 ?_;dsimp only [go_sem];refine An ?_;obtain ⟨x16,ex16,h⟩:=Bs h;refine Zy2 trivial (Zqm x13 _ ex16) (h:=?_);refine Zk2 9 ?_;dsimp only [go_sem];refine An ?_;refine Z14 1 0 rfl rfl rfl ?_;dsimp only [go_sem];exact Zp4 h hin1
  ·refine Zk2 1 ?_;dsimp only [go_sem];refine An ?_;exact Zq4 J1 (s:=(x12,x14)) (Zd4 h hout1)
noncomputable def Z5p (x55:(List Mail)):Drinker→Option (Drinker×(List Mail))
| x57=>
 some (x57,x55)
noncomputable def Z6p (x54:Drinker) (x55:(List Mail)):Bool→Option (Drinker×(List Mail))
| x56=>
 ifb x56 (
 (Z5p x55) ((Drinker.mk x54.Diner 2 x54.Need))) (
 (Z5p x55) x54)
noncomputable def Z7p:(Bool×Drinker×(List Mail))→Option (Drinker×(List Mail))
| (x53,x54,x55)=>
 ifb (decide (x54.Thirst=1)) (
 (Z6p x54 x55) (!x53)) (
 (Z6p x54 x55) false)
noncomputable def Z8p (x33:Int) (x34:Drinker) (x41:Diner) (x42:(List Mail)):Bool→Option ((Bool×Int×Drinker×(List Mail)) ⊕ (Drinker×(List Mail)))
| x44=>
 some (.inl (x44,wr (x33+1),(Drinker.mk x41 x34.Thirst x34.Need),x42))
noncomputable def Z9p (x32:Bool) (x33:Int) (x34:Drinker) (x35:(List Mail)):((List Mail)×Side)→Option ((Bool×Int×Drinker×(List Mail)) ⊕ (Drinker×(List Mail)))
| (x39,x40)=>
 (Zbm x34.Diner x33 x40).bind fun x41=>
 (Z84 40 x35 x39).bind fun x42=>
 ifb x32 (
 (Z8p x33 x34 x41 x42) true) (
 (Zuc x34.Need x40.Peer).bind fun x43=>
 ifb x43 (
 (Z8p x33 x34 x41 x42) (!x40.Bottle)) (
 (Z8p x33 x34 x41 x42) false))
noncomputable def Zap:(Bool×Int×Drinker×(List Mail))→Option ((Bool×Int×Drinker×(List Mail)) ⊕ (Drinker×(List Mail)))
| (x32,x33,x34,x35)=>
 ifb (decide (x33<(ln Side.row x34.Diner.Sides))) (
 (at_ x34.Diner.Sides x33).bind fun x36=>
 (Zzo x34 x36).bind fun x37=>
 (Z9p x32 x33 x34 x35) (x37.2,x37.1)) (
 Option.map Sum.inr (Z7p (x32,x34,x35)))
noncomputable def Zbp:Drinker→Option (Drinker×(List Mail))
| x17=>
 (Z3p x17.Diner).bind fun x18=>
 loop Zap (false,0,(Drinker.mk x18.1 x17.Thirst x17.Need),x18.2)
noncomputable def Zcp (x1:Drinker):Bool→Option (Drinker×(List Mail))
| x16=>
 ifb x16 (
 Zbp ((Drinker.mk ((Diner.mk x1.Diner.ID 0 x1.Diner.Sides)) x1.Thirst x1.Need))) (
 Zbp x1)
noncomputable def Zdp (x1:Drinker) (x14:Bool):Bool→Option (Drinker×(List Mail))
| x15=>
 ifb x15 (
 Zbp ((Drinker.mk ((Diner.mk x1.Diner.ID 1 x1.Diner.Sides)) x1.Thirst x1.Need))) (
 ifb (!decide (x1.Thirst=1)) (
 ifb (decide (x1.Diner.Phase=2)) (
 (Zcp x1) (!x14)) (
 (Zcp x1) false)) (
 (Zcp x1) false))
noncomputable def Zep (x1:Drinker):Bool→Option (Drinker×(List Mail))
| x14=>
 ifb (decide (x1.Thirst=1)) (
 (Zdp x1 x14) (decide (x1.Diner.Phase=0))) (
 (Zdp x1 x14) false)
noncomputable def Zfp (x6:Int):Bool→Option ((Bool×Int) ⊕ (Drinker×(List Mail)))
| x8=>
 some (.inl (x8,wr (x6+1)))
noncomputable def Zgp (x1:Drinker):(Bool×Int)→Option ((Bool×Int) ⊕ (Drinker×(List Mail)))
| (x5,x6)=>
 ifb (decide (x6<(ln Side.row x1.Diner.Sides))) (
 ifb x5 (
 (Zfp x6) true) (
 (at_ x1.Diner.Sides x6).bind fun x7=>
 (Zfp x6) (decide (x7.State=1)))) (
 Option.map Sum.inr ((Zep x1) x5))
noncomputable def Zhp (x1:Drinker):Option (Drinker×(List Mail)):=
 loop (Zgp x1) (false,0)
theorem Zip (x1:Drinker) (r:(Drinker×(List Mail))) (h:Zhp x1=some r):Zp2 Tryz.prog 97 [.agg (Drinker.row x1)] (.tup [.agg (Drinker.row r.1),.sl 5 (List.map Mail.row r.2)]):=by
 refine Zt2 ok97 rfl rfl fun w0 H0=>?_
 rw [Zhp] at h
 refine Zk2 15 ?_;dsimp only [go_sem];refine An ?_;refine Ze4 (fun (x14:Bool)=>(⟨(.any :: .ptr 0 0 :: .ptr 1 0 :: .any :: .bv x14::an 111 []),[some ⟨63,[.iv x1.Diner.ID,.iv x1.Diner.Phase,.sl 8 (List.map Side.row x1.Diner.Sides),.iv x1.Thirst,.sl 1 (List.map Zu4 x1.Need)]⟩,some ⟨63,[.iv 0,.iv 0,.nl,.iv 0,.nl]⟩],[]⟩:St)) (Zep x1) r ?_ fun J1=>?_
 ·intro x14 h;rw [Zep] at h;(try dsimp only);refine Zk2 7 ?_;dsimp only [go_sem];refine An ?_;refine Ze4 (fun (x15:Bool)=>(⟨(.any :: .ptr 0 0 :: .ptr 1 0 :: .any :: .bv x14::an 34 (.bv x15::an 76 [])),[some ⟨63,[.iv x1.Diner.ID,.iv x1.Diner.Phase,.sl 8 (List.map Side.row x1.Diner.Sides),.iv x1.Thirst,.sl 1 (List.map Zu4 x1.Need)]⟩,some ⟨63,[.iv 0,.iv 0,.nl,.iv 0,.nl]⟩],[]⟩:St)) (Zdp x1 x14) r ?_ fun J3=>?_
  ·intro x15 h;rw [Zdp] at h;(try dsimp only);refine Ze4 (fun (x17:Drinker)=>(⟨(.any :: .ptr 0 0 :: .ptr 1 0::an 113 []),[some ⟨63,[.iv x17.Diner.ID,.iv x17.Diner.Phase,.sl 8 (List.map Side.row x17.Diner.Sides),.iv x17.Thirst,.sl 1 (List.map Zu4 x17.Need)]⟩,some ⟨63,[.iv 0,.iv 0,.nl,.iv 0,.nl]⟩],[]⟩:St)) Zbp r ?_ fun J4=>?_
   ·intro x17 h;rw [Zbp] at h;(try dsimp only);refine Zk2 4 ?_;dsimp only [go_sem];refine An ?_;obtain ⟨x18,ex18,h⟩:=Bs h;refine Zm5 [false,false] [] trivial (Z4p x17.Diner _ ex18) (h:=?_);dsimp only [go_sem];refine Zk2 22 ?_;dsimp only [go_sem];refine An ?_
    refine Ze4 (fun ((x53,x54,x55):(Bool×Drinker×(List Mail)))=>(⟨(.any :: .ptr 0 0 :: .ptr 1 0::an 4 (.osl 0 :: .bv x53::an 107 [])),[some ⟨63,[.iv x54.Diner.ID,.iv x54.Diner.Phase,.sl 8 (List.map Side.row x54.Diner.Sides),.iv x54.Thirst,.sl 1 (List.map Zu4 x54.Need)]⟩,some ⟨63,[.iv 0,.iv 0,.nl,.iv 0,.nl]⟩],[some ⟨95,5,List.map Mail.row x55⟩]⟩:St)) Z7p r ?_ fun J6=>?_
    ·rintro ⟨x53,x54,x55⟩ h;rw [Z7p] at h;(try dsimp only);refine Zk2 7 ?_;dsimp only [go_sem];refine An ?_;refine Ze4 (fun (x56:Bool)=>(⟨(.any :: .ptr 0 0 :: .ptr 1 0::an 4 (.osl 0::an 104 (.bv x56::an 3 []))),[some ⟨63,[.iv x54.Diner.ID,.iv x54.Diner.Phase,.sl 8 (List.map Side.row x54.Diner.Sides),.iv x54.Thirst,.sl 1 (List.map Zu4 x54.Need)]⟩,some ⟨63,[.iv 0,.iv 0,.nl,.iv 0,.nl]⟩],[some ⟨95,5,List.map Mail.row x55⟩]⟩:St)) (Z6p x54 x55) r ?_ fun J9=>?_
     ·intro x56 h;rw [Z6p] at h;(try dsimp only);refine Ze4 (fun (x57:Drinker)=>(⟨(.any :: .ptr 0 0 :: .ptr 1 0::an 4 (.osl 0::an 108 [])),[some ⟨63,[.iv x57.Diner.ID,.iv x57.Diner.Phase,.sl 8 (List.map Side.row x57.Diner.Sides),.iv x57.Thirst,.sl 1 (List.map Zu4 x57.Need)]⟩,some ⟨63,[.iv 0,.iv 0,.nl,.iv 0,.nl]⟩],[some ⟨95,5,List.map Mail.row x55⟩]⟩:St)) (Z5p x55) r ?_ fun J10=>?_
      ·intro x57 h;rw [Z5p] at h;(try dsimp only);refine Zk2 7 ?_;dsimp only [go_sem];refine An ?_;refine Z73 0 rfl ?_;dsimp only [go_sem];exact Zo4 (res:=fun (r:(Drinker×(List Mail)))=>.tup [.agg (Drinker.row r.1),.sl 5 (List.map Mail.row r.2)]) ok97 h
      ·refine Zg4 h rfl (fun _ h=>?_) fun _ h=>?_
       ·refine Zk2 4 ?_;dsimp only [go_sem];refine An ?_;exact Zq4 J10 (s:=(Drinker.mk x54.Diner 2 x54.Need)) h
       ·refine Zk2 1 ?_;dsimp only [go_sem];refine An ?_;exact Zq4 J10 (s:=x54) h
     ·refine Zn4 109 h rfl (fun _ h=>?_) fun _ h=>?_
      ·dsimp only [go_sem];refine Zk2 4 ?_;dsimp only [go_sem];refine An ?_;exact Zq4 J9 (s:=!x53) h
      ·dsimp only [go_sem];refine Zk2 4 ?_;dsimp only [go_sem];refine An ?_;exact Zq4 J9 (s:=false) h
    ·refine Zk2 1 ?_;dsimp only [go_sem];refine An ?_;refine Zf4 h (fun ((x32,x33,x34,x35):(Bool×Int×Drinker×(List Mail)))=>(⟨(.any :: .ptr 0 0 :: .ptr 1 0::an 4 (.osl 0 :: .bv x32 :: .iv x33::an 106 [])),[some ⟨63,[.iv x34.Diner.ID,.iv x34.Diner.Phase,.sl 8 (List.map Side.row x34.Diner.Sides),.iv x34.Thirst,.sl 1 (List.map Zu4 x34.Need)]⟩,some ⟨63,[.iv 0,.iv 0,.nl,.iv 0,.nl]⟩],[some ⟨95,5,List.map Mail.row x35⟩]⟩:St)) (by simp [go_sem]) (by rintro ⟨x32,x33,x34,x35⟩;first | rfl | simp [go_sem]) ?_;rintro n1 ⟨x32,x33,x34,x35⟩ y1 h hin1 hout1
     rw [Zap] at h;(try dsimp only);refine Zk2 10 ?_;dsimp only [go_sem];refine An ?_;refine Zg4 h rfl (fun _ h=>?_) fun _ h=>?_
     ·refine Zk2 4 ?_;dsimp only [go_sem];refine An ?_
      refine Ze4 (fun ((x39,x40):((List Mail)×Side))=>(⟨(.any :: .ptr 0 0 :: .ptr 1 0::an 4 (.osl 0 :: .bv x32 :: .iv x33 :: .ptr 2 0 :: .sl 5 (List.map Mail.row x39)::an 104 [])),[some ⟨63,[.iv x34.Diner.ID,.iv x34.Diner.Phase,.sl 8 (List.map Side.row x34.Diner.Sides),.iv x34.Thirst,.sl 1 (List.map Zu4 x34.Need)]⟩,some ⟨63,[.iv 0,.iv 0,.nl,.iv 0,.nl]⟩,some ⟨66,[.iv x40.Peer,.iv x40.Epoch,.iv x40.State,.bv x40.Fork,.bv x40.Dirty,.bv x40.Token,.bv x40.Bottle,.bv x40.Ask]⟩],[some ⟨95,5,List.map Mail.row x35⟩]⟩:St)) (Z9p x32 x33 x34 x35) y1 ?_ fun J7=>?_
      ·rintro ⟨x39,x40⟩ h;rw [Z9p] at h;(try dsimp only);refine Zk2 6 ?_;dsimp only [go_sem];refine An ?_;obtain ⟨x41,ex41,h⟩:=Bs h;refine Zy2 trivial (Zcm x34.Diner x33 x40 _ ex41) (h:=?_);refine Zk2 7 ?_;dsimp only [go_sem];refine An ?_;obtain ⟨x42,ex42,h⟩:=Bs h;refine Zl4 Mail.row ex42 trivial rfl rfl rfl ?_;refine Zk2 5 ?_;dsimp only [go_sem];refine An ?_
       refine Ze4 (fun (x44:Bool)=>(⟨(.any :: .ptr 0 0 :: .ptr 1 0::an 4 (.osl 1 :: .bv x44 :: .iv x33::an 106 [])),[some ⟨63,[.iv x41.ID,.iv x41.Phase,.sl 8 (List.map Side.row x41.Sides),.iv x34.Thirst,.sl 1 (List.map Zu4 x34.Need)]⟩,some ⟨63,[.iv 0,.iv 0,.nl,.iv 0,.nl]⟩],[none,some ⟨95,5,List.map Mail.row x42⟩]⟩:St)) (Z8p x33 x34 x41 x42) y1 ?_ fun J8=>?_
       ·intro x44 h;rw [Z8p] at h;(try dsimp only);refine Zk2 6 ?_;dsimp only [go_sem];refine An ?_;refine Z14 1 0 rfl rfl rfl ?_;dsimp only [go_sem];exact Zp4 h hin1
       ·refine Zn4 94 h rfl (fun _ h=>?_) fun _ h=>?_
        ·dsimp only [go_sem];refine Zk2 13 ?_;dsimp only [go_sem];refine An ?_;exact Zq4 J8 (s:=true) h
        ·dsimp only [go_sem];refine Zk2 4 ?_;dsimp only [go_sem];refine An ?_;obtain ⟨x43,ex43,h⟩:=Bs h;refine Zy2 trivial (Zvc x34.Need x40.Peer _ ex43) (h:=?_);refine Zk2 1 ?_;dsimp only [go_sem];refine An ?_;refine Zn4 100 h rfl (fun _ h=>?_) fun _ h=>?_
         ·dsimp only [go_sem];refine Zk2 7 ?_;dsimp only [go_sem];refine An ?_;exact Zq4 J8 (s:=!x40.Bottle) h
         ·dsimp only [go_sem];refine Zk2 7 ?_;dsimp only [go_sem];refine An ?_;exact Zq4 J8 (s:=false) h
      ·refine Zf3 (by kernel_rfl) fun all hall hs hnap haf=>?_;dsimp only [go_sem];refine Z65 hall hs haf hnap 5 9 [5,9] [(74,[.agg [.iv x34.Diner.ID,.iv x34.Diner.Phase,.sl 8 (List.map Side.row x34.Diner.Sides),.iv x34.Thirst,.sl 1 (List.map Zu4 x34.Need)],.ptr 0 0,.ptr 0 2,.sl 8 (List.map Side.row x34.Diner.Sides),.iv x33])] (by kernel_rfl) ?_;dsimp only [go_sem];obtain ⟨x36,ex36,h⟩:=Bs h;refine Zk4 hall hs haf hnap 5 Side.row ex36 rfl rfl trivial rfl rfl rfl rfl ?_;refine Z55 hall hs haf hnap 1 7 ?_;dsimp only [go_sem];refine An ?_
       obtain ⟨x37,ex37,h⟩:=Bs h;refine Zr3 7 11 rfl ?_ ?_
       ·refine Zw3 hall rfl trivial (Z0p x34 x36 _ ex37) (h:=?_);dsimp only [go_sem];refine Z55 hall hs haf hnap 3 3 ?_;dsimp only [go_sem];refine An ?_;refine Zq3 11 rfl ?_;refine Zv3 hall rfl trivial ?_;dsimp only [go_sem];refine Zq3 12 rfl ?_;refine Zv3 hall rfl trivial ?_;dsimp only [go_sem];refine Z55 hall hs haf hnap 1 0 ?_;dsimp only [go_sem];refine An ?_;refine Zp3 rfl ?_ _;exact Zq4 J7 (s:=(x37.2,x37.1)) h
       ·refine Zv3 hall rfl trivial ?_;dsimp only [go_sem];refine Zq3 7 rfl ?_;refine Zw3 hall rfl trivial (Z0p x34 x36 _ ex37) (h:=?_);dsimp only [go_sem];refine Z55 hall hs haf hnap 3 2 ?_;dsimp only [go_sem];refine An ?_;refine Zq3 12 rfl ?_;refine Zv3 hall rfl trivial ?_;dsimp only [go_sem];refine Z55 hall hs haf hnap 1 0 ?_;dsimp only [go_sem];refine An ?_;refine Zp3 rfl ?_ _;exact Zq4 J7 (s:=(x37.2,x37.1)) h
     ·refine Zk2 1 ?_;dsimp only [go_sem];refine An ?_;exact Zq4 J6 (s:=(x32,x34,x35)) (Zd4 h hout1)
   ·refine Zg4 h rfl (fun _ h=>?_) fun _ h=>?_
    ·refine Zk2 5 ?_;dsimp only [go_sem];refine An ?_;exact Zq4 J4 (s:=(Drinker.mk ((Diner.mk x1.Diner.ID 1 x1.Diner.Sides)) x1.Thirst x1.Need)) h
    ·refine Zk2 6 ?_;dsimp only [go_sem];refine An ?_;refine Ze4 (fun (x16:Bool)=>(⟨(.any :: .ptr 0 0 :: .ptr 1 0::an 51 (.bv x16::an 61 [])),[some ⟨63,[.iv x1.Diner.ID,.iv x1.Diner.Phase,.sl 8 (List.map Side.row x1.Diner.Sides),.iv x1.Thirst,.sl 1 (List.map Zu4 x1.Need)]⟩,some ⟨63,[.iv 0,.iv 0,.nl,.iv 0,.nl]⟩],[]⟩:St)) (Zcp x1) r ?_ fun J5=>?_
     ·intro x16 h;rw [Zcp] at h;(try dsimp only);refine Zg4 h rfl (fun _ h=>?_) fun _ h=>?_
      ·refine Zk2 5 ?_;dsimp only [go_sem];refine An ?_;exact Zq4 J4 (s:=(Drinker.mk ((Diner.mk x1.Diner.ID 0 x1.Diner.Sides)) x1.Thirst x1.Need)) h
      ·refine Zk2 1 ?_;dsimp only [go_sem];refine An ?_;exact Zq4 J4 (s:=x1) h
     ·refine Zn4 45 h rfl (fun _ h=>?_) fun _ h=>?_
      ·dsimp only [go_sem];refine Zk2 6 ?_;dsimp only [go_sem];refine An ?_;refine Zn4 51 h rfl (fun _ h=>?_) fun _ h=>?_
       ·dsimp only [go_sem];refine Zk2 4 ?_;dsimp only [go_sem];refine An ?_;exact Zq4 J5 (s:=!x14) h
       ·dsimp only [go_sem];refine Zk2 4 ?_;dsimp only [go_sem];refine An ?_;exact Zq4 J5 (s:=false) h
      ·dsimp only [go_sem];refine Zk2 10 ?_;dsimp only [go_sem];refine An ?_;exact Zq4 J5 (s:=false) h
  ·refine Zn4 34 h rfl (fun _ h=>?_) fun _ h=>?_
   ·dsimp only [go_sem];refine Zk2 6 ?_;dsimp only [go_sem];refine An ?_;exact Zq4 J3 (s:=decide (x1.Diner.Phase=0)) h
   ·dsimp only [go_sem];refine Zk2 6 ?_;dsimp only [go_sem];refine An ?_;exact Zq4 J3 (s:=false) h
 ·refine Zk2 1 ?_;dsimp only [go_sem];refine An ?_;refine Zf4 h (fun ((x5,x6):(Bool×Int))=>(⟨(.any :: .ptr 0 0 :: .ptr 1 0 :: .any :: .bv x5 :: .iv x6::an 110 []),[some ⟨63,[.iv x1.Diner.ID,.iv x1.Diner.Phase,.sl 8 (List.map Side.row x1.Diner.Sides),.iv x1.Thirst,.sl 1 (List.map Zu4 x1.Need)]⟩,some ⟨63,[.iv 0,.iv 0,.nl,.iv 0,.nl]⟩],[]⟩:St)) (by simp [go_sem]) (by rintro ⟨x5,x6⟩;first | rfl | simp [go_sem]) ?_;rintro n1 ⟨x5,x6⟩ y1 h hin1 hout1;rw [Zgp] at h;(try dsimp only);refine Zk2 10 ?_;dsimp only [go_sem];refine An ?_
  refine Zg4 h rfl (fun _ h=>?_) fun _ h=>?_
  ·refine Zk2 6 ?_;dsimp only [go_sem];refine An ?_;refine Ze4 (fun (x8:Bool)=>(⟨(.any :: .ptr 0 0 :: .ptr 1 0 :: .any :: .bv x8 :: .iv x6::an 110 []),[some ⟨63,[.iv x1.Diner.ID,.iv x1.Diner.Phase,.sl 8 (List.map Side.row x1.Diner.Sides),.iv x1.Thirst,.sl 1 (List.map Zu4 x1.Need)]⟩,some ⟨63,[.iv 0,.iv 0,.nl,.iv 0,.nl]⟩],[]⟩:St)) (Zfp x6) y1 ?_ fun J2=>?_
   ·intro x8 h;rw [Zfp] at h;(try dsimp only);refine Zk2 6 ?_;dsimp only [go_sem];refine An ?_;exact Zp4 h hin1
   ·refine Zn4 21 h rfl (fun _ h=>?_) fun _ h=>?_
    ·dsimp only [go_sem];refine Zk2 11 ?_;dsimp only [go_sem];refine An ?_;exact Zq4 J2 (s:=true) h
    ·dsimp only [go_sem];refine Zk2 4 ?_;dsimp only [go_sem];refine An ?_;obtain ⟨x7,ex7,h⟩:=Bs h;refine Zj4 Side.row ex7 trivial rfl rfl rfl ?_;refine Zk2 6 ?_;dsimp only [go_sem];refine An ?_;exact Zq4 J2 (s:=decide (x7.State=1)) h
  ·refine Zk2 1 ?_;dsimp only [go_sem];refine An ?_;exact Zq4 J1 (s:=x5) (Zd4 h hout1)
set_option maxRecDepth 100000
set_option maxHeartbeats 4000000
@[go_sem] def e55_L0:EC:=.blk 1 (.seq (.reg [(Qe 9 5 1),(Qa 10 (.call 97 [(.t 9)])),(Qm 8 10),(Qa 11 (.ext (.t 8) 0)),(Qa 12 (.ext (.t 8) 1)),(Qa 5 (.alloc 63 [.iv 0,.iv 0,.nl,.iv 0,.nl])),(Qs 5 5 11),(Qm 6 12)]) (.seq (.reg [(Qm 13 4),(Qm 14 6),(Qa 15 (.app 95 5 40 (.t 13) (.t 14))),(Qm 4 15)]) (.seq (.seq (.reg [(Qe 16 5 5),(Qe 17 5 1),(Qa 18 (.call 44 [(.t 16),(.t 17)]))]) (.ite (.t 18) (.seq (.reg [(Qe 19 5 1),(Qm 20 4),(Qs 5 2 19),(Qm 3 20)]) (.ret)) (.skip))) (.reg [(Qe 21 5 5),(Qs 5 1 21)]))))
@[go_sem] def e55:EC:=.seq (.reg [(Qx 1 63 5 0),(Qa 2 (.alloc 63 [.iv 0,.iv 0,.nl,.iv 0,.nl])),(Qa 3 (.mv (.c .nl)))]) (.seq (.reg [(Qa 7 (.bsl 95 5 0 [.iv 0,.iv 0,.iv 0,.iv 0,.iv 0] [])),(Qm 4 7)]) (.blk 0 (.loop e55_L0)))
theorem ok55:FnOK Tryz.prog 55 Tryz.f55 e55 [.c 2 (some 5),.t 3] 1 21:=⟨by kernel_rfl,⟨_,rfl,by kernel_rfl⟩,by kernel_rfl,by kernel_rfl⟩
noncomputable def Zjp:(Drinker×(List Mail))→Option ((Drinker×(List Mail)) ⊕ (Drinker×(List Mail)))
| (x7,x8)=>
 (Zhp x7).bind fun x9=>
 (Z84 40 x8 x9.2).bind fun x10=>
 (Zel x9.1 x7).bind fun x11=>
 ifb x11 (
 Option.map Sum.inr (some (x7,x10))) (
 some (.inl (x9.1,x10)))
noncomputable def Zkp (x1:Drinker):Option (Drinker×(List Mail)):=
 loop Zjp (x1,([]:List Mail))
theorem Zlp (x1:Drinker) (r:(Drinker×(List Mail))) (h:Zkp x1=some r):Zp2 Tryz.prog 55 [.agg (Drinker.row x1)] (.tup [.agg (Drinker.row r.1),.sl 5 (List.map Mail.row r.2)]):=by
 refine Zt2 ok55 rfl rfl fun w0 H0=>?_
 rw [Zkp] at h
 refine Zk2 12 ?_;dsimp only [go_sem];refine An ?_;refine Zf4 h (fun ((x7,x8):(Drinker×(List Mail)))=>(⟨(.any :: .ptr 0 0 :: .ptr 1 0 :: .any :: .osl 0::an 17 []),[some ⟨63,[.iv x7.Diner.ID,.iv x7.Diner.Phase,.sl 8 (List.map Side.row x7.Diner.Sides),.iv x7.Thirst,.sl 1 (List.map Zu4 x7.Need)]⟩,some ⟨63,[.iv 0,.iv 0,.nl,.iv 0,.nl]⟩],[some ⟨95,5,List.map Mail.row x8⟩]⟩:St)) (by simp [go_sem]) (by rintro ⟨x7,x8⟩;first | rfl | simp [go_sem]) ?_;rintro n1 ⟨x7,x8⟩ y1 h hin1 hout1;rw [Zjp] at h;(try dsimp only);refine Zk2 4 ?_
 dsimp only [go_sem];refine An ?_;obtain ⟨x9,ex9,h⟩:=Bs h;refine Zy2 trivial (Zip x7 _ ex9) (h:=?_);refine Zk2 11 ?_;dsimp only [go_sem];refine An ?_;obtain ⟨x10,ex10,h⟩:=Bs h;refine Zl4 Mail.row ex10 trivial rfl rfl rfl ?_;refine Zk2 7 ?_;dsimp only [go_sem];refine An ?_;obtain ⟨x11,ex11,h⟩:=Bs h;refine Zy2 trivial (Zfl x9.1 x7 _ ex11) (h:=?_);refine Zk2 1 ?_;dsimp only [go_sem];refine An ?_;refine Zg4 h rfl (fun _ h=>?_) fun _ h=>?_
 ·refine Zk2 7 ?_;dsimp only [go_sem];refine An ?_;refine Z73 1 rfl ?_;dsimp only [go_sem];exact Zo4 (res:=fun (r:(Drinker×(List Mail)))=>.tup [.agg (Drinker.row r.1),.sl 5 (List.map Mail.row r.2)]) ok55 (Zd4 h hout1)
 ·refine Zk2 6 ?_;dsimp only [go_sem];refine An ?_;refine Z14 1 0 rfl rfl rfl ?_;dsimp only [go_sem];exact Zp4 h hin1
theorem s_bottle15 (d:Drinker) (x:Side) (hN:d.Need.length≤1000000):Zzo d x=some (Zue (Zse d x) d.Thirst x,Zve d.Diner.ID (Zse d x) d.Thirst x):=by
 simp only [Zzo,Zxc d.Need x.Peer hN,Option.bind_some]
 have hnd:decide (x.Peer∈d.Need)=Zse d x:=rfl
 rw [hnd]
 generalize Zse d x=nd
 have j4:∀(y:Side) (E:List Mail),E.length≤10→∀z,Zvo d y E z=some (if z then ({y with Ask:=false},E++[⟨d.Diner.ID,y.Peer,⟨4,y.Epoch,0⟩⟩]) else (y,E)):=fun y E hE z=>by
  cases z with
  | true=>dsimp only [Zvo,Zuo];rw [Z06,Z56 _ _ (by omega) (by simp only [List.length_singleton];omega)];rfl
  | false=>rfl
 have j3:∀(y:Side) (E:List Mail),E.length≤10→Zwo d nd (y,E)=some (if decide (d.Thirst=1)&&(nd&&(y.Ask&&!y.Bottle)) then ({y with Ask:=false},E++[⟨d.Diner.ID,y.Peer,⟨4,y.Epoch,0⟩⟩]) else (y,E)):=fun y E hE=>by
  dsimp only [Zwo]
  simp only [j4 y E hE]
  cases nd<;>cases decide (d.Thirst=1)<;>cases y.Ask<;>rfl
 have j2:∀z,Zxo d x nd z=Zwo d nd (if z then {x with Bottle:=false} else x,if z then [⟨d.Diner.ID,x.Peer,⟨3,x.Epoch,0⟩⟩] else []):=fun z=>by
  cases z with
  | true=>dsimp only [Zxo];rw [Z06,Z56 _ _ (by simp) (by simp)];rfl
  | false=>rfl
 have j1:∀z,Zyo d x nd z=Zxo d x nd (x.Bottle&&(x.Ask&&!z)):=fun z=>by
  dsimp only [Zyo]
  cases x.Bottle<;>cases x.Ask<;>rfl
 have e:ifb nd (ifb (decide (d.Thirst=2)) (Zyo d x nd true) (ifb (decide (d.Thirst=1)) (Zyo d x nd x.Fork) (Zyo d x nd false))) (Zyo d x nd false)=Zyo d x nd (Zte nd d.Thirst x):=by
  unfold Zte
  cases nd<;>cases decide (d.Thirst=2)<;>cases decide (d.Thirst=1)<;>rfl
 rw [e,j1,j2,j3 _ _ (by split<;>simp)]
 unfold Zue Zve bot1
 cases (x.Bottle&&(x.Ask&&!Zte nd d.Thirst x)) with
 | false=>simp only [if_neg (show ¬(false=true) by simp),List.nil_append];split<;>rfl
 | true=>simp only [if_pos];split<;>rfl
theorem s_fireIn (d:Diner) (hl:d.Sides.length≤63):Z3p d=some (Z6a d,Z7a d):=by
 rw [←s_r13Fire d hl];rfl
theorem s_r15Once (d:Drinker) (h:okD d.Diner=true) (hN:d.Need.length≤1000000):Zhp d=some (Z1f d,Z2f d):=by
 have hl:=Z0a h
 have hp:=pre_ok h
 have hms:=Z8a d.Diner.Sides d.Diner.ID (Zxe d)
 have hfl:=fireD_len (Zye d)
 have e0:(Zye d).Sides=d.Diner.Sides:=rfl
 rw [e0] at hfl
 have j4:Zbp ⟨Zye d,d.Thirst,d.Need⟩=some (Z1f d,Z2f d):=by
  have hml:(Z7a (Zye d)).length≤130:=by unfold Z7a;rw [e0];show (d.Diner.Sides.flatMap (Z4a d.Diner.ID (Zxe d))).length≤130;omega
  dsimp only [Zbp]
  rw [s_fireIn _ (by rw [e0];omega),Option.bind_some]
  dsimp only
  have hid:(Z6a (Zye d)).ID=d.Diner.ID:=Zoe (Zye d)
  have hon:Zze d=(Z6a (Zye d)).Sides.map fun x=>Zue (Zse d x) d.Thirst x:=rfl
  have hoM:Z2f d=Z7a (Zye d)++(Z6a (Zye d)).Sides.flatMap fun x=>Zve d.Diner.ID (Zse d x) d.Thirst x:=rfl
  have hoD:Z1f d=⟨⟨d.Diner.ID,(Z6a (Zye d)).Phase,Zze d⟩,Z0f d,d.Need⟩:=rfl
  have hoT:Z0f d=if decide (d.Thirst=1)&&(Zze d).all (fun x=>!Zse d x||x.Bottle) then 2 else d.Thirst:=rfl
  rw [hoD,hoT,hoM,hon]
  have eF:Z6a (Zye d)=⟨d.Diner.ID,(Z6a (Zye d)).Phase,(Z6a (Zye d)).Sides⟩:=by rw [←hid]
  rw [eF]
  dsimp only
  generalize (Z6a (Zye d)).Phase=P
  have hfl':=hfl
  generalize (Z6a (Zye d)).Sides=L at hfl'
  generalize Z7a (Zye d)=E at hml
  have:=Z68 L Zap (fun pre=>((pre.map fun x=>Zue (Zse d x) d.Thirst x).any (fun x=>Zse d x&&!x.Bottle),(pre.length:Int),(⟨⟨d.Diner.ID,P,(pre.map fun x=>Zue (Zse d x) d.Thirst x)++L.drop pre.length⟩,d.Thirst,d.Need⟩:Drinker),E++pre.flatMap fun x=>Zve d.Diner.ID (Zse d x) d.Thirst x))
   (⟨⟨d.Diner.ID,P,L.map fun x=>Zue (Zse d x) d.Thirst x⟩,if decide (d.Thirst=1)&&(L.map fun x=>Zue (Zse d x) d.Thirst x).all (fun x=>!Zse d x||x.Bottle) then 2 else d.Thirst,d.Need⟩,E++L.flatMap fun x=>Zve d.Diner.ID (Zse d x) d.Thirst x) (fun pre x post hq=>by
   have hm:=Z88 hq
   have hd:L.drop pre.length=x::post:=by rw [hq];simp
   have hd':L.drop (pre++[x]).length=post:=by rw [hq];simp
   have hE:=botMs_len d.Need d.Diner.ID d.Thirst pre
   have eq1:(fun x:Side=>Zve d.Diner.ID (decide (x.Peer∈d.Need)) d.Thirst x)=fun x=>Zve d.Diner.ID (Zse d x) d.Thirst x:=rfl
   rw [eq1] at hE
   have hA:(pre.map fun x=>Zue (Zse d x) d.Thirst x).length=pre.length:=by simp
   rw [hd,hd']
   generalize hAA:(pre.map fun x=>Zue (Zse d x) d.Thirst x)=A at hA
   have hlen:(A++x::post).length=L.length:=by rw [hq,List.length_append,List.length_append,hA]
   have hx:(A++x::post)[pre.length]?=some x:=by rw [←hA];simp
   have st:∀y:Side,(A++x::post).set pre.length y=A++y::post:=fun y=>by rw [←hA];simp
   have hb2:=botM_len d.Diner.ID (Zse d x) d.Thirst x
   have nd2:Zse d (Zue (Zse d x) d.Thirst x)=Zse d x:=by unfold Zse;rw [(Zwe _ _ _).1]
   dsimp only [Zap]
   rw [Z66 hx,Z06,Z46 hx,Option.bind_some,s_bottle15 ⟨⟨d.Diner.ID,P,A++x::post⟩,d.Thirst,d.Need⟩ x hN,Option.bind_some]
   have enb:Zse ⟨⟨d.Diner.ID,P,A++x::post⟩,d.Thirst,d.Need⟩ x=Zse d x:=rfl
   rw [enb]
   have j8:∀z,Z8p (pre.length:Int) ⟨⟨d.Diner.ID,P,A++x::post⟩,d.Thirst,d.Need⟩ ⟨d.Diner.ID,P,A++Zue (Zse d x) d.Thirst x::post⟩ ((E++pre.flatMap fun x=>Zve d.Diner.ID (Zse d x) d.Thirst x)++Zve d.Diner.ID (Zse d x) d.Thirst x) z=some (.inl (z,((pre.length+1:Nat):Int),⟨⟨d.Diner.ID,P,A++Zue (Zse d x) d.Thirst x::post⟩,d.Thirst,d.Need⟩,(E++pre.flatMap fun x=>Zve d.Diner.ID (Zse d x) d.Thirst x)++Zve d.Diner.ID (Zse d x) d.Thirst x)):=fun z=>by
    dsimp only [Z8p]
    rw [Z86 (by omega)]
   dsimp only [Z9p]
   rw [Zln _ pre.length _ (by dsimp only;omega) (by dsimp only;omega),Option.bind_some]
   dsimp only
   rw [st,Z56 _ _ (by omega) (by simp only [List.length_append];omega),Option.bind_some,Zxc d.Need _ hN,Option.bind_some,show decide ((Zue (Zse d x) d.Thirst x).Peer∈d.Need)=Zse d (Zue (Zse d x) d.Thirst x) from rfl,nd2,j8,j8,j8,List.map_append,hAA,List.any_append,List.flatMap_append,Zc8,←List.append_assoc]
   simp only [List.map_cons,List.map_nil,List.any_cons,List.any_nil,Bool.or_false,nd2,List.append_assoc,List.flatMap_cons,List.flatMap_nil,List.append_nil,List.singleton_append]
   cases A.any (fun x=>Zse d x&&!x.Bottle)<;>cases Zse d x<;>rfl) (by
   dsimp only [Zap]
   rw [List.drop_length,List.append_nil,show ((L.length:Nat):Int)=((L.map fun x=>Zue (Zse d x) d.Thirst x).length:Nat) by simp,Z76,Z16]
   dsimp only [Z7p]
   have e3:(L.map fun x=>Zue (Zse d x) d.Thirst x).any (fun x=>Zse d x&&!x.Bottle)=!(L.map fun x=>Zue (Zse d x) d.Thirst x).all (fun x=>!Zse d x||x.Bottle):=Zm7 _ _ _ fun x=>by cases Zse d x<;>cases x.Bottle<;>rfl
   rw [e3]
   dsimp only [Z6p,Z5p]
   cases decide (d.Thirst=1) with
   | false=>rfl
   | true=>cases (L.map fun x=>Zue (Zse d x) d.Thirst x).all (fun x=>!Zse d x||x.Bottle)<;>rfl)
  simpa using this
 have j5:∀z,Zcp d z=Zbp ⟨⟨d.Diner.ID,if z then 0 else d.Diner.Phase,d.Diner.Sides⟩,d.Thirst,d.Need⟩:=fun z=>by cases z<;>rfl
 have j3:∀o z,Zdp d o z=Zbp ⟨⟨d.Diner.ID,if z then 1 else if decide (d.Diner.Phase=2)&&(!decide (d.Thirst=1)&&!o) then 0 else d.Diner.Phase,d.Diner.Sides⟩,d.Thirst,d.Need⟩:=fun o z=>by
  cases z with
  | true=>rfl
  | false=>
    dsimp only [Zdp]
    rw [Z16]
    simp only [j5]
    cases decide (d.Thirst=1)<;>cases decide (d.Diner.Phase=2)<;>cases o<;>rfl
 have j1:Zep d (d.Diner.Sides.any fun x=>decide (x.State=1))=some (Z1f d,Z2f d):=by
  rw [←j4]
  unfold Zye Zxe
  dsimp only [Zep]
  simp only [j3]
  cases decide (d.Thirst=1)<;>cases decide (d.Diner.Phase=0)<;>rfl
 unfold Zhp
 refine Z68 d.Diner.Sides (Zgp d) (fun pre=>(pre.any fun x=>decide (x.State=1),(pre.length:Int))) (Z1f d,Z2f d) (fun pre x post hq=>?_) ?_
 ·have hx:=Z78 hq
  have hm:=Z88 hq
  dsimp only [Zgp]
  rw [Z66 hx,Z06,Z46 hx,Option.bind_some,List.any_append,Zc8]
  dsimp only [Zfp]
  rw [Z86 (by omega)]
  cases pre.any fun x=>decide (x.State=1)<;>simp
 ·dsimp only [Zgp]
  rw [Z76,Z16,j1];rfl
theorem fire15_loop:∀(n:Nat) (d:Drinker) (out:List Mail),d.Need.length≤1000000→okD d.Diner=true→mu d≤n→out.length+bits d.Diner.Sides≤600000→loop Zjp (d,out)=some (fireN (n+1) d out):=fun n=>by
 have step:∀(d:Drinker) (out:List Mail),d.Need.length≤1000000→okD d.Diner=true→out.length+bits d.Diner.Sides≤600000→Zjp (d,out)=if Z1f d=d then some (.inr (d,out)) else some (.inl (Z1f d,out++Z2f d)):=fun d out hN hk ho=>by
  have hl:=Z0a hk
  have hp:=Zof hk
  have hb:=Z5f d
  have hs:(Z1f d).Diner.Sides.length≤1000000:=by
   have:=congrArg List.length (Zrk d).2.2
   simp only [List.length_map] at this
   omega
  dsimp only [Zjp]
  rw [s_r15Once d hk hN,Option.bind_some]
  dsimp only
  rw [Z56 _ _ (by omega) (by omega),Option.bind_some,s_r15Same _ _ hs hN,Option.bind_some]
  by_cases hq:Z1f d=d
  ·rw [if_pos hq,decide_eq_true hq,Z06]
   have hm:Z2f d=[]:=by
    rcases Z7f hp.1 hp.2 with h1 | h1
    ·exact h1.2
    ·rw [hq] at h1;omega
   rw [hm,List.append_nil];rfl
  ·rw [if_neg hq,decide_eq_false hq,Z16]
 induction n with
 | zero=>
   intro d out hN hk hm ho
   have hp:=Zof hk
   have hq:Z1f d=d:=by
    rcases Z7f hp.1 hp.2 with h1 | h1
    ·exact h1.1
    ·omega
   rw [Zc4,step d out hN hk ho,if_pos hq]
   unfold fireN
   rw [if_pos hq]
 | succ n ih=>
   intro d out hN hk hm ho
   have hp:=Zof hk
   rw [Zc4,step d out hN hk ho]
   unfold fireN
   by_cases hq:Z1f d=d
   ·rw [if_pos hq,if_pos hq]
   ·rw [if_neg hq,if_neg hq]
    have hb:=Z5f d
    refine ih (Z1f d) (out++Z2f d) hN (once_ok hk) ?_ (by rw [List.length_append];omega)
    rcases Z7f hp.1 hp.2 with h1 | h1
    ·exact absurd h1.1 hq
    ·omega
theorem s_r15Fire {d:Drinker} (h:okDr d=true) (hN:d.Need.length≤1000000):Zkp d=some (fireDr d):=by
 have hk:=Zvf h
 have hl:=Z0a hk
 have hb:=bits_le d.Diner.Sides
 have hm:=mu_le hk
 unfold Zkp
 exact fire15_loop 299 d [] hN hk (by omega) (by simp only [List.length_nil];omega)
set_option maxRecDepth 100000
set_option maxHeartbeats 4000000
set_option maxRecDepth 100000
set_option maxHeartbeats 4000000
@[go_sem] def e8:EC:=.seq (.reg [(Qx 1 53 2 0),(Qa 2 (.mv (.c .ff)))]) (.seq (.seq (.reg [(Qa 5 (.call 11 [])),(Qa 6 (.not (.t 5))),(Qm 7 6),(Qh 8 7 false 1 1),(Qn 9 7 false 8),(Qg 10 7 false (.len (.t 9))),(Qg 11 7 false (.bin .gtr (.t 10) (.c (.iv 60)))),(Qq 12 7 11),(Qm 13 12),(Qh 14 13 false 0 1),(Qn 15 13 false 14),(Qg 16 13 false (.bin .gtr (.t 15) (.c (.iv 24)))),(Qq 17 13 16)]) (.ite (.t 17) (.seq (.reg [(Qa 18 (.call 11 [])),(Qm 2 18)]) (.ret)) (.skip))) (.seq (.reg [(Qe 20 2 1),(Qa 21 (.call 41 [(.t 20)])),(Qa 22 (.call 40 [(.t 21)])),(Qm 19 22),(Qa 23 (.ext (.t 19) 0)),(Qa 24 (.ext (.t 19) 1)),(Qa 3 (.alloc 25 [.nl,.nl])),(Qs 2 3 23),(Qm 4 24)]) (.seq (.seq (.reg [(Qe 25 2 1),(Qa 26 (.call 42 [(.t 25)])),(Qa 27 (.not (.t 26)))]) (.ite (.t 27) (.seq (.reg [(Qe 28 2 3),(Qa 29 (.build [.nl,.nl] [])),(Qa 30 (.call 16 [(.t 28),(.t 29)])),(Qm 31 30),(Qg 32 31 true (.mv (.t 4))),(Qg 33 31 true (.bin .eql (.t 32) (.c (.iv 30)))),(Qp 34 31 33),(Qm 2 34)]) (.ret)) (.skip))) (.seq (.drw [(Qe 35 2 3),(Qe 36 2 1),(Qa 37 (.call 43 [(.t 36)])),(Qa 38 (.call 16 [(.t 35),(.t 37)])),(Qm 39 38),(Qg 40 39 true (.mv (.t 4))),(Qg 41 39 true (.bin .eql (.t 40) (.c (.iv 0)))),(Qp 42 39 41),(Qm 43 42),(Qg 44 43 true (.loadA 2 (.t 3))),(Qg 45 43 true (.call 14 [(.t 44)])),(Qg 46 43 true (.call 17 [(.t 45)])),(Qg 47 43 true (.bin .eql (.t 46) (.c (.iv 0)))),(Qp 48 43 47),(Qm 49 48),(Qg 50 49 true (.loadA 2 (.t 3))),(Qg 51 49 true (.call 22 [(.t 50),(.c (.iv 0))])),(Qg 52 49 true (.len (.t 51))),(Qh 53 49 true 0 1),(Qn 54 49 true 53),(Qg 55 49 true (.bin .eql (.t 52) (.t 54))),(Qp 56 49 55),(Qm 2 56)] [[],[],[1],[0,2,2],[3,3],[4],[5,4],[4,6],[7,4],[8],[9,8,8],[10,10,8],[11,8],[8,12],[13,11],[14],[15,14,14],[16,14],[14],[18,14],[17,19,14],[14,20],[21,16,0,1,2,3,4,5,6,7,8,9,10,11,12,13,14,15,16,17,18,19,20,21]] [[3],[2],[1,3],[0,2,4],[3,5,6,7],[4,6],[4,5,7],[4,6,8],[7,9,10,11,12,13],[8,10],[8,9,11],[8,10,12],[8,11,13],[8,12,14],[13,15,16,17,18,19,20,21],[14,16],[14,15,17],[14,16,20],[14,19],[14,18,20],[14,17,19,21],[14,20,22],[21]]) (.ret)))))
set_option maxRecDepth 100000
set_option maxHeartbeats 4000000
@[go_sem] def e9_L0:EC:=.seq (.seq (.reg [(Qm 47 8),(Qf 48 0 2),(Ql 49 48),(Qa 50 (.len (.t 49))),(Qa 51 (.bin .lss (.t 47) (.t 50)))]) (.ite (.t 51) (.skip) (.exit 0))) (.seq (.blk 1 (.seq (.drw [(Qm 54 8),(Qm 55 7),(Qa 56 (.bin .neq (.t 54) (.t 55))),(Qm 57 56),(Qg 58 57 true (.mv (.t 8))),(Qh 59 57 true 0 5),(Qn 60 57 true 59),(Qg 61 57 true (.len (.t 60))),(Qg 62 57 true (.bin .geq (.t 58) (.t 61))),(Qg 63 57 true (.mv (.t 62))),(Qh 64 63 false 0 2),(Qn 65 63 false 64),(Qg 66 63 false (.mv (.t 8))),(Qg 67 63 false (.idx 5 (.t 65) (.t 66))),(Qg 68 63 false (.loadA 5 (.t 67))),(Qh 69 63 false 0 5),(Qn 70 63 false 69),(Qg 71 63 false (.mv (.t 8))),(Qg 72 63 false (.idx 5 (.t 70) (.t 71))),(Qg 73 63 false (.loadA 5 (.t 72))),(Qg 74 63 false (.call 44 [(.t 68),(.t 73)])),(Qg 75 63 false (.not (.t 74))),(Qg 76 57 true (.pick (.t 63) (.c .tt) (.t 75))),(Qp 77 57 76)] [[],[],[0,1],[2],[3],[3],[5,3],[6,3],[4,7,3],[8,3,3],[9],[10,9],[9],[11,12,9],[13,9],[9],[15,9],[9],[16,17,9],[18,9],[14,19,9,9],[20,9],[9,21,3],[3,22]] [[2],[2],[0,1,3],[2,4,5,6,7,8,9,22,23],[3,8],[3,6],[3,5,7],[3,6,8],[3,4,7,9],[3,8,10,11,12,13,14,15,16,17,18,19,20,21,22],[9,11],[9,10,13],[9,13],[9,11,12,14],[9,13,20],[9,16],[9,15,18],[9,18],[9,16,17,19],[9,18,20],[9,14,19,21],[9,20,22],[3,9,21,23],[3,22]]) (.ite (.t 77) (.seq (.reg [(Qa 4 (.mv (.c .ff)))]) (.ret)) (.skip)))) (.reg [(Qm 52 8),(Qv 53 52 1),(Qm 8 53)]))
@[go_sem] def e9:EC:=.seq (.reg [(Qx 2 25 2 0),(Qx 3 28 4 1),(Qa 4 (.mv (.c .ff)))]) (.seq (.seq (.reg [(Qa 9 (.call 11 [])),(Qa 10 (.not (.t 9))),(Qm 11 10),(Qg 12 11 false (.loadA 2 (.t 2))),(Qg 13 11 false (.call 12 [(.t 12)])),(Qg 14 11 false (.not (.t 13))),(Qq 15 11 14),(Qm 16 15),(Qh 17 16 false 3 3),(Qn 18 16 false 17),(Qg 19 16 false (.len (.t 18))),(Qg 20 16 false (.bin .gtr (.t 19) (.c (.iv 24)))),(Qq 21 16 20)]) (.ite (.t 21) (.seq (.reg [(Qa 22 (.call 11 [])),(Qm 4 22)]) (.ret)) (.skip))) (.seq (.reg [(Qf 23 0 3),(Ql 24 23),(Qa 25 (.mm true [(.t 24),(.c (.iv 0))])),(Qa 26 (.mm false [(.t 25),(.c (.iv 2))])),(Qf 27 0 3),(Qs 1 27 26)]) (.seq (.drw [(Qe 29 2 2),(Qa 30 (.call 14 [(.t 29)])),(Qe 31 4 3),(Qa 32 (.call 13 [(.t 30),(.t 31)])),(Qm 28 32),(Qa 33 (.ext (.t 28) 0)),(Qa 34 (.ext (.t 28) 1)),(Qa 5 (.alloc 25 [.nl,.nl])),(Qs 2 5 33),(Qm 6 34)] [[],[0],[],[1,2,1],[3],[4],[4],[],[7,5,3,0,1,2,3,4,5,7],[6,8,0,1,2,3,4,5,6,7,8]] [[1],[0,3],[3],[1,2,4],[3,5,6],[4,8],[4,9],[8],[5,7],[6]]) (.seq (.seq (.reg [(Qm 35 6),(Qa 36 (.bin .neq (.t 35) (.c (.iv 0))))]) (.ite (.t 36) (.seq (.reg [(Qe 37 2 5),(Qa 38 (.build [.nl,.nl] [])),(Qa 39 (.call 16 [(.t 37),(.t 38)])),(Qm 4 39)]) (.ret)) (.skip))) (.seq (.reg [(Qf 40 1 3),(Ql 41 40),(Qm 7 41)]) (.seq (.seq (.reg [(Qf 42 0 3),(Ql 43 42),(Qa 44 (.bin .eql (.t 43) (.c (.iv 2))))]) (.ite (.t 44) (.reg [(Qf 45 2 3),(Ql 46 45),(Qm 7 46)]) (.skip))) (.seq (.seq (.reg [(Qi 8 0)]) (.blk 0 (.loop e9_L0))) (.seq (.reg [(Qf 78 0 5),(Ql 79 78),(Qa 80 (.len (.t 79))),(Qf 81 0 2),(Ql 82 81),(Qa 83 (.len (.t 82))),(Qa 84 (.bin .eql (.t 80) (.t 83))),(Qm 4 84)]) (.ret)))))))))
theorem Zmp {s:Bar} {a:Int} (ha:0≤a) {r:Drinker×Int}:(Zvk s a r).2=0∧(Zvk s a r).1.Drinkers.length=s.Drinkers.length∧(∀(k:Nat) d,s.Drinkers[k]?=some d→(k:Int)≠a→(Zvk s a r).1.Drinkers[k]?=some d)∨(Zvk s a r).2≠0∧(Zvk s a r).1=Zkk:=by
 unfold Zvk
 by_cases h0:r.2=0
 ·rw [if_pos h0]
  cases hk:okDr r.1 with
  | false=>right;exact ⟨by simp,rfl⟩
  | true=>
    left
    refine ⟨rfl,by simp [actBS],fun k d hd hne=>?_⟩
    simp only [if_true,actBS]
    rw [List.getElem?_set,if_neg (by omega)]
    exact hd
 ·right
  rw [if_neg h0]
  exact ⟨h0,rfl⟩
theorem Znp {s:Bar} {a:Int} {q:Drinker→Drinker×Int}:(Zwk s a q).2=0∧(Zwk s a q).1.Drinkers.length=s.Drinkers.length∧(∀(k:Nat) d,s.Drinkers[k]?=some d→(k:Int)≠a→(Zwk s a q).1.Drinkers[k]?=some d)∨(Zwk s a q).2≠0∧(Zwk s a q).1=Zkk:=by
 unfold Zwk
 cases Zlk s with
 | false=>right;exact ⟨by simp,rfl⟩
 | true=>
   cases ht:Znk s a with
   | false=>right;exact ⟨by simp,rfl⟩
   | true=>
     obtain ⟨d,hd,_⟩:=Zqk ht
     rw [if_pos rfl,if_pos rfl,hd]
     exact Zmp (Zpk.1 ht).1
theorem delivR_others {s:Bar} {a b:Int}:(Z1l s a b).2=0∧(Z1l s a b).1.Drinkers.length=s.Drinkers.length∧(∀(k:Nat) d,s.Drinkers[k]?=some d→(k:Int)≠b→(Z1l s a b).1.Drinkers[k]?=some d)∨(Z1l s a b).2≠0∧(Z1l s a b).1=Zkk:=by
 unfold Z1l
 cases Zlk s with
 | false=>right;exact ⟨by simp,rfl⟩
 | true=>
   cases ht:(Znk s a&&Znk s b) with
   | false=>right;exact ⟨by simp,rfl⟩
   | true=>
     rw [Bool.and_eq_true] at ht
     obtain ⟨d,hd,_⟩:=Zqk ht.2
     rw [if_pos rfl,if_pos rfl]
     cases hi:delivJ s a b with
     | none=>right;exact ⟨by simp,rfl⟩
     | some i=>
       dsimp only
       rw [hd]
       cases hm:s.Mail[i]? with
       | none=>right;exact ⟨by simp,rfl⟩
       | some m=>exact Zmp (s:=⟨s.Drinkers,s.Mail.take i++s.Mail.drop (i+1)⟩) (Zpk.1 ht.2).1
def whoR (k a b:Int):Int:=if k=2 then b else a
theorem actR_others {s:Bar} {k a b:Int} (need:List Int) (hk:k=0∨k=1∨k=2):(Z3l s k a b need).2=0∧(Z3l s k a b need).1.Drinkers.length=s.Drinkers.length∧(∀(j:Nat) d,s.Drinkers[j]?=some d→(j:Int)≠whoR k a b→(Z3l s k a b need).1.Drinkers[j]?=some d)∨(Z3l s k a b need).2≠0∧(Z3l s k a b need).1=Zkk:=by
 unfold Z3l whoR
 rcases hk with rfl | rfl | rfl
 ·exact Znp
 ·exact Znp
 ·exact delivR_others
set_option maxRecDepth 100000
set_option maxHeartbeats 4000000
@[go_sem] def e18_L0:EC:=.seq (.seq (.reg [(Qm 4 3),(Qf 5 0 1),(Ql 6 5),(Qa 7 (.len (.t 6))),(Qa 8 (.bin .lss (.t 4) (.t 7)))]) (.ite (.t 8) (.skip) (.exit 0))) (.seq (.blk 1 (.seq (.reg [(Qf 11 0 1),(Ql 12 11),(Qm 13 3),(Qk 14 5 12 13),(Qe 15 5 14),(Qa 16 (.call 61 [(.t 15)])),(Qa 17 (.not (.t 16)))]) (.ite (.t 17) (.seq (.reg [(Qa 2 (.mv (.c .ff)))]) (.ret)) (.skip)))) (.reg [(Qm 9 3),(Qv 10 9 1),(Qm 3 10)]))
@[go_sem] def e18:EC:=.seq (.reg [(Qx 1 25 2 0),(Qa 2 (.mv (.c .ff)))]) (.seq (.seq (.reg [(Qi 3 0)]) (.blk 0 (.loop e18_L0))) (.seq (.reg [(Qe 18 2 1),(Qa 19 (.call 27 [(.t 18)])),(Qa 20 (.call 62 [(.t 19)])),(Qm 2 20)]) (.ret)))
theorem ok18:FnOK Tryz.prog 18 Tryz.f18 e18 [.t 2] 1 20:=⟨by kernel_rfl,⟨_,rfl,by kernel_rfl⟩,by kernel_rfl,by kernel_rfl⟩
noncomputable def Zop (x1:Bar):Unit→Option Bool
| ()=>
 (Zml x1).bind fun x11=>
 (Zin x11).bind fun x12=>
 some x12
noncomputable def Zpp (x1:Bar):Int→Option (Int ⊕ Bool)
| x5=>
 ifb (decide (x5<(ln Drinker.row x1.Drinkers))) (
 (at_ x1.Drinkers x5).bind fun x6=>
 (Zyn x6).bind fun x7=>
 ifb (!x7) (
 Option.map Sum.inr (some false)) (
 some (.inl (wr (x5+1))))) (
 Option.map Sum.inr ((Zop x1) ()))
noncomputable def Zqp (x1:Bar):Option Bool:=
 loop (Zpp x1) 0
theorem Zrp (x1:Bar) (r:Bool) (h:Zqp x1=some r):Zp2 Tryz.prog 18 [.agg (Bar.row x1)] (.bv r):=by
 refine Zt2 ok18 rfl rfl fun w0 H0=>?_
 rw [Zqp] at h
 refine Zk2 10 ?_;dsimp only [go_sem];refine An ?_;refine Ze4 (fun (_:Unit)=>(⟨(.any :: .ptr 0 0::an 19 []),[some ⟨25,[.sl 5 (List.map Drinker.row x1.Drinkers),.sl 5 (List.map Mail.row x1.Mail)]⟩],[]⟩:St)) (Zop x1) r ?_ fun J1=>?_
 ·rintro ⟨⟩ h;rw [Zop] at h;(try dsimp only);refine Zk2 3 ?_;dsimp only [go_sem];refine An ?_;obtain ⟨x11,ex11,h⟩:=Bs h;refine Zy2 trivial (Znl x1 _ ex11) (h:=?_);obtain ⟨x12,ex12,h⟩:=Bs h;refine Zy2 trivial (Zjn x11 _ ex12) (h:=?_);refine Zk2 2 ?_;dsimp only [go_sem];refine An ?_;exact Zo4 (res:=fun (r:Bool)=>.bv r) ok18 h
 ·refine Zk2 1 ?_;dsimp only [go_sem];refine An ?_;refine Zf4 h (fun (x5:Int)=>(⟨(.any :: .ptr 0 0 :: .any :: .iv x5::an 17 []),[some ⟨25,[.sl 5 (List.map Drinker.row x1.Drinkers),.sl 5 (List.map Mail.row x1.Mail)]⟩],[]⟩:St)) (by simp [go_sem]) (by intro x5;first | rfl | simp [go_sem]) ?_;rintro n1 x5 y1 h hin1 hout1;rw [Zpp] at h;(try dsimp only);refine Zk2 9 ?_;dsimp only [go_sem];refine An ?_;refine Zg4 h rfl (fun _ h=>?_) fun _ h=>?_
  ·refine Zk2 8 ?_;dsimp only [go_sem];refine An ?_;obtain ⟨x6,ex6,h⟩:=Bs h;refine Zj4 Drinker.row ex6 trivial rfl rfl rfl ?_;refine Zk2 1 ?_;dsimp only [go_sem];refine An ?_;obtain ⟨x7,ex7,h⟩:=Bs h;refine Zy2 trivial (Zzn x6 _ ex7) (h:=?_);refine Zk2 2 ?_;dsimp only [go_sem];refine An ?_;refine Zg4 h rfl (fun _ h=>?_) fun _ h=>?_
   ·refine Zk2 4 ?_;dsimp only [go_sem];refine An ?_;exact Zo4 (res:=fun (r:Bool)=>.bv r) ok18 (Zd4 h hout1)
   ·refine Zk2 7 ?_;dsimp only [go_sem];refine An ?_;exact Zp4 h hin1
  ·refine Zk2 1 ?_;dsimp only [go_sem];refine An ?_;exact Zq4 J1 (s:=()) (Zd4 h hout1)
set_option maxRecDepth 100000
set_option maxHeartbeats 4000000
@[go_sem] def e51:EC:=.seq (.reg [(Qx 2 25 2 0),(Qa 4 (.mv (.c .ff)))]) (.seq (.reg [(Qm 5 1),(Qa 6 (.bin .geq (.t 5) (.c (.iv 0)))),(Qm 7 6),(Qg 8 7 true (.mv (.t 1))),(Qh 9 7 true 0 2),(Qn 10 7 true 9),(Qg 11 7 true (.len (.t 10))),(Qg 12 7 true (.bin .lss (.t 8) (.t 11))),(Qp 13 7 12),(Qm 4 13)]) (.ret))
theorem ok51:FnOK Tryz.prog 51 Tryz.f51 e51 [.t 4] 2 12:=⟨by kernel_rfl,⟨_,rfl,by kernel_rfl⟩,by kernel_rfl,by kernel_rfl⟩
noncomputable def Zsp:Bool→Option Bool
| x3=>
 some x3
noncomputable def Ztp (x1:Bar) (x2:Int):Option Bool:=
 ifb (decide (0≤x2)) (
 Zsp (decide (x2<(ln Drinker.row x1.Drinkers)))) (
 Zsp false)
theorem Zup (x1:Bar) (x2:Int) (r:Bool) (h:Ztp x1 x2=some r):Zp2 Tryz.prog 51 [.agg (Bar.row x1),.iv x2] (.bv r):=by
 refine Zt2 ok51 rfl rfl fun w0 H0=>?_
 rw [Ztp] at h
 refine Zk2 10 ?_;dsimp only [go_sem];refine An ?_;refine Ze4 (fun (x3:Bool)=>(⟨(an 4 (.bv x3::an 9 [])),[],[]⟩:St)) Zsp r ?_ fun J1=>?_
 ·intro x3 h;rw [Zsp] at h;(try dsimp only);exact Zo4 (res:=fun (r:Bool)=>.bv r) ok51 h
 ·refine Zn4 7 h rfl (fun _ h=>?_) fun _ h=>?_
  ·dsimp only [go_sem];refine Zk2 8 ?_;dsimp only [go_sem];refine An ?_;exact Zq4 J1 (s:=decide (x2<(ln Drinker.row x1.Drinkers))) h
  ·dsimp only [go_sem];refine Zk2 8 ?_;dsimp only [go_sem];refine An ?_;exact Zq4 J1 (s:=false) h
end NX
end Go.Proofs.YtacfbmldajmjiaaGreat
