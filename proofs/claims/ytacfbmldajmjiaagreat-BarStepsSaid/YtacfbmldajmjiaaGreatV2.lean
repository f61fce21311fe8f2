/-
  The function narthex/place.Graph: its code compiled, a model, and that the code answers as the model. Written by a program of ours (lb.py). No statement of the seat is proved here.
-/
import Derived.KernelRfl
import Derived.Shelf.Sort.Plain
import Derived.Shelf.Slices.In.SortNone
import Derived.Sort.OwnSortedInts
import Derived.Shelf.Slices.CompactI
import Derived.Lib.RowBridge
import Derived.Test.YtacfbmldajmjiaaGreatV1
namespace Go.Proofs.YtacfbmldajmjiaaGreat
namespace NX
open Go
set_option maxRecDepth 100000
set_option maxHeartbeats 4000000
@[go_sem] def e106_L1:EC:=.seq (.reg [(Qa 34 (.bin .lss (.t 33) (.t 32)))]) (.seq (.ite (.t 34) (.skip) (.exit 2)) (.seq (.blk 3 (.seq (.reg [(Qm 35 33),(Qk 36 8 31 33),(Qe 37 8 36),(Qa 8 (.alloc 66 [.iv 0,.iv 0,.iv 0,.ff,.ff,.ff,.ff,.ff])),(Qm 7 35),(Qs 8 8 37)]) (.seq (.seq (.drw [(Qf 38 0 8),(Ql 39 38),(Qa 40 (.bin .lss (.t 39) (.c (.iv 0)))),(Qm 41 40),(Qh 42 41 false 0 8),(Qn 43 41 false 42),(Qg 44 41 false (.mv (.t 0))),(Qg 45 41 false (.len (.t 44))),(Qg 46 41 false (.bin .geq (.t 43) (.t 45))),(Qq 47 41 46),(Qm 48 47),(Qh 49 48 false 0 8),(Qn 50 48 false 49),(Qg 51 48 false (.mv (.t 5))),(Qg 52 48 false (.bin .eql (.t 50) (.t 51))),(Qq 53 48 52),(Qm 54 53),(Qg 55 54 false (.mv (.t 7))),(Qg 56 54 false (.bin .gtr (.t 55) (.c (.iv 0)))),(Qg 57 54 false (.mv (.t 56))),(Qh 58 57 true 2 6),(Qn 59 57 true 58),(Qg 60 57 true (.mv (.t 7))),(Qg 61 57 true (.bin .sub (.t 60) (.c (.iv 1)))),(Qg 62 57 true (.idx 8 (.t 59) (.t 61))),(Qh 63 57 true 0 62),(Qn 64 57 true 63),(Qh 65 57 true 0 8),(Qn 66 57 true 65),(Qg 67 57 true (.bin .geq (.t 64) (.t 66))),(Qg 68 54 false (.pick (.t 57) (.t 67) (.c .ff))),(Qq 69 54 68)] [[],[0],[1],[2],[3],[4,3],[3],[6,3],[5,7,3],[3,8],[9,3],[10],[11,10],[10],[12,13,10],[10,14],[15,10],[16],[17,16],[18,16,16],[19],[20,19],[19],[22,19],[21,23,19],[24,19],[25,19],[19],[27,19],[26,28,19],[19,29,16],[16,30]] [[1],[0,2],[1,3],[2,4,5,6,7,8,9],[3,5],[3,4,8],[3,7],[3,6,8],[3,5,7,9],[3,8,10],[9,11,12,13,14,15],[10,12],[10,11,14],[10,14],[10,12,13,15],[10,14,16],[15,17,18,19,30,31],[16,18],[16,17,19],[16,18,20,21,22,23,24,25,26,27,28,29,30],[19,21],[19,20,24],[19,23],[19,22,24],[19,21,23,25],[19,24,26],[19,25,29],[19,28],[19,27,29],[19,26,28,30],[16,19,29,31],[16,30]]) (.ite (.t 69) (.seq (.reg [(Qa 70 (.build [.iv 0,.nl] [])),(Qs 2 2 70),(Qa 3 (.mv (.c .ff)))]) (.ret)) (.skip))) (.seq (.seq (.reg [(Qm 72 0),(Qf 73 0 8),(Ql 74 73),(Qk 75 3 72 74),(Qe 76 3 75),(Qm 77 5),(Qa 78 (.call 65 [(.t 76),(.t 77)])),(Qm 71 78),(Qa 79 (.ext (.t 71) 0)),(Qa 80 (.ext (.t 71) 1)),(Qa 9 (.alloc 66 [.iv 0,.iv 0,.iv 0,.ff,.ff,.ff,.ff,.ff])),(Qs 8 9 79),(Qm 10 80)]) (.seq (.reg [(Qm 81 10),(Qa 82 (.not (.t 81)))]) (.ite (.t 82) (.seq (.reg [(Qa 83 (.build [.iv 0,.nl] [])),(Qs 2 2 83),(Qa 3 (.mv (.c .ff)))]) (.ret)) (.skip)))) (.seq (.reg [(Qm 84 5),(Qf 85 0 8),(Ql 86 85),(Qa 87 (.bin .lss (.t 84) (.t 86)))]) (.ite (.t 87) (.reg [(Qf 88 1 4),(Ql 89 88),(Qm 90 5),(Qf 91 0 8),(Ql 92 91),(Qa 93 (.build [.iv 0,.iv 0] [(0,1,(.t 90)),(1,1,(.t 92))])),(Qa 94 (.bsl 30 2 1 [.iv 0,.iv 0] [(0,(.t 93))])),(Qa 95 (.app 30 2 16 (.t 89) (.t 94))),(Qf 96 1 4),(Qs 1 96 95)]) (.skip))))))) (.reg [(Qv 97 33 1),(Qm 33 97)])))
@[go_sem] def e106_L0:EC:=.seq (.reg [(Qa 21 (.bin .lss (.t 20) (.t 19)))]) (.seq (.ite (.t 21) (.skip) (.exit 0)) (.seq (.blk 1 (.seq (.reg [(Qm 22 20),(Qk 23 3 18 20),(Qe 24 3 23),(Qa 6 (.alloc 61 [.iv 0,.iv 0,.nl])),(Qm 5 22),(Qs 3 6 24)]) (.seq (.seq (.reg [(Qf 25 0 6),(Ql 26 25),(Qm 27 5),(Qa 28 (.bin .neq (.t 26) (.t 27)))]) (.ite (.t 28) (.seq (.reg [(Qa 29 (.build [.iv 0,.nl] [])),(Qs 2 2 29),(Qa 3 (.mv (.c .ff)))]) (.ret)) (.skip))) (.seq (.reg [(Qf 30 2 6),(Ql 31 30),(Qa 32 (.len (.t 31))),(Qi 33 0)]) (.blk 2 (.loop e106_L1)))))) (.reg [(Qv 98 20 1),(Qm 20 98)])))
@[go_sem] def e106:EC:=.seq (.reg [(Qa 2 (.alloc 53 [.iv 0,.nl])),(Qa 3 (.mv (.c .ff)))]) (.seq (.seq (.reg [(Qm 11 0),(Qa 12 (.len (.t 11))),(Qa 13 (.bin .gtr (.t 12) (.c (.iv 64))))]) (.ite (.t 13) (.seq (.reg [(Qa 14 (.build [.iv 0,.nl] [])),(Qs 2 2 14),(Qa 3 (.mv (.c .ff)))]) (.ret)) (.skip))) (.seq (.reg [(Qm 15 0),(Qa 16 (.len (.t 15))),(Qa 17 (.build [.iv 0,.nl] [(0,1,(.t 16))])),(Qa 4 (.alloc 53 [.iv 0,.nl])),(Qs 2 4 17)]) (.seq (.seq (.reg [(Qm 18 0),(Qa 19 (.len (.t 18))),(Qi 20 0)]) (.blk 0 (.loop e106_L0))) (.seq (.seq (.reg [(Qe 99 2 4),(Qa 100 (.call 144 [(.t 99)])),(Qa 101 (.bin .neq (.t 100) (.c (.iv 0))))]) (.ite (.t 101) (.seq (.reg [(Qa 102 (.build [.iv 0,.nl] [])),(Qs 2 2 102),(Qa 3 (.mv (.c .ff)))]) (.ret)) (.skip))) (.seq (.reg [(Qe 103 2 4),(Qs 2 2 103),(Qa 3 (.mv (.c .tt)))]) (.ret))))))
theorem ok106:FnOK Tryz.prog 106 Tryz.f106 e106 [.c 2 (some 2),.t 3] 1 103:=⟨by kernel_rfl,⟨_,rfl,by kernel_rfl⟩,by kernel_rfl,by kernel_rfl⟩
noncomputable def Zl8 (x1:(List Diner)):(List Edge)→Option (Graph×Bool)
| x78=>
 (Z67 ((Graph.mk (ln Diner.row x1) x78))).bind fun x79=>
 ifb (!decide (x79=0)) (
 some ((Graph.mk 0 (([]:(List Edge)))),false)) (
 some ((Graph.mk (ln Diner.row x1) x78),true))
noncomputable def Zm8 (x35:Int):(List Edge)→Option ((Int×(List Edge)) ⊕ (Graph×Bool))
| x69=>
 some (.inl (wr (x35+1),x69))
noncomputable def Zn8 (x47:Int):(List Edge)→Option ((Int×(List Edge)) ⊕ ((Int×(List Edge)) ⊕ (Graph×Bool)))
| x55=>
 some (.inl (wr (x47+1),x55))
noncomputable def Zo8 (x1:(List Diner)) (x35:Int) (x47:Int) (x48:(List Edge)) (x49:Side):Bool→Option ((Int×(List Edge)) ⊕ ((Int×(List Edge)) ⊕ (Graph×Bool)))
| x51=>
 ifb x51 (
 Option.map Sum.inr (Option.map Sum.inr (some ((Graph.mk 0 (([]:(List Edge)))),false)))) (
 (at_ x1 x49.Peer).bind fun x52=>
 (Zt7 x52 x35).bind fun x53=>
 ifb (!x53.2) (
 Option.map Sum.inr (Option.map Sum.inr (some ((Graph.mk 0 (([]:(List Edge)))),false)))) (
 ifb (decide (x35<x49.Peer)) (
 (Z84 16 x48 ([(Edge.mk x35 x49.Peer)])).bind fun x54=>
 (Zn8 x47) x54) (
 (Zn8 x47) x48)))
noncomputable def Zp8 (x1:(List Diner)) (x35:Int) (x37:Diner):(Int×(List Edge))→Option ((Int×(List Edge)) ⊕ ((Int×(List Edge)) ⊕ (Graph×Bool)))
| (x47,x48)=>
 ifb (decide (x47<(ln Side.row x37.Sides))) (
 (at_ x37.Sides x47).bind fun x49=>
 ifb (decide (x49.Peer<0)) (
 (Zo8 x1 x35 x47 x48 x49) true) (
 ifb (decide ((ln Diner.row x1)≤x49.Peer)) (
 (Zo8 x1 x35 x47 x48 x49) true) (
 ifb (decide (x49.Peer=x35)) (
 (Zo8 x1 x35 x47 x48 x49) true) (
 ifb (decide (0<x47)) (
 (at_ x37.Sides (wr (x47-1))).bind fun x50=>
 (Zo8 x1 x35 x47 x48 x49) (decide (x49.Peer≤x50.Peer))) (
 (Zo8 x1 x35 x47 x48 x49) false))))) (
 Option.map Sum.inr ((Zm8 x35) x48))
noncomputable def Zq8 (x1:(List Diner)):(Int×(List Edge))→Option ((Int×(List Edge)) ⊕ (Graph×Bool))
| (x35,x36)=>
 ifb (decide (x35<(ln Diner.row x1))) (
 (at_ x1 x35).bind fun x37=>
 ifb (!decide (x37.ID=x35)) (
 Option.map Sum.inr (some ((Graph.mk 0 (([]:(List Edge)))),false))) (
 loop (Zp8 x1 x35 x37) (0,x36))) (
 Option.map Sum.inr ((Zl8 x1) x36))
noncomputable def Zr8 (x1:(List Diner)):Option (Graph×Bool):=
 ifb (decide (64<(ln Diner.row x1))) (
 some ((Graph.mk 0 (([]:(List Edge)))),false)) (
 loop (Zq8 x1) (0,([]:List Edge)))
theorem k_place_Graph (x1:(List Diner)) (r:(Graph×Bool)) (h:Zr8 x1=some r):Zp2 Tryz.prog 106 [.sl 3 (List.map Diner.row x1)] (.tup [.agg (Graph.row r.1),.bv r.2]):=by
 refine Zt2 ok106 rfl rfl fun w0 H0=>?_
 rw [Zr8] at h
 refine Zk2 12 ?_;dsimp only [go_sem];refine An ?_;refine Zg4 h rfl (fun _ h=>?_) fun _ h=>?_
 ·refine Zk2 6 ?_;dsimp only [go_sem];refine An ?_;exact Zo4 (res:=fun (r:(Graph×Bool))=>.tup [.agg (Graph.row r.1),.bv r.2]) ok106 h
 ·refine Zk2 16 ?_;dsimp only [go_sem];refine An ?_;refine Ze4 (fun (x78:(List Edge))=>(⟨(.any :: .any :: .ptr 0 0 :: .any :: .ptr 1 0::an 99 []),[some ⟨53,[.iv 0,.nl]⟩,some ⟨53,[.iv (ln Diner.row x1),.osl 0]⟩],[some ⟨30,2,List.map Edge.row x78⟩]⟩:St)) (Zl8 x1) r ?_ fun J1=>?_
  ·intro x78 h;rw [Zl8] at h;(try dsimp only);refine Zk2 4 ?_;dsimp only [go_sem];refine An ?_;obtain ⟨x79,ex79,h⟩:=Bs h;refine Zs4 trivial ((Zr4.refl _).slice 0 rfl) (Z77 ((Graph.mk (ln Diner.row x1) x78)) _ ex79) (h:=?_);refine Zk2 2 ?_;dsimp only [go_sem];refine An ?_;refine Zg4 h rfl (fun _ h=>?_) fun _ h=>?_
   ·refine Zk2 6 ?_;dsimp only [go_sem];refine An ?_;exact Zo4 (res:=fun (r:(Graph×Bool))=>.tup [.agg (Graph.row r.1),.bv r.2]) ok106 h
   ·refine Zk2 7 ?_;dsimp only [go_sem];refine An ?_;refine Z73 0 rfl ?_;dsimp only [go_sem];exact Zo4 (res:=fun (r:(Graph×Bool))=>.tup [.agg (Graph.row r.1),.bv r.2]) ok106 h
  ·refine Zk2 1 ?_;dsimp only [go_sem];refine An ?_;refine Z24 1 1 30 2 rfl rfl rfl ?_;dsimp only [go_sem];refine Zf4 h (fun ((x35,x36):(Int×(List Edge)))=>(⟨(.sl 3 (List.map Diner.row x1) :: .any :: .ptr 0 0 :: .any :: .ptr 1 0::an 13 (.sl 3 (List.map Diner.row x1) :: .iv (ln Diner.row x1) :: .iv x35::an 83 [])),[some ⟨53,[.iv 0,.nl]⟩,some ⟨53,[.iv (ln Diner.row x1),.osl 0]⟩],[some ⟨30,2,List.map Edge.row x36⟩]⟩:St)) (by simp [go_sem]) (by rintro ⟨x35,x36⟩;first | rfl | simp [go_sem]) ?_;rintro n1 ⟨x35,x36⟩ y1 h hin1 hout1;rw [Zq8] at h
   (try dsimp only);refine Zk2 5 ?_;dsimp only [go_sem];refine An ?_;refine Zg4 h rfl (fun _ h=>?_) fun _ h=>?_
   ·refine Zk2 6 ?_;dsimp only [go_sem];refine An ?_;obtain ⟨x37,ex37,h⟩:=Bs h;refine Zj4 Diner.row ex37 trivial rfl rfl rfl ?_;refine Zk2 13 ?_;dsimp only [go_sem];refine An ?_;refine Zg4 h rfl (fun _ h=>?_) fun _ h=>?_
    ·refine Zk2 6 ?_;dsimp only [go_sem];refine An ?_;exact Zo4 (res:=fun (r:(Graph×Bool))=>.tup [.agg (Graph.row r.1),.bv r.2]) ok106 (Zd4 h hout1)
    ·refine Zk2 8 ?_;dsimp only [go_sem];refine An ?_;refine Ze4 (fun (x69:(List Edge))=>(⟨(.sl 3 (List.map Diner.row x1) :: .any :: .ptr 0 0 :: .any :: .ptr 1 0::an 13 (.sl 3 (List.map Diner.row x1) :: .iv (ln Diner.row x1) :: .iv x35::an 83 [])),[some ⟨53,[.iv 0,.nl]⟩,some ⟨53,[.iv (ln Diner.row x1),.osl 0]⟩],[some ⟨30,2,List.map Edge.row x69⟩]⟩:St)) (Zm8 x35) y1 ?_ fun J2=>?_
     ·intro x69 h;rw [Zm8] at h;(try dsimp only);refine Zk2 5 ?_;dsimp only [go_sem];refine An ?_;exact Zp4 h hin1
     ·refine Zk2 1 ?_;dsimp only [go_sem];refine An ?_
      refine Zf4 h (fun ((x47,x48):(Int×(List Edge)))=>(⟨(.sl 3 (List.map Diner.row x1) :: .any :: .ptr 0 0 :: .any :: .ptr 1 0 :: .iv x35 :: .ptr 2 0::an 11 (.sl 3 (List.map Diner.row x1) :: .iv (ln Diner.row x1) :: .iv x35::an 10 (.sl 8 (List.map Side.row x37.Sides) :: .iv (ln Side.row x37.Sides) :: .iv x47::an 70 []))),[some ⟨53,[.iv 0,.nl]⟩,some ⟨53,[.iv (ln Diner.row x1),.osl 0]⟩,some ⟨61,[.iv x37.ID,.iv x37.Phase,.sl 8 (List.map Side.row x37.Sides)]⟩],[some ⟨30,2,List.map Edge.row x48⟩]⟩:St)) (by simp [go_sem]) (by rintro ⟨x47,x48⟩;first | rfl | simp [go_sem]) ?_
      rintro n2 ⟨x47,x48⟩ y2 h hin2 hout2;rw [Zp8] at h;(try dsimp only);refine Zk2 5 ?_;dsimp only [go_sem];refine An ?_;refine Zg4 h rfl (fun _ h=>?_) fun _ h=>?_
      ·refine Zk2 6 ?_;dsimp only [go_sem];refine An ?_;obtain ⟨x49,ex49,h⟩:=Bs h;refine Zj4 Side.row ex49 trivial rfl rfl rfl ?_;refine Zk2 7 ?_;dsimp only [go_sem];refine An ?_
       refine Ze4 (fun (x51:Bool)=>(⟨(.sl 3 (List.map Diner.row x1) :: .any :: .ptr 0 0 :: .any :: .ptr 1 0 :: .iv x35 :: .ptr 2 0 :: .any :: .ptr 3 0::an 9 (.sl 3 (List.map Diner.row x1) :: .iv (ln Diner.row x1) :: .iv x35::an 10 (.sl 8 (List.map Side.row x37.Sides) :: .iv (ln Side.row x37.Sides) :: .iv x47::an 35 (.bv x51::an 34 [])))),[some ⟨53,[.iv 0,.nl]⟩,some ⟨53,[.iv (ln Diner.row x1),.osl 0]⟩,some ⟨61,[.iv x37.ID,.iv x37.Phase,.sl 8 (List.map Side.row x37.Sides)]⟩,some ⟨66,[.iv x49.Peer,.iv x49.Epoch,.iv x49.State,.bv x49.Fork,.bv x49.Dirty,.bv x49.Token,.bv x49.Bottle,.bv x49.Ask]⟩],[some ⟨30,2,List.map Edge.row x48⟩]⟩:St)) (Zo8 x1 x35 x47 x48 x49) y2 ?_ fun J3=>?_
       ·intro x51 h;rw [Zo8] at h;(try dsimp only);refine Zg4 h rfl (fun _ h=>?_) fun _ h=>?_
        ·refine Zk2 6 ?_;dsimp only [go_sem];refine An ?_;exact Zo4 (res:=fun (r:(Graph×Bool))=>.tup [.agg (Graph.row r.1),.bv r.2]) ok106 (Zd4 (Zd4 h hout2) hout1)
        ·refine Zk2 7 ?_;dsimp only [go_sem];refine An ?_;obtain ⟨x52,ex52,h⟩:=Bs h;refine Zj4 Diner.row ex52 trivial rfl rfl rfl ?_;refine Zk2 2 ?_;dsimp only [go_sem];refine An ?_;obtain ⟨x53,ex53,h⟩:=Bs h;refine Zy2 trivial (Zu7 x52 x35 _ ex53) (h:=?_);refine Zk2 12 ?_;dsimp only [go_sem];refine An ?_;refine Zg4 h rfl (fun _ h=>?_) fun _ h=>?_
         ·refine Zk2 6 ?_;dsimp only [go_sem];refine An ?_;exact Zo4 (res:=fun (r:(Graph×Bool))=>.tup [.agg (Graph.row r.1),.bv r.2]) ok106 (Zd4 (Zd4 h hout2) hout1)
         ·refine Zk2 8 ?_;dsimp only [go_sem];refine An ?_
          refine Ze4 (fun (x55:(List Edge))=>(⟨(.sl 3 (List.map Diner.row x1) :: .any :: .ptr 0 0 :: .any :: .ptr 1 0 :: .iv x35 :: .ptr 2 0::an 11 (.sl 3 (List.map Diner.row x1) :: .iv (ln Diner.row x1) :: .iv x35::an 10 (.sl 8 (List.map Side.row x37.Sides) :: .iv (ln Side.row x37.Sides) :: .iv x47::an 70 []))),[some ⟨53,[.iv 0,.nl]⟩,some ⟨53,[.iv (ln Diner.row x1),.osl 0]⟩,some ⟨61,[.iv x37.ID,.iv x37.Phase,.sl 8 (List.map Side.row x37.Sides)]⟩],[some ⟨30,2,List.map Edge.row x55⟩]⟩:St)) (Zn8 x47) y2 ?_ fun J4=>?_
          ·intro x55 h;rw [Zn8] at h;(try dsimp only);refine Zk2 5 ?_;dsimp only [go_sem];refine An ?_;exact Zp4 h hin2
          ·refine Zg4 h rfl (fun _ h=>?_) fun _ h=>?_
           ·refine Zk2 8 ?_;dsimp only [go_sem];refine An ?_;obtain ⟨x54,ex54,h⟩:=Bs h;refine Zl4 Edge.row ex54 trivial rfl rfl rfl ?_;refine Zk2 3 ?_;dsimp only [go_sem];refine An ?_;refine Z14 2 0 rfl rfl rfl ?_;dsimp only [go_sem];exact Zq4 J4 (s:=x54) h
           ·refine Zk2 1 ?_;dsimp only [go_sem];refine An ?_;exact Zq4 J4 (s:=x48) h
       ·refine Zf3 (by kernel_rfl) fun all hall hs hnap haf=>?_;dsimp only [go_sem];refine Z65 hall hs haf hnap 4 28 [4,28] [(38,[.ptr 3 0,.iv x49.Peer,.bv (decide (x49.Peer<0)),.bv (decide (x49.Peer<0))])] (by kernel_rfl) ?_;dsimp only [go_sem];refine Zx4 41 h rfl (fun _ h=>?_) fun _ h=>?_
        ·dsimp only [go_sem];refine Z65 hall hs haf hnap 28 0 [32] [(42,[.un,.un,.un,.un,.un,.tt,.tt,.un,.un,.un,.un,.tt,.tt,.un,.un,.un,.un,.un,.un,.un,.un,.un,.un,.un,.un,.un,.un,.tt])] (by kernel_rfl) ?_;dsimp only [go_sem];refine Zp3 rfl ?_ _;exact Zq4 J3 (s:=true) h
        ·dsimp only [go_sem];refine Z65 hall hs haf hnap 7 21 [11,21] [(42,[.ptr 3 0,.iv x49.Peer,.sl 3 (List.map Diner.row x1),.iv (ln Diner.row x1),.bv (decide ((ln Diner.row x1)≤x49.Peer)),.bv (decide ((ln Diner.row x1)≤x49.Peer)),.bv (decide ((ln Diner.row x1)≤x49.Peer))])] (by kernel_rfl) ?_;dsimp only [go_sem];refine Zx4 48 h rfl (fun _ h=>?_) fun _ h=>?_
         ·dsimp only [go_sem];refine Z65 hall hs haf hnap 21 0 [32] [(49,[.un,.un,.un,.un,.tt,.tt,.un,.un,.un,.un,.un,.un,.un,.un,.un,.un,.un,.un,.un,.un,.tt])] (by kernel_rfl) ?_;dsimp only [go_sem];refine Zp3 rfl ?_ _;exact Zq4 J3 (s:=true) h
         ·dsimp only [go_sem];refine Z65 hall hs haf hnap 6 15 [17,15] [(49,[.ptr 3 0,.iv x49.Peer,.iv x35,.bv (decide (x49.Peer=x35)),.bv (decide (x49.Peer=x35)),.bv (decide (x49.Peer=x35))])] (by kernel_rfl) ?_;dsimp only [go_sem];refine Zx4 54 h rfl (fun _ h=>?_) fun _ h=>?_
          ·dsimp only [go_sem];refine Z65 hall hs haf hnap 15 0 [32] [(55,[.un,.un,.un,.un,.un,.un,.un,.un,.un,.un,.un,.un,.un,.un,.tt])] (by kernel_rfl) ?_;dsimp only [go_sem];refine Zp3 rfl ?_ _;exact Zq4 J3 (s:=true) h
          ·dsimp only [go_sem];refine Z65 hall hs haf hnap 3 12 [20,12] [(55,[.iv x47,.bv (decide (0<x47)),.bv (decide (0<x47))])] (by kernel_rfl) ?_;dsimp only [go_sem];refine Zx4 57 h rfl (fun _ h=>?_) fun _ h=>?_
           ·dsimp only [go_sem];refine Z65 hall hs haf hnap 6 6 [24,3,2,3] [(58,[.ptr 2 2,.sl 8 (List.map Side.row x37.Sides),.iv x47,.iv (wr (x47-1))]),(3,[.ptr 3 0,.iv x49.Peer])] (by kernel_rfl) ?_;dsimp only [go_sem];obtain ⟨x50,ex50,h⟩:=Bs h;refine Zk4 hall hs haf hnap 24 Side.row ex50 rfl rfl trivial rfl rfl rfl rfl ?_
            refine Z65 hall hs haf hnap 5 0 [32] [(63,[.elt [.iv x50.Peer,.iv x50.Epoch,.iv x50.State,.bv x50.Fork,.bv x50.Dirty,.bv x50.Token,.bv x50.Bottle,.bv x50.Ask] 0,.iv x50.Peer]),(2,[.bv (decide (x49.Peer≤x50.Peer)),.bv (decide (x49.Peer≤x50.Peer)),.bv (decide (x49.Peer≤x50.Peer))])] (by kernel_rfl) ?_;dsimp only [go_sem];refine Zp3 rfl ?_ _;exact Zq4 J3 (s:=decide (x49.Peer≤x50.Peer)) h
           ·dsimp only [go_sem];refine Z65 hall hs haf hnap 12 0 [32] [(58,[.un,.un,.un,.un,.un,.un,.un,.un,.un,.un,.ff,.ff])] (by kernel_rfl) ?_;dsimp only [go_sem];refine Zp3 rfl ?_ _;exact Zq4 J3 (s:=false) h
      ·refine Zk2 1 ?_;dsimp only [go_sem];refine An ?_;exact Zq4 J2 (s:=x48) (Zd4 h hout2)
   ·refine Zk2 1 ?_;dsimp only [go_sem];refine An ?_;exact Zq4 J1 (s:=x36) (Zd4 h hout1)
def Zs8 (l:List Diner) (i:Nat) (x:Side):Bool:=
 decide (0≤x.Peer)&&(decide (x.Peer<l.length)&&(!decide (x.Peer=i)&&(match l[x.Peer.toNat]? with | some e=>(Zi8 e i).isSome | none=>false)))
def Zt8 (pre:List Side):Option Int:=pre.getLast?.map (·.Peer)
def Zu8 (p:Option Int) (x:Side):Bool:=match p with | none=>true | some q=>decide (q<x.Peer)
def Zv8 (l:List Diner) (i:Nat):Option Int→List Side→Bool
 | _,[]=>true
 | p,x::r=>Zu8 p x&&(Zs8 l i x&&Zv8 l i (some x.Peer) r)
def Zw8 (i:Nat) (xs:List Side):List Edge:=(xs.filter fun x=>decide ((i:Int)<x.Peer)).map fun x=>⟨i,x.Peer⟩
def Zx8 (l:List Diner):Nat→List Diner→Bool
 | _,[]=>true
 | i,d::r=>decide (d.ID=i)&&(Zv8 l i none d.Sides&&Zx8 l (i+1) r)
def Zy8:Nat→List Diner→List Edge
 | _,[]=>[]
 | i,d::r=>Zw8 i d.Sides++Zy8 (i+1) r
def Zz8:Graph:=⟨0,[]⟩
def Z09 (l:List Diner):Graph×Bool:=if Zx8 l 0 l&&okG ⟨l.length,Zy8 0 l⟩ then (⟨l.length,Zy8 0 l⟩,true) else (Zz8,false)
theorem Z19 (pre:List Side) (x:Side):Zt8 (pre++[x])=some x.Peer:=by simp [Zt8]
theorem Z29 (i:Nat) (pre:List Side) (x:Side):Zw8 i (pre++[x])=if decide ((i:Int)<x.Peer) then Zw8 i pre++[⟨i,x.Peer⟩] else Zw8 i pre:=by
 unfold Zw8
 by_cases h:(i:Int)<x.Peer<;>simp [h]
theorem Z39 (i:Nat) (xs:List Side):(Zw8 i xs).length≤xs.length:=by simp [Zw8,List.length_filter_le]
theorem Z49:∀(a b:List Diner) (i:Nat),Zy8 i (a++b)=Zy8 i a++Zy8 (i+a.length) b
 | [],b,i=>by simp [Zy8]
 | d::a,b,i=>by simp [Zy8,Z49 a b (i+1),Nat.add_comm,Nat.add_left_comm]
theorem Z59:∀(l:List Diner) (i:Nat),(∀d∈l,d.Sides.length≤5000)→(Zy8 i l).length≤l.length*5000
 | [],_,_=>by simp [Zy8]
 | d::l,i,h=>by
   have h1:=Z59 l (i+1) fun e he=>h e (by simp [he])
   have h2:=h d (by simp)
   have h3:=Z39 i d.Sides
   simp only [Zy8,List.length_append,List.length_cons]
   omega
theorem prev_step {γ:Type} {l pre post:List Side} {x:Side} (h:l=pre++x::post) (hl:l.length≤5000) (A:Bool→Option γ):
  ifb (decide (0<(pre.length:Int))) ((at_ l (wr ((pre.length:Int)-1))).bind fun y=>A (decide (x.Peer≤y.Peer))) (A false)=A (!Zu8 (Zt8 pre) x):=by
 rcases List.eq_nil_or_concat pre with rfl | ⟨q,y,rfl⟩
 ·simp [Zt8,Zu8]
 ·rw [List.concat_eq_append] at h ⊢
  have hy:l[q.length]?=some y:=by subst h;simp
  have hm:=Z88 h
  have e:decide (0<(((q++[y]).length:Nat):Int))=true:=decide_eq_true (by simp only [Zc8];omega)
  rw [e,Z06,Zc8,wr_pred (by simp at hm;omega),Z46 hy,Option.bind_some,Z19,Zu8,←decide_not]
  congr 2
  simp
theorem inner_len {l:List Diner} {pre post:List Diner} {d:Diner} (hl:fewD l) (h:l=pre++d::post):(Zy8 0 pre).length≤25000000:=by
 have h1:=Z59 pre 0 fun e he=>hl.2 e (by subst h;simp [he])
 have h2:=Z88 h
 have:=hl.1
 omega
theorem s_Graph2 (l:List Diner) (hl:fewD l) (i:Nat) (d:Diner) (hd:d∈l) (hi:i≤5000) (E:List Edge) (hE:E.length≤25000000):
  loop (Zp8 l i d) (0,E)=some (if Zv8 l i none d.Sides then .inl (((i+1:Nat):Int),E++Zw8 i d.Sides) else .inr (Zz8,false)):=by
 have hdl:=hl.2 d hd
 have key:=(Z58 d.Sides (Zp8 l i d) (fun pre=>((pre.length:Int),E++Zw8 i pre)) (fun pre post=>some (if Zv8 l i (Zt8 pre) post then .inl (((i+1:Nat):Int),E++Zw8 i (pre++post)) else .inr (Zz8,false))) ?_ ?_)
 ·rw [show Zw8 i []=[] from rfl,List.append_nil] at key;exact key
 ·intro pre x post h
  have hx:=Z78 h
  have hm:=Z88 h
  dsimp only [Zp8]
  rw [Z66 hx,Z06,Z46 hx,Option.bind_some,prev_step h hdl (Zo8 l i pre.length (E++Zw8 i pre) x)]
  have bad:Zo8 l (i:Int) pre.length (E++Zw8 i pre) x true=some (.inr (.inr (Zz8,false))):=rfl
  by_cases h1:x.Peer<0
  ·right
   refine ⟨_,by rw [decide_eq_true h1,Z06,bad],?_⟩
   have:Zs8 l i x=false:=by simp [Zs8];omega
   simp [Zv8,this]
  by_cases h2:(l.length:Int)≤x.Peer
  ·right
   refine ⟨_,by rw [decide_eq_false h1,Z16,Zw4,decide_eq_true h2,Z06,bad],?_⟩
   have:Zs8 l i x=false:=by simp [Zs8];omega
   simp [Zv8,this]
  by_cases h3:x.Peer=i
  ·right
   refine ⟨_,by rw [decide_eq_false h1,Z16,Zw4,decide_eq_false h2,Z16,decide_eq_true h3,Z06,bad],?_⟩
   have:Zs8 l i x=false:=by simp [Zs8,h3]
   simp [Zv8,this]
  rw [decide_eq_false h1,Z16,Zw4,decide_eq_false h2,Z16,decide_eq_false h3,Z16]
  cases h4:Zu8 (Zt8 pre) x with
  | false=>
    right
    exact ⟨_,by rw [Bool.not_false,bad],by simp [Zv8,h4]⟩
  | true=>
    obtain ⟨e,he1,he2⟩:=at_lt (l:=l) (i:=x.Peer) (by omega) (by omega)
    have hes:=hl.2 e (List.mem_iff_getElem?.2 ⟨_,he2⟩)
    have hsb:Zs8 l i x=(Zi8 e i).isSome:=by
     rw [Zs8,decide_eq_true (show 0≤x.Peer by omega),decide_eq_true (show x.Peer<l.length by omega),decide_eq_false h3,he2];simp
    rw [Bool.not_true]
    dsimp only [Zo8]
    rw [Z16,he1,Option.bind_some,s_Side e i (by omega),Option.bind_some]
    cases ho:Zi8 e i with
    | none=>
      right
      exact ⟨(.inr (Zz8,false)),rfl,by rw [ho] at hsb;simp [Zv8,hsb]⟩
    | some y=>
      left
      rw [ho] at hsb
      refine ⟨?_,by simp [Zv8,hsb,h4,Z19]⟩
      simp only [sideP,Bool.not_true,Z16,Zn8]
      rw [Z29,Zc8,Z86 (by omega)]
      have:=Z39 i pre
      by_cases h5:(i:Int)<x.Peer
      ·rw [decide_eq_true h5,Z06,Z56 _ _ (by omega) (by simp;omega),Option.bind_some]
       simp
      ·rw [decide_eq_false h5,Z16];simp
 ·dsimp only [Zp8]
  rw [Z76,Z16,Zm8,Z86 (by omega)]
  simp [Zv8]
theorem s_Graph (l:List Diner) (hl:fewD l):Zr8 l=some (Z09 l):=by
 unfold Zr8
 by_cases h64:64<l.length
 ·have:okG ⟨l.length,Zy8 0 l⟩=false:=by simp [okG];omega
  rw [Zw4,decide_eq_true (by omega),Z06]
  simp [Z09,this,Zz8]
 rw [Zw4,decide_eq_false (by omega),Z16]
 refine (Z58 l (Zq8 l) (fun pre=>((pre.length:Int),Zy8 0 pre)) (fun pre post=>some (if Zx8 l pre.length post&&okG ⟨l.length,Zy8 0 (pre++post)⟩ then (⟨l.length,Zy8 0 (pre++post)⟩,true) else (Zz8,false))) ?_ ?_).trans rfl
 ·intro pre d post h
  have hx:=Z78 h
  have hm:=Z88 h
  have hd:=Z98 h
  dsimp only [Zq8]
  rw [Z66 hx,Z06,Z46 hx,Option.bind_some,Z26]
  by_cases h1:d.ID=pre.length
  ·rw [decide_eq_true h1,Z06,s_Graph2 l hl pre.length d hd (by omega) _ (inner_len hl h)]
   cases h2:Zv8 l pre.length none d.Sides with
   | true=>left;exact ⟨by rw [if_pos rfl,Zc8,Z49];simp [Zy8],by simp [Zx8,h1,h2]⟩
   | false=>right;exact ⟨_,rfl,by simp [Zx8,h2]⟩
  ·right
   exact ⟨_,by rw [decide_eq_false h1,Z16];rfl,by simp [Zx8,h1,Zz8]⟩
 ·dsimp only [Zq8]
  rw [Z76,Z16,Zl8,Zw4,Zk7,Option.bind_some]
  simp only [Zx8,List.append_nil,Bool.true_and]
  cases okG ⟨l.length,Zy8 0 l⟩<;>rfl
set_option maxRecDepth 100000
set_option maxHeartbeats 4000000
@[go_sem] def e142:EC:=.seq (.reg [(Qx 3 66 8 0),(Qa 4 (.mv (.c .ff)))]) (.seq (.reg [(Qf 6 0 3),(Ql 7 6),(Ql 8 1),(Qa 9 (.bin .gtr (.t 7) (.t 8))),(Qm 10 9),(Qh 11 10 true 0 3),(Qn 12 10 true 11),(Qh 13 10 true 0 2),(Qn 14 10 true 13),(Qg 15 10 true (.bin .neq (.t 12) (.t 14))),(Qp 16 10 15),(Qm 5 16)]) (.seq (.reg [(Qf 17 0 3),(Ql 18 17),(Qs 1 1 18)]) (.seq (.reg [(Qm 19 5),(Qa 20 (.not (.t 19))),(Qm 21 20),(Qh 22 21 false 1 3),(Qn 23 21 false 22),(Qg 24 21 false (.bin .lss (.t 23) (.c (.iv 0)))),(Qq 25 21 24),(Qm 26 25),(Qh 27 26 false 1 3),(Qn 28 26 false 27),(Qg 29 26 false (.bin .gtr (.t 28) (.c (.iv 65535)))),(Qq 30 26 29),(Qm 31 30),(Qh 32 31 false 2 3),(Qn 33 31 false 32),(Qg 34 31 false (.bin .lss (.t 33) (.c (.iv 0)))),(Qq 35 31 34),(Qm 36 35),(Qh 37 36 false 2 3),(Qn 38 36 false 37),(Qg 39 36 false (.bin .gtr (.t 38) (.c (.iv 3)))),(Qq 40 36 39),(Qm 41 40),(Qh 42 41 false 4 3),(Qn 43 41 false 42),(Qg 44 41 false (.mv (.t 43))),(Qh 45 44 true 3 3),(Qn 46 44 true 45),(Qg 47 44 true (.not (.t 46))),(Qg 48 41 false (.pick (.t 44) (.t 47) (.c .ff))),(Qq 49 41 48),(Qm 4 49)]) (.ret))))
theorem ok142:FnOK Tryz.prog 142 Tryz.f142 e142 [.t 4] 3 47:=⟨by kernel_rfl,⟨_,rfl,by kernel_rfl⟩,by kernel_rfl,by kernel_rfl⟩
set_option maxRecDepth 100000
set_option maxHeartbeats 4000000
@[go_sem] def e99:EC:=.seq (.reg [(Qa 4 (.mv (.c .ff)))]) (.seq (.reg [(Qm 5 0),(Qm 6 1),(Qa 7 (.call 116 [(.t 5),(.t 6)])),(Qa 8 (.bin .geq (.t 7) (.c (.iv 0)))),(Qm 4 8)]) (.ret))
theorem ok99:FnOK Tryz.prog 99 Tryz.f99 e99 [.t 4] 2 7:=⟨by kernel_rfl,⟨_,rfl,by kernel_rfl⟩,by kernel_rfl,by kernel_rfl⟩
noncomputable def Z69 (x1:(List Side)) (p1:(Side→Option Bool)):Option Bool:=
 (Zp6 x1 p1).bind fun x2=>
 some (decide (0≤x2))
theorem Z79 (x1:(List Side)) (g1:Nat) (caps1:List AV) (p1:(Side→Option Bool)) (hc1:CloOK Tryz.prog g1 caps1 (fun z=>[.agg (Side.row z)]) p1 (fun z=>.bv z)) (r:Bool) (h:Z69 x1 p1=some r):Zp2 Tryz.prog 99 [.sl 8 (List.map Side.row x1),.clo g1 caps1] (.bv r):=by
 refine Zt2 ok99 rfl rfl fun w0 H0=>?_
 rw [Z69] at h
 refine Zk2 8 ?_;dsimp only [go_sem];refine An ?_;obtain ⟨x2,ex2,h⟩:=Bs h;refine Zy2 trivial (Zq6 x1 _ _ p1 hc1 _ ex2) (hp:=(by first | rfl | simp [go_sem,hc1.pu])) (h:=?_);refine Zk2 3 ?_;dsimp only [go_sem];refine An ?_;exact Zo4 (res:=fun (r:Bool)=>.bv r) ok99 h
set_option maxRecDepth 100000
set_option maxHeartbeats 4000000
@[go_sem] def e101:EC:=.seq (.reg [(Qx 1 61 3 0),(Qi 2 0)]) (.seq (.reg [(Qa 3 (.alloc 3 [.iv 0])),(Qb (.store 1 (.t 3) (.c (.iv (-1)))))]) (.seq (.reg [(Qa 5 (.mkf 142 [(.t 3),(.t 1)])),(Qm 4 5)]) (.seq (.seq (.reg [(Qf 6 0 1),(Ql 7 6),(Qa 8 (.bin .lss (.t 7) (.c (.iv 0)))),(Qm 9 8),(Qh 10 9 false 1 1),(Qn 11 9 false 10),(Qg 12 9 false (.bin .lss (.t 11) (.c (.iv 0)))),(Qq 13 9 12),(Qm 14 13),(Qh 15 14 false 1 1),(Qn 16 14 false 15),(Qg 17 14 false (.bin .gtr (.t 16) (.c (.iv 2)))),(Qq 18 14 17),(Qm 19 18),(Qh 20 19 false 2 1),(Qn 21 19 false 20),(Qg 22 19 false (.len (.t 21))),(Qg 23 19 false (.bin .geq (.t 22) (.c (.iv 64)))),(Qq 24 19 23),(Qm 25 24),(Qh 26 25 false 2 1),(Qn 27 25 false 26),(Qg 28 25 false (.mv (.t 4))),(Qg 29 25 false (.call 99 [(.t 27),(.t 28)])),(Qq 30 25 29)]) (.ite (.t 30) (.seq (.reg [(Qi 2 130)]) (.ret)) (.skip))) (.seq (.reg [(Qi 2 0)]) (.ret)))))
theorem ok101:FnOK Tryz.prog 101 Tryz.f101 e101 [.t 2] 1 30:=⟨by kernel_rfl,⟨_,rfl,by kernel_rfl⟩,by kernel_rfl,by kernel_rfl⟩
noncomputable def Z89:Bool→Option Bool
| x5=>
 some x5
noncomputable def Z99 (x1:Side):Bool→Option Bool
| x4=>
 ifb (!x4) (
 Z89 true) (
 ifb (decide (x1.Epoch<0)) (
 Z89 true) (
 ifb (decide (65535<x1.Epoch)) (
 Z89 true) (
 ifb (decide (x1.State<0)) (
 Z89 true) (
 ifb (decide (3<x1.State)) (
 Z89 true) (
 ifb x1.Dirty (
 Z89 (!x1.Fork)) (
 Z89 false))))))
noncomputable def Za9 (x1:Side) (x2:Diner) (x3:Int):Option Bool:=
 ifb (decide (x3<x1.Peer)) (
 (Z99 x1) (!decide (x1.Peer=x2.ID))) (
 (Z99 x1) false)
theorem Zb9 (x1:Side) (x2:Diner) (x3:Int) (r:Bool) (h:Za9 x1 x2 x3=some r):FunT Tryz.prog 142 [.agg [.iv x1.Peer,.iv x1.Epoch,.iv x1.State,.bv x1.Fork,.bv x1.Dirty,.bv x1.Token,.bv x1.Bottle,.bv x1.Ask],.ptr 1 0,.ptr 0 0] [some ⟨61,[.iv x2.ID,.iv x2.Phase,.sl 8 (List.map Side.row x2.Sides)]⟩,some ⟨3,[.iv x3]⟩] [] (.bv r) [some ⟨61,[.iv x2.ID,.iv x2.Phase,.sl 8 (List.map Side.row x2.Sides)]⟩,some ⟨3,[.iv x1.Peer]⟩] []:=by
 refine Zj5 ok142 rfl rfl rfl (by first | rfl | simp [go_sem]) fun w0 M0=>?_
 rw [Za9] at h
 dsimp only [lun,List.cons_append,List.nil_append]
 refine Zk2 12 ?_;dsimp only [go_sem];refine An ?_;refine Ze4 (fun (x4:Bool)=>(⟨(.any :: .ptr 1 0 :: .any :: .ptr 2 0 :: .any :: .bv x4::an 44 []),[some ⟨61,[.iv x2.ID,.iv x2.Phase,.sl 8 (List.map Side.row x2.Sides)]⟩,some ⟨3,[.iv x3]⟩,some ⟨66,[.iv x1.Peer,.iv x1.Epoch,.iv x1.State,.bv x1.Fork,.bv x1.Dirty,.bv x1.Token,.bv x1.Bottle,.bv x1.Ask]⟩],[]⟩:St)) (Z99 x1) r ?_ fun J1=>?_
 ·intro x4 h;rw [Z99] at h;(try dsimp only);refine Zk2 11 ?_;dsimp only [go_sem];refine An ?_;refine Ze4 (fun (x5:Bool)=>(⟨(an 4 (.bv x5::an 45 [])),[some ⟨61,[.iv x2.ID,.iv x2.Phase,.sl 8 (List.map Side.row x2.Sides)]⟩,some ⟨3,[.iv x1.Peer]⟩],[]⟩:St)) Z89 r ?_ fun J2=>?_
  ·intro x5 h;rw [Z89] at h;(try dsimp only);obtain rfl:=Option.some.inj h;exact Zk5 ok142 rfl (by simp [go_sem])
  ·refine Zn4 21 h rfl (fun _ h=>?_) fun _ h=>?_
   ·dsimp only [go_sem];refine Zk2 30 ?_;dsimp only [go_sem];refine An ?_;exact Zq4 J2 (s:=true) h
   ·dsimp only [go_sem];refine Zk2 5 ?_;dsimp only [go_sem];refine An ?_;refine Zn4 26 h rfl (fun _ h=>?_) fun _ h=>?_
    ·dsimp only [go_sem];refine Zk2 25 ?_;dsimp only [go_sem];refine An ?_;exact Zq4 J2 (s:=true) h
    ·dsimp only [go_sem];refine Zk2 5 ?_;dsimp only [go_sem];refine An ?_;refine Zn4 31 h rfl (fun _ h=>?_) fun _ h=>?_
     ·dsimp only [go_sem];refine Zk2 20 ?_;dsimp only [go_sem];refine An ?_;exact Zq4 J2 (s:=true) h
     ·dsimp only [go_sem];refine Zk2 5 ?_;dsimp only [go_sem];refine An ?_;refine Zn4 36 h rfl (fun _ h=>?_) fun _ h=>?_
      ·dsimp only [go_sem];refine Zk2 15 ?_;dsimp only [go_sem];refine An ?_;exact Zq4 J2 (s:=true) h
      ·dsimp only [go_sem];refine Zk2 5 ?_;dsimp only [go_sem];refine An ?_;refine Zn4 41 h rfl (fun _ h=>?_) fun _ h=>?_
       ·dsimp only [go_sem];refine Zk2 10 ?_;dsimp only [go_sem];refine An ?_;exact Zq4 J2 (s:=true) h
       ·dsimp only [go_sem];refine Zk2 3 ?_;dsimp only [go_sem];refine An ?_;refine Zn4 44 h rfl (fun _ h=>?_) fun _ h=>?_
        ·dsimp only [go_sem];refine Zk2 7 ?_;dsimp only [go_sem];refine An ?_;exact Zq4 J2 (s:=!x1.Fork) h
        ·dsimp only [go_sem];refine Zk2 7 ?_;dsimp only [go_sem];refine An ?_;exact Zq4 J2 (s:=false) h
 ·refine Zn4 10 h rfl (fun _ h=>?_) fun _ h=>?_
  ·dsimp only [go_sem];refine Zk2 8 ?_;dsimp only [go_sem];refine An ?_;exact Zq4 J1 (s:=!decide (x1.Peer=x2.ID)) h
  ·dsimp only [go_sem];refine Zk2 8 ?_;dsimp only [go_sem];refine An ?_;exact Zq4 J1 (s:=false) h
noncomputable def Zc9:Int→Option (Int×Int)
| x19=>
 some ((-1),x19)
noncomputable def Zd9 (x1:(List Side)) (x2:Diner):(Int×Int)→Option ((Int×Int) ⊕ (Int×Int))
| (x8,x9)=>
 ifb (decide (x8<(ln Side.row x1))) (
 (at_ x1 x8).bind fun x10=>
 (Za9 x10 x2 x9).bind fun x11=>
 ifb x11 (
 Option.map Sum.inr (some (x8,x10.Peer))) (
 some (.inl (wr (x8+1),x10.Peer)))) (
 Option.map Sum.inr (Zc9 x9))
noncomputable def Ze9 (x1:(List Side)) (x2:Diner) (x3:Int):Option (Int×Int):=
 loop (Zd9 x1 x2) (0,x3)
theorem Zf9 (x1:(List Side)) (x2:Diner) (x3:Int) (r:(Int×Int)) (h:Ze9 x1 x2 x3=some r):FunT Tryz.prog 116 [.sl 8 (List.map Side.row x1),.clo 142 [.ptr 1 0,.ptr 0 0]] [some ⟨61,[.iv x2.ID,.iv x2.Phase,.sl 8 (List.map Side.row x2.Sides)]⟩,some ⟨3,[.iv x3]⟩] [] (.iv r.1) [some ⟨61,[.iv x2.ID,.iv x2.Phase,.sl 8 (List.map Side.row x2.Sides)]⟩,some ⟨3,[.iv r.2]⟩] []:=by
 refine Zj5 ok116 rfl rfl rfl (by first | rfl | simp [go_sem]) fun w0 M0=>?_
 rw [Ze9] at h
 dsimp only [lun,List.cons_append,List.nil_append]
 refine Zk2 11 ?_;dsimp only [go_sem];refine An ?_;refine Ze4 (fun (x19:Int)=>(⟨(an 19 []),[some ⟨61,[.iv x2.ID,.iv x2.Phase,.sl 8 (List.map Side.row x2.Sides)]⟩,some ⟨3,[.iv x19]⟩],[]⟩:St)) Zc9 r ?_ fun J1=>?_
 ·intro x19 h;rw [Zc9] at h;(try dsimp only);refine Zk2 4 ?_;dsimp only [go_sem];refine An ?_;obtain rfl:=Option.some.inj h;exact Zk5 ok116 rfl (by simp [go_sem])
 ·refine Zk2 1 ?_;dsimp only [go_sem];refine An ?_;refine Zf4 h (fun ((x8,x9):(Int×Int))=>(⟨(.sl 8 (List.map Side.row x1) :: .clo 142 [.ptr 1 0,.ptr 0 0]::an 5 (.iv (ln Side.row x1) :: .iv x8::an 10 [])),[some ⟨61,[.iv x2.ID,.iv x2.Phase,.sl 8 (List.map Side.row x2.Sides)]⟩,some ⟨3,[.iv x9]⟩],[]⟩:St)) (by simp [go_sem]) (by rintro ⟨x8,x9⟩;first | rfl | simp [go_sem]) ?_;rintro n1 ⟨x8,x9⟩ y1 h hin1 hout1;rw [Zd9] at h;(try dsimp only);refine Zk2 5 ?_;dsimp only [go_sem];refine An ?_
  refine Zg4 h rfl (fun _ h=>?_) fun _ h=>?_
  ·refine Zk2 13 ?_;dsimp only [go_sem];refine An ?_;obtain ⟨x10,ex10,h⟩:=Bs h;refine Zj4 Side.row ex10 trivial rfl rfl rfl ?_;refine Zk2 1 ?_;dsimp only [go_sem];refine An ?_;obtain ⟨x11,ex11,h⟩:=Bs h;refine Zn5 [true,true] [] trivial rfl (Zb9 x10 x2 x9 _ ex11) (by kernel_rfl) (h:=?_);dsimp only [go_sem];refine Zk2 1 ?_;dsimp only [go_sem];refine An ?_;refine Zg4 h rfl (fun _ h=>?_) fun _ h=>?_
   ·refine Zk2 5 ?_;dsimp only [go_sem];refine An ?_;obtain rfl:=Option.some.inj (Zd4 h hout1);exact Zk5 ok116 rfl (by simp [go_sem])
   ·refine Zk2 6 ?_;dsimp only [go_sem];refine An ?_;exact Zp4 h hin1
  ·refine Zk2 1 ?_;dsimp only [go_sem];refine An ?_;exact Zq4 J1 (s:=x9) (Zd4 h hout1)
noncomputable def Zg9 (x1:(List Side)) (x2:Diner) (x3:Int):Option (Bool×Int):=
 (Ze9 x1 x2 x3).bind fun x4=>
 some (decide (0≤x4.1),x4.2)
theorem Zh9 (x1:(List Side)) (x2:Diner) (x3:Int) (r:(Bool×Int)) (h:Zg9 x1 x2 x3=some r):FunT Tryz.prog 99 [.sl 8 (List.map Side.row x1),.clo 142 [.ptr 1 0,.ptr 0 0]] [some ⟨61,[.iv x2.ID,.iv x2.Phase,.sl 8 (List.map Side.row x2.Sides)]⟩,some ⟨3,[.iv x3]⟩] [] (.bv r.1) [some ⟨61,[.iv x2.ID,.iv x2.Phase,.sl 8 (List.map Side.row x2.Sides)]⟩,some ⟨3,[.iv r.2]⟩] []:=by
 refine Zj5 ok99 rfl rfl rfl (by first | rfl | simp [go_sem]) fun w0 M0=>?_
 rw [Zg9] at h
 dsimp only [lun,List.cons_append,List.nil_append]
 refine Zk2 8 ?_;dsimp only [go_sem];refine An ?_;obtain ⟨x4,ex4,h⟩:=Bs h;refine Zm5 [true,true] [] trivial (Zf9 x1 x2 x3 _ ex4) (h:=?_);dsimp only [go_sem];refine Zk2 3 ?_;dsimp only [go_sem];refine An ?_;obtain rfl:=Option.some.inj h;exact Zk5 ok99 rfl (by simp [go_sem])
noncomputable def Zi9:Bool→Option Int
| x3=>
 ifb x3 (
 some 130) (
 some 0)
noncomputable def Zj9 (x1:Diner):Option Int:=
 ifb (decide (x1.ID<0)) (
 Zi9 true) (
 ifb (decide (x1.Phase<0)) (
 Zi9 true) (
 ifb (decide (2<x1.Phase)) (
 Zi9 true) (
 ifb (decide (64≤(ln Side.row x1.Sides))) (
 Zi9 true) (
 (Zg9 x1.Sides x1 ((-1))).bind fun x2=>
 Zi9 x2.1))))
theorem Zk9 (x1:Diner) (r:Int) (h:Zj9 x1=some r):Zp2 Tryz.prog 101 [.agg (Diner.row x1)] (.iv r):=by
 refine Zt2 ok101 rfl rfl fun w0 H0=>?_
 rw [Zj9] at h
 refine Zk2 22 ?_;dsimp only [go_sem];refine An ?_;refine Ze4 (fun (x3:Bool)=>(⟨(an 30 [.bv x3]),[],[]⟩:St)) Zi9 r ?_ fun J1=>?_
 ·intro x3 h;rw [Zi9] at h;(try dsimp only);refine Zg4 h rfl (fun _ h=>?_) fun _ h=>?_
  ·refine Zk2 4 ?_;dsimp only [go_sem];refine An ?_;exact Zo4 (res:=fun (r:Int)=>.iv r) ok101 h
  ·refine Zk2 5 ?_;dsimp only [go_sem];refine An ?_;exact Zo4 (res:=fun (r:Int)=>.iv r) ok101 h
 ·refine Zn4 9 h rfl (fun _ h=>?_) fun _ h=>?_
  ·dsimp only [go_sem];refine Zk2 22 ?_;dsimp only [go_sem];refine An ?_;exact Zq4 J1 (s:=true) h
  ·dsimp only [go_sem];refine Zk2 5 ?_;dsimp only [go_sem];refine An ?_;refine Zn4 14 h rfl (fun _ h=>?_) fun _ h=>?_
   ·dsimp only [go_sem];refine Zk2 17 ?_;dsimp only [go_sem];refine An ?_;exact Zq4 J1 (s:=true) h
   ·dsimp only [go_sem];refine Zk2 5 ?_;dsimp only [go_sem];refine An ?_;refine Zn4 19 h rfl (fun _ h=>?_) fun _ h=>?_
    ·dsimp only [go_sem];refine Zk2 12 ?_;dsimp only [go_sem];refine An ?_;exact Zq4 J1 (s:=true) h
    ·dsimp only [go_sem];refine Zk2 6 ?_;dsimp only [go_sem];refine An ?_;refine Zn4 25 h rfl (fun _ h=>?_) fun _ h=>?_
     ·dsimp only [go_sem];refine Zk2 6 ?_;dsimp only [go_sem];refine An ?_;exact Zq4 J1 (s:=true) h
     ·dsimp only [go_sem];refine Zk2 3 ?_;dsimp only [go_sem];refine An ?_;obtain ⟨x2,ex2,h⟩:=Bs h;refine Zm5 [true,true] [] trivial (Zh9 x1.Sides x1 ((-1)) _ ex2) (h:=?_);dsimp only [go_sem];refine Zk2 2 ?_;dsimp only [go_sem];refine An ?_;exact Zq4 J1 (s:=x2.1) h
set_option maxRecDepth 100000
set_option maxHeartbeats 4000000
@[go_sem] def e158:EC:=.seq (.reg [(Qx 3 66 8 0),(Qa 4 (.mv (.c .ff)))]) (.seq (.reg [(Qf 5 0 3),(Ql 6 5),(Ql 7 1),(Qa 8 (.bin .eql (.t 6) (.t 7))),(Qm 9 8),(Qh 10 9 true 1 3),(Qn 11 9 true 10),(Qh 12 9 true 1 2),(Qn 13 9 true 12),(Qg 14 9 true (.bin .eql (.t 11) (.t 13))),(Qp 15 9 14),(Qm 4 15)]) (.ret))
theorem ok158:FnOK Tryz.prog 158 Tryz.f158 e158 [.t 4] 3 13:=⟨by kernel_rfl,⟨_,rfl,by kernel_rfl⟩,by kernel_rfl,by kernel_rfl⟩
noncomputable def Zl9:Bool→Option Bool
| x4=>
 some x4
noncomputable def Zm9 (x1:Side) (x2:Int) (x3:Msg):Option Bool:=
 ifb (decide (x1.Peer=x2)) (
 Zl9 (decide (x1.Epoch=x3.Epoch))) (
 Zl9 false)
theorem k_dine_Get_1 (x1:Side) (x2:Int) (x3:Msg) (r:Bool) (h:Zm9 x1 x2 x3=some r):Zp2 Tryz.prog 158 [.agg (Side.row x1),.elt (Zu4 x2) 0,.elt (Msg.row x3) 0] (.bv r):=by
 refine Zt2 ok158 rfl rfl fun w0 H0=>?_
 rw [Zm9] at h
 refine Zk2 12 ?_;dsimp only [go_sem];refine An ?_;refine Ze4 (fun (x4:Bool)=>(⟨(an 4 (.bv x4::an 11 [])),[],[]⟩:St)) Zl9 r ?_ fun J1=>?_
 ·intro x4 h;rw [Zl9] at h;(try dsimp only);exact Zo4 (res:=fun (r:Bool)=>.bv r) ok158 h
 ·refine Zn4 9 h rfl (fun _ h=>?_) fun _ h=>?_
  ·dsimp only [go_sem];refine Zk2 8 ?_;dsimp only [go_sem];refine An ?_;exact Zq4 J1 (s:=decide (x1.Epoch=x3.Epoch)) h
  ·dsimp only [go_sem];refine Zk2 8 ?_;dsimp only [go_sem];refine An ?_;exact Zq4 J1 (s:=false) h
set_option maxRecDepth 100000
set_option maxHeartbeats 4000000
@[go_sem] def e72:EC:=.seq (.reg [(Qa 2 (.mv (.c .nl)))]) (.seq (.seq (.reg [(Qm 3 0),(Qa 4 (.isnil false (.t 3)))]) (.ite (.t 4) (.seq (.reg [(Qa 2 (.mv (.c .nl)))]) (.ret)) (.skip))) (.seq (.reg [(Qa 5 (.bsl 66 8 0 [.iv 0,.iv 0,.iv 0,.ff,.ff,.ff,.ff,.ff] [])),(Qm 6 0),(Qa 7 (.app 66 8 32 (.t 5) (.t 6))),(Qm 2 7)]) (.ret)))
theorem ok72:FnOK Tryz.prog 72 Tryz.f72 e72 [.t 2] 1 7:=⟨by kernel_rfl,⟨_,rfl,by kernel_rfl⟩,by kernel_rfl,by kernel_rfl⟩
noncomputable def Zn9 (x1:(List Side)):Option (List Side):=Z84 32 [] x1
theorem Zo9 (x1:(List Side)) (r:(List Side)) (h:Zn9 x1=some r):FunO Tryz.prog 72 [.sl 8 (List.map Side.row x1)] 66 8 (List.map Side.row r):=by
 refine Z25 ok72 rfl fun w0 H0=>?_
 rw [Zn9] at h
 refine Zk2 100 ?_
 dsimp only [e72,go_sem]
 refine ⟨by simp,?_⟩
 refine V_isnil trivial rfl (fun hn=>?_) ?_
 ·refine Zk2 100 ?_
  dsimp only [go_sem]
  refine ⟨by simp,?_⟩
  refine V_own 2 66 8 rfl rfl ?_
  dsimp only [go_sem]
  have hn:x1=[]:=by simpa using hn
  subst hn
  exact Z75 Side.row (e:=[]) ok72 (by simpa [Z84] using h) rfl rfl
 ·refine Zk2 100 ?_
  dsimp only [go_sem]
  refine ⟨by simp,?_⟩
  refine Zl4 Side.row h trivial rfl rfl rfl ?_
  refine Zk2 100 ?_
  dsimp only [go_sem]
  refine ⟨by simp,?_⟩
  exact Z75 Side.row ok72 (rfl:some r=some r) rfl rfl
set_option maxRecDepth 100000
set_option maxHeartbeats 4000000
@[go_sem] def e138:EC:=.seq (.reg [(Qx 3 61 3 0),(Qx 4 3 1 1),(Qx 5 93 3 2),(Qa 6 (.alloc 61 [.iv 0,.iv 0,.nl])),(Qi 7 0)]) (.seq (.seq (.reg [(Qe 12 3 3),(Qa 13 (.call 101 [(.t 12)])),(Qm 8 13)]) (.seq (.reg [(Qm 14 8),(Qa 15 (.bin .neq (.t 14) (.c (.iv 0))))]) (.ite (.t 15) (.seq (.reg [(Qa 16 (.build [.iv 0,.iv 0,.nl] [])),(Qm 17 8),(Qs 3 6 16),(Qm 7 17)]) (.ret)) (.skip)))) (.seq (.reg [(Qf 18 2 3),(Ql 19 18),(Qa 20 (.mkf 158 [(.t 4),(.t 5)])),(Qa 21 (.call 116 [(.t 19),(.t 20)])),(Qm 9 21)]) (.seq (.seq (.reg [(Qm 22 9),(Qa 23 (.bin .lss (.t 22) (.c (.iv 0))))]) (.ite (.t 23) (.seq (.reg [(Qa 24 (.build [.iv 0,.iv 0,.nl] [])),(Qs 3 6 24),(Qi 7 131)]) (.ret)) (.skip))) (.seq (.reg [(Qf 25 2 3),(Ql 26 25),(Qa 27 (.call 72 [(.t 26)])),(Qf 28 2 3),(Qs 1 28 27)]) (.seq (.reg [(Qf 29 2 3),(Ql 30 29),(Qm 31 9),(Qk 32 8 30 31),(Qm 10 32)]) (.seq (.reg [(Qa 11 (.mv (.c .ff)))]) (.seq (.blk 0 (.seq (.reg [(Qf 35 0 5),(Ql 36 35),(Qa 37 (.bin .eql (.t 36) (.c (.iv 1)))),(Qm 38 37),(Qh 39 38 true 2 5),(Qn 40 38 true 39),(Qg 41 38 true (.bin .eql (.t 40) (.c (.iv 0)))),(Qp 42 38 41),(Qm 34 42)]) (.ite (.t 34) (.reg [(Qm 43 10),(Qm 44 10),(Qa 45 (.nilchk (.t 44))),(Qf 46 3 45),(Ql 47 46),(Qm 11 47),(Qa 48 (.nilchk (.t 43))),(Qf 49 3 48),(Qb (.store 1 (.t 49) (.c .tt)))]) (.seq (.reg [(Qf 51 0 5),(Ql 52 51),(Qa 53 (.bin .eql (.t 52) (.c (.iv 2)))),(Qm 54 53),(Qh 55 54 true 2 5),(Qn 56 54 true 55),(Qg 57 54 true (.bin .eql (.t 56) (.c (.iv 0)))),(Qp 58 54 57),(Qm 50 58)]) (.ite (.t 50) (.reg [(Qm 59 10),(Qm 60 10),(Qa 61 (.nilchk (.t 60))),(Qf 62 5 61),(Ql 63 62),(Qm 11 63),(Qa 64 (.nilchk (.t 59))),(Qf 65 5 64),(Qb (.store 1 (.t 65) (.c .tt)))]) (.seq (.reg [(Qa 33 (.build [.iv 0,.iv 0,.nl] [])),(Qs 3 6 33),(Qi 7 133)]) (.ret))))))) (.seq (.seq (.reg [(Qm 66 11)]) (.ite (.t 66) (.seq (.reg [(Qa 67 (.build [.iv 0,.iv 0,.nl] [])),(Qs 3 6 67),(Qi 7 132)]) (.ret)) (.skip))) (.seq (.reg [(Qe 68 3 3),(Qs 3 6 68),(Qi 7 0)]) (.ret))))))))))
theorem ok138:FnOK Tryz.prog 138 Tryz.f138 e138 [.c 6 (some 3),.t 7] 3 66:=⟨by kernel_rfl,⟨_,rfl,by kernel_rfl⟩,by kernel_rfl,by kernel_rfl⟩
noncomputable def Zp9 (x1:Diner):(Bool×(List Side))→Option (Diner×Int)
| (x10,x11)=>
 ifb x10 (
 some ((Diner.mk 0 0 (([]:(List Side)))),132)) (
 some ((Diner.mk x1.ID x1.Phase x11),0))
noncomputable def Zq9 (x1:Diner) (x5:Int) (x6:(List Side)) (x7:Side):Bool→Option (Diner×Int)
| x9=>
 ifb x9 (
 (Zp9 x1) (x7.Token,x6.set (x5).toNat ((Side.mk x7.Peer x7.Epoch x7.State x7.Fork x7.Dirty true x7.Bottle x7.Ask)))) (
 some ((Diner.mk 0 0 (([]:(List Side)))),133))
noncomputable def Zr9 (x1:Diner) (x3:Msg) (x5:Int) (x6:(List Side)) (x7:Side):Bool→Option (Diner×Int)
| x8=>
 ifb x8 (
 (Zp9 x1) (x7.Fork,x6.set (x5).toNat ((Side.mk x7.Peer x7.Epoch x7.State true x7.Dirty x7.Token x7.Bottle x7.Ask)))) (
 ifb (decide (x3.Kind=2)) (
 (Zq9 x1 x5 x6 x7) (decide (x3.Num=0))) (
 (Zq9 x1 x5 x6 x7) false))
noncomputable def Zs9 (x1:Diner) (x2:Int) (x3:Msg):Option (Diner×Int):=
 (Zj9 x1).bind fun x4=>
 ifb (!decide (x4=0)) (
 some ((Diner.mk 0 0 (([]:(List Side)))),x4)) (
 (Zp6 x1.Sides ((fun z=>Zm9 z x2 x3))).bind fun x5=>
 ifb (decide (x5<0)) (
 some ((Diner.mk 0 0 (([]:(List Side)))),131)) (
 (Zn9 x1.Sides).bind fun x6=>
 (at_ x6 x5).bind fun x7=>
 ifb (decide (x3.Kind=1)) (
 (Zr9 x1 x3 x5 x6 x7) (decide (x3.Num=0))) (
 (Zr9 x1 x3 x5 x6 x7) false)))
theorem k_dine_Get (x1:Diner) (x2:Int) (x3:Msg) (r:(Diner×Int)) (h:Zs9 x1 x2 x3=some r):Zp2 Tryz.prog 138 [.agg (Diner.row x1),.iv x2,.agg (Msg.row x3)] (.tup [.agg (Diner.row r.1),.iv r.2]):=by
 refine Zt2 ok138 rfl rfl fun w0 H0=>?_
 rw [Zs9] at h
 refine Zk2 12 ?_;dsimp only [go_sem];refine An ?_;obtain ⟨x4,ex4,h⟩:=Bs h;refine Zy2 trivial (Zk9 x1 _ ex4) (h:=?_);refine Zk2 7 ?_;dsimp only [go_sem];refine An ?_;refine Zg4 h rfl (fun _ h=>?_) fun _ h=>?_
 ·refine Zk2 7 ?_;dsimp only [go_sem];refine An ?_;exact Zo4 (res:=fun (r:(Diner×Int))=>.tup [.agg (Diner.row r.1),.iv r.2]) ok138 h
 ·refine Zk2 6 ?_;dsimp only [go_sem];refine An ?_;obtain ⟨x5,ex5,h⟩:=Bs h;refine Zs4 trivial (((Zr4.refl _).block 1 rfl rfl).block 2 rfl rfl) (Zq6 x1.Sides _ _ ((fun z=>Zm9 z x2 x3)) ⟨by kernel_rfl,rfl,fun z r hz=>k_dine_Get_1 z x2 x3 r hz⟩ _ ex5) (h:=?_);refine Zk2 8 ?_;dsimp only [go_sem];refine An ?_;refine Zg4 h rfl (fun _ h=>?_) fun _ h=>?_
  ·refine Zk2 6 ?_;dsimp only [go_sem];refine An ?_;exact Zo4 (res:=fun (r:(Diner×Int))=>.tup [.agg (Diner.row r.1),.iv r.2]) ok138 h
  ·refine Zk2 5 ?_;dsimp only [go_sem];refine An ?_;obtain ⟨x6,ex6,h⟩:=Bs h;refine Z35 trivial (Zo9 x1.Sides _ ex6) (h:=?_);refine Zk2 8 ?_;dsimp only [go_sem];refine An ?_;obtain ⟨x7,ex7,h⟩:=Bs h;refine Z85 Side.row ex7 trivial rfl rfl rfl ?_;refine Zk2 14 ?_;dsimp only [go_sem];refine An ?_
   refine Ze4 (fun (x8:Bool)=>(⟨(an 3 (.ptr 0 0 :: .any :: .ptr 2 0 :: .ptr 3 0::an 3 (.oel 0 ((x5).toNat*8) 0::an 23 (.bv x8::an 34 [])))),[some ⟨61,[.iv x1.ID,.iv x1.Phase,.osl 0]⟩,none,some ⟨93,[.iv x3.Kind,.iv x3.Epoch,.iv x3.Num]⟩,some ⟨61,[.iv 0,.iv 0,.nl]⟩],[some ⟨66,8,List.map Side.row x6⟩]⟩:St)) (Zr9 x1 x3 x5 x6 x7) r ?_ fun J1=>?_
   ·intro x8 h;rw [Zr9] at h;(try dsimp only);refine Ze4 (fun ((x10,x11):(Bool×(List Side)))=>(⟨(an 3 (.ptr 0 0 :: .any :: .any :: .ptr 3 0::an 4 (.bv x10::an 57 []))),[some ⟨61,[.iv x1.ID,.iv x1.Phase,.osl 0]⟩,none,none,some ⟨61,[.iv 0,.iv 0,.nl]⟩],[some ⟨66,8,List.map Side.row x11⟩]⟩:St)) (Zp9 x1) r ?_ fun J2=>?_
    ·rintro ⟨x10,x11⟩ h;rw [Zp9] at h;(try dsimp only);refine Zk2 6 ?_;dsimp only [go_sem];refine An ?_;refine Zg4 h rfl (fun _ h=>?_) fun _ h=>?_
     ·refine Zk2 6 ?_;dsimp only [go_sem];refine An ?_;exact Zo4 (res:=fun (r:(Diner×Int))=>.tup [.agg (Diner.row r.1),.iv r.2]) ok138 h
     ·refine Zk2 7 ?_;dsimp only [go_sem];refine An ?_;refine Z73 0 rfl ?_;dsimp only [go_sem];exact Zo4 (res:=fun (r:(Diner×Int))=>.tup [.agg (Diner.row r.1),.iv r.2]) ok138 h
    ·refine Zg4 h rfl (fun _ h=>?_) fun _ h=>?_
     ·refine Zk2 5 ?_;dsimp only [go_sem];refine An ?_;refine Z95 Side.row ex7 trivial rfl rfl rfl ?_;refine Zk2 3 ?_;dsimp only [go_sem];refine An ?_;refine Ze5 [.bv true] Side.row (y':=(Side.mk x7.Peer x7.Epoch x7.State true x7.Dirty x7.Token x7.Bottle x7.Ask)) ex7 trivial rfl rfl rfl (by first | exact Z74 _ | simp [go_sem]) rfl rfl rfl rfl ?_;refine Zk2 1 ?_;dsimp only [go_sem];refine An ?_;exact Zq4 J2 (s:=(x7.Fork,x6.set (x5).toNat ((Side.mk x7.Peer x7.Epoch x7.State true x7.Dirty x7.Token x7.Bottle x7.Ask)))) h
     ·refine Zk2 6 ?_;dsimp only [go_sem];refine An ?_;refine Ze4 (fun (x9:Bool)=>(⟨(an 3 (.ptr 0 0 :: .any :: .any :: .ptr 3 0::an 3 (.oel 0 ((x5).toNat*8) 0::an 39 (.bv x9::an 18 [])))),[some ⟨61,[.iv x1.ID,.iv x1.Phase,.osl 0]⟩,none,none,some ⟨61,[.iv 0,.iv 0,.nl]⟩],[some ⟨66,8,List.map Side.row x6⟩]⟩:St)) (Zq9 x1 x5 x6 x7) r ?_ fun J3=>?_
      ·intro x9 h;rw [Zq9] at h;(try dsimp only);refine Zg4 h rfl (fun _ h=>?_) fun _ h=>?_
       ·refine Zk2 5 ?_;dsimp only [go_sem];refine An ?_;refine Z95 Side.row ex7 trivial rfl rfl rfl ?_;refine Zk2 3 ?_;dsimp only [go_sem];refine An ?_;refine Ze5 [.bv true] Side.row (y':=(Side.mk x7.Peer x7.Epoch x7.State x7.Fork x7.Dirty true x7.Bottle x7.Ask)) ex7 trivial rfl rfl rfl (by first | exact Z74 _ | simp [go_sem]) rfl rfl rfl rfl ?_;refine Zk2 1 ?_;dsimp only [go_sem];refine An ?_;exact Zq4 J2 (s:=(x7.Token,x6.set (x5).toNat ((Side.mk x7.Peer x7.Epoch x7.State x7.Fork x7.Dirty true x7.Bottle x7.Ask)))) h
       ·refine Zk2 6 ?_;dsimp only [go_sem];refine An ?_;exact Zo4 (res:=fun (r:(Diner×Int))=>.tup [.agg (Diner.row r.1),.iv r.2]) ok138 h
      ·refine Zn4 54 h rfl (fun _ h=>?_) fun _ h=>?_
       ·dsimp only [go_sem];refine Zk2 6 ?_;dsimp only [go_sem];refine An ?_;exact Zq4 J3 (s:=decide (x3.Num=0)) h
       ·dsimp only [go_sem];refine Zk2 6 ?_;dsimp only [go_sem];refine An ?_;exact Zq4 J3 (s:=false) h
   ·refine Zn4 38 h rfl (fun _ h=>?_) fun _ h=>?_
    ·dsimp only [go_sem];refine Zk2 6 ?_;dsimp only [go_sem];refine An ?_;exact Zq4 J1 (s:=decide (x3.Num=0)) h
    ·dsimp only [go_sem];refine Zk2 6 ?_;dsimp only [go_sem];refine An ?_;exact Zq4 J1 (s:=false) h
def Zt9 (id q:Int) (x:Side):Bool:=decide (q<x.Peer)&&(!decide (x.Peer=id)&&(decide (0≤x.Epoch)&&(decide (x.Epoch≤65535)&&(decide (0≤x.State)&&(decide (x.State≤3)&&!(x.Dirty&&!x.Fork))))))
def Zu9 (id:Int):Int→List Side→Bool
 | _,[]=>true
 | q,x::r=>Zt9 id q x&&Zu9 id x.Peer r
def okD (d:Diner):Bool:=decide (0≤d.ID)&&(decide (0≤d.Phase)&&(decide (d.Phase≤2)&&(decide (d.Sides.length<64)&&Zu9 d.ID (-1) d.Sides)))
theorem s_odd (x:Side) (d:Diner) (q:Int):Za9 x d q=some (!Zt9 d.ID q x):=by
 simp only [Za9,Z99,Z89,Zt9]
 by_cases h1:q<x.Peer
 ·by_cases h2:x.Peer=d.ID
  ·have h1':q<d.ID:=h2 ▸ h1
   simp [h2,h1']
  ·by_cases h3:x.Epoch<0
   ·have:¬0≤x.Epoch:=by omega
    simp [h1,h2,h3,this]
   ·have h3':0≤x.Epoch:=by omega
    by_cases h4:65535<x.Epoch
    ·have:¬x.Epoch≤65535:=by omega
     simp [h1,h2,h3,h4,this]
    ·have h4':x.Epoch≤65535:=by omega
     by_cases h5:x.State<0
     ·have:¬0≤x.State:=by omega
      simp [h1,h2,h3,h4,h5,this]
     ·have h5':0≤x.State:=by omega
      by_cases h6:3<x.State
      ·have:¬x.State≤3:=by omega
       simp [h1,h2,h3,h4,h5,h6,this]
      ·have h6':x.State≤3:=by omega
       simp only [h1,h2,h3,h4,h5,h6,h3',h4',h5',h6',decide_true,decide_false,Z06,Z16,Bool.not_true,Bool.not_false,Bool.true_and]
       cases x.Dirty<;>cases x.Fork<;>rfl
 ·simp [h1]
def Zv9 (id:Int):Nat→Int→List Side→Int×Int
 | _,q,[]=>(-1,q)
 | k,q,x::r=>if Zt9 id q x then Zv9 id (k+1) x.Peer r else (k,x.Peer)
theorem scanD_ok (id:Int):∀(l:List Side) (k:Nat) (q:Int),decide (0≤(Zv9 id k q l).1)=!Zu9 id q l
 | [],k,q=>by simp [Zv9,Zu9]
 | x::r,k,q=>by
   by_cases h:Zt9 id q x=true
   ·have e1:Zv9 id k q (x::r)=Zv9 id (k+1) x.Peer r:=by simp [Zv9,h]
    rw [e1,scanD_ok id r (k+1) x.Peer]
    simp [Zu9,h]
   ·have h':Zt9 id q x=false:=by simpa using h
    have e1:Zv9 id k q (x::r)=((k:Int),x.Peer):=by simp [Zv9,h']
    rw [e1]
    simp [Zu9,h']
def Zw9 (q:Int) (pre:List Side):Int:=match pre.getLast? with | some x=>x.Peer | none=>q
theorem Zx9 (q:Int) (pre:List Side) (x:Side):Zw9 q (pre++[x])=x.Peer:=by simp [Zw9]
theorem Zy9 (d:Diner):Zj9 d=some (if okD d then 0 else 130):=by
 simp only [Zj9,Zi9,okD]
 by_cases h1:d.ID<0
 ·have:¬0≤d.ID:=by omega
  simp [h1,this]
 have h1':0≤d.ID:=by omega
 by_cases h2:d.Phase<0
 ·have:¬0≤d.Phase:=by omega
  simp [h1,h2,this]
 have h2':0≤d.Phase:=by omega
 by_cases h3:2<d.Phase
 ·have:¬d.Phase≤2:=by omega
  simp [h1,h2,h3,this]
 have h3':d.Phase≤2:=by omega
 by_cases h4:64≤d.Sides.length
 ·have h4':(64:Int)≤ln Side.row d.Sides:=by rw [Zw4];omega
  have:¬d.Sides.length<64:=by omega
  simp [h1,h2,h3,h4',this]
 have h4':¬(64:Int)≤ln Side.row d.Sides:=by rw [Zw4];omega
 have h4'':d.Sides.length<64:=by omega
 simp only [h1,h2,h3,h4',h1',h2',h3',h4'',decide_true,decide_false,Z16,Bool.true_and]
 have key:Ze9 d.Sides d (-1)=some (Zv9 d.ID 0 (-1) d.Sides):=by
  unfold Ze9
  refine Z58 d.Sides _ (fun pre=>((pre.length:Int),Zw9 (-1) pre)) (fun pre post=>some (Zv9 d.ID pre.length (Zw9 (-1) pre) post)) (fun pre x post h=>?_) ?_
  ·have hx:=Z78 h
   have hm:=Z88 h
   dsimp only [Zd9]
   rw [Z66 hx,Z06,Z46 hx,Option.bind_some,s_odd,Option.bind_some,Z26]
   cases hs:Zt9 d.ID (Zw9 (-1) pre) x with
   | true=>
     left
     exact ⟨by rw [Z06,Zc8,Zx9,Z86 (by omega)],by simp [Zv9,hs,Zx9]⟩
   | false=>
     right
     exact ⟨_,rfl,by simp [Zv9,hs]⟩
  ·dsimp only [Zd9]
   rw [Z76,Z16];rfl
 simp only [Zg9,key,Option.bind_some,scanD_ok]
 cases Zu9 d.ID (-1) d.Sides<;>rfl
theorem Zz9 (l:List Side) (hl:l.length≤1000000):Zn9 l=some l:=by
 simp only [Zn9]
 rw [Z56 _ _ (by omega) (by simp;omega)];rfl
theorem Z0a {d:Diner} (h:okD d=true):d.Sides.length<64:=by
 simp only [okD,Bool.and_eq_true,decide_eq_true_eq] at h;exact h.2.2.2.1
def Z1a:Diner:=⟨0,0,[]⟩
def Z2a (ph:Int) (x:Side):Side:=if x.Fork&&(x.Dirty&&(x.Token&&!decide (ph=2))) then {x with Fork:=false,Dirty:=false} else x
def Z3a (ph:Int) (x:Side):Side:=if decide (ph=1)&&((Z2a ph x).Token&&!(Z2a ph x).Fork) then {Z2a ph x with Token:=false} else Z2a ph x
def Z4a (id ph:Int) (x:Side):List Mail:=
 (if x.Fork&&(x.Dirty&&(x.Token&&!decide (ph=2))) then [⟨id,x.Peer,⟨1,x.Epoch,0⟩⟩] else []) ++
 (if decide (ph=1)&&((Z2a ph x).Token&&!(Z2a ph x).Fork) then [⟨id,x.Peer,⟨2,x.Epoch,0⟩⟩] else [])
def Z5a (x:Side):Side:= {x with Dirty:=true}
def Z6a (d:Diner):Diner:=if decide (d.Phase=1)&&(d.Sides.map (Z3a d.Phase)).all (·.Fork) then ⟨d.ID,2,(d.Sides.map (Z3a d.Phase)).map Z5a⟩ else ⟨d.ID,d.Phase,d.Sides.map (Z3a d.Phase)⟩
def Z7a (d:Diner):List Mail:=d.Sides.flatMap (Z4a d.ID d.Phase)
theorem fireM_len (id ph:Int) (x:Side):(Z4a id ph x).length≤2:=by
 unfold Z4a
 rw [List.length_append]
 have h1:∀(c:Bool) (m:Mail),(if c then [m] else []).length≤1:=by intro c m;cases c<;>simp
 have:=h1 (x.Fork&&(x.Dirty&&(x.Token&&!decide (ph=2)))) ⟨id,x.Peer,⟨1,x.Epoch,0⟩⟩
 have:=h1 (decide (ph=1)&&((Z2a ph x).Token&&!(Z2a ph x).Fork)) ⟨id,x.Peer,⟨2,x.Epoch,0⟩⟩
 omega
theorem Z8a (l:List Side) (id ph:Int):(l.flatMap (Z4a id ph)).length≤2*l.length:=by
 induction l with
 | nil=>simp
 | cons x l ih=>have:=fireM_len id ph x;rw [List.flatMap_cons,List.length_append,List.length_cons];omega
def Z9a (d:Diner) (peer:Int) (m:Msg):Diner×Int:=
 if okD d then match d.Sides.findIdx? (fun x=>decide (x.Peer=peer)&&decide (x.Epoch=m.Epoch)) with
  | none=>(Z1a,131)
  | some i=>match d.Sides[i]? with
    | none=>(Z1a,131)
    | some x=>
      if decide (m.Kind=1)&&decide (m.Num=0) then (if x.Fork then (Z1a,132) else (⟨d.ID,d.Phase,d.Sides.set i {x with Fork:=true}⟩,0))
      else if decide (m.Kind=2)&&decide (m.Num=0) then (if x.Token then (Z1a,132) else (⟨d.ID,d.Phase,d.Sides.set i {x with Token:=true}⟩,0))
      else (Z1a,133)
 else (Z1a,130)
theorem s_Get (d:Diner) (peer:Int) (m:Msg):Zs9 d peer m=some (Z9a d peer m):=by
 simp only [Zs9,Zy9,Option.bind_some,Z9a]
 cases h:okD d with
 | false=>rfl
 | true=>
   have hl:=Z0a h
   simp only [if_true,decide_true,Bool.not_true,Z16]
   rw [Zg7 d.Sides (fun z=>Zm9 z peer m) (fun x=>decide (x.Peer=peer)&&decide (x.Epoch=m.Epoch)) (by omega) (fun x _=>by
    simp only [Zm9,Zl9]
    cases decide (x.Peer=peer)<;>rfl),Option.bind_some,Zc6]
   have hfi:=Zj8 (fun x:Side=>decide (x.Peer=peer)&&decide (x.Epoch=m.Epoch)) d.Sides
   cases hf:d.Sides.findIdx? (fun x=>decide (x.Peer=peer)&&decide (x.Epoch=m.Epoch)) with
   | none=>rfl
   | some i=>
     rw [hf] at hfi
     obtain ⟨x,hx,_⟩:=hfi
     simp only [Option.isNone_some,Z16,Zz9 d.Sides (by omega),Option.bind_some,plc,Z46 hx,hx,Int.toNat_natCast,Zr9,Zp9,Zq9]
     by_cases k1:m.Kind=1
     ·by_cases k2:m.Num=0
      ·cases x.Fork<;>simp [k1,k2,Z1a]
      ·have:¬(1:Int)=2:=by omega
       simp [k1,k2,Z1a]
     ·by_cases k3:m.Kind=2
      ·by_cases k2:m.Num=0
       ·cases x.Token<;>simp [k3,k2,Z1a]
       ·simp [k3,k2,Z1a]
      ·simp [k1,k3,Z1a]
set_option maxRecDepth 100000
set_option maxHeartbeats 4000000
@[go_sem] def e100:EC:=.seq (.reg [(Qx 2 66 8 0),(Qa 3 (.mv (.c .ff)))]) (.seq (.reg [(Qf 4 0 2),(Ql 5 4),(Ql 6 1),(Qa 7 (.bin .eql (.t 5) (.t 6))),(Qm 3 7)]) (.ret))
theorem ok100:FnOK Tryz.prog 100 Tryz.f100 e100 [.t 3] 2 6:=⟨by kernel_rfl,⟨_,rfl,by kernel_rfl⟩,by kernel_rfl,by kernel_rfl⟩
noncomputable def Zaa (x1:Side) (x2:Int):Option Bool:=
 some (decide (x1.Peer=x2))
theorem Zba (x1:Side) (x2:Int) (r:Bool) (h:Zaa x1 x2=some r):Zp2 Tryz.prog 100 [.agg (Side.row x1),.elt (Zu4 x2) 0] (.bv r):=by
 refine Zt2 ok100 rfl rfl fun w0 H0=>?_
 rw [Zaa] at h
 refine Zk2 13 ?_;dsimp only [go_sem];refine An ?_;exact Zo4 (res:=fun (r:Bool)=>.bv r) ok100 h
set_option maxRecDepth 100000
set_option maxHeartbeats 4000000
@[go_sem] def e98:EC:=.seq (.reg [(Qx 2 3 1 0),(Qa 3 (.mv (.c .ff)))]) (.seq (.reg [(Qf 4 0 1),(Qf 5 2 4),(Ql 6 5),(Qa 7 (.mkf 100 [(.t 2)])),(Qa 8 (.call 99 [(.t 6),(.t 7)])),(Qa 9 (.not (.t 8))),(Qm 3 9)]) (.ret))
theorem ok98:FnOK Tryz.prog 98 Tryz.f98 e98 [.t 3] 2 8:=⟨by kernel_rfl,⟨_,rfl,by kernel_rfl⟩,by kernel_rfl,by kernel_rfl⟩
noncomputable def Zca (x1:Int) (x2:Drinker):Option Bool:=
 (Z69 x2.Diner.Sides ((fun z=>Zaa z x1))).bind fun x3=>
 some (!x3)
theorem Zda (x1:Int) (x2:Drinker) (r:Bool) (h:Zca x1 x2=some r):Zp2 Tryz.prog 98 [.iv x1,.elt (Drinker.row x2) 0] (.bv r):=by
 refine Zt2 ok98 rfl rfl fun w0 H0=>?_
 rw [Zca] at h
 refine Zk2 11 ?_;dsimp only [go_sem];refine An ?_;obtain ⟨x3,ex3,h⟩:=Bs h;refine Zs4 trivial ((Zr4.refl _).block 0 rfl rfl) (Z79 x2.Diner.Sides _ _ ((fun z=>Zaa z x1)) ⟨by kernel_rfl,rfl,fun z r hz=>Zba z x1 r hz⟩ _ ex3) (h:=?_);refine Zk2 3 ?_;dsimp only [go_sem];refine An ?_;exact Zo4 (res:=fun (r:Bool)=>.bv r) ok98 h
set_option maxRecDepth 100000
set_option maxHeartbeats 4000000
@[go_sem] def e102_L0:EC:=.seq (.reg [(Qa 7 (.bin .lss (.t 6) (.t 5)))]) (.seq (.ite (.t 7) (.skip) (.exit 0)) (.seq (.blk 1 (.seq (.reg [(Qm 8 6),(Qm 3 8)]) (.seq (.drw [(Qm 9 3),(Qa 10 (.bin .gtr (.t 9) (.c (.iv 0)))),(Qm 11 10),(Qg 12 11 true (.mv (.t 0))),(Qg 13 11 true (.mv (.t 3))),(Qg 14 11 true (.bin .sub (.t 13) (.c (.iv 1)))),(Qg 15 11 true (.idx 1 (.t 12) (.t 14))),(Qn 16 11 true 15),(Qg 17 11 true (.mv (.t 0))),(Qg 18 11 true (.mv (.t 3))),(Qg 19 11 true (.idx 1 (.t 17) (.t 18))),(Qn 20 11 true 19),(Qg 21 11 true (.bin .geq (.t 16) (.t 20))),(Qp 22 11 21)] [[],[0],[1],[2],[2],[4,2],[3,5,2],[6,2],[2],[2],[8,9,2],[10,2],[7,11,2],[2,12]] [[1],[0,2],[1,3,4,5,6,7,8,9,10,11,12,13],[2,6],[2,5],[2,4,6],[2,3,5,7],[2,6,12],[2,10],[2,10],[2,8,9,11],[2,10,12],[2,7,11,13],[2,12]]) (.ite (.t 22) (.seq (.reg [(Qa 2 (.mv (.c .ff)))]) (.ret)) (.skip))))) (.reg [(Qv 23 6 1),(Qm 6 23)])))
@[go_sem] def e102:EC:=.seq (.reg [(Qa 2 (.mv (.c .ff)))]) (.seq (.seq (.reg [(Qm 4 0),(Qa 5 (.len (.t 4))),(Qi 6 0)]) (.blk 0 (.loop e102_L0))) (.seq (.reg [(Qa 2 (.mv (.c .tt)))]) (.ret)))
theorem ok102:FnOK Tryz.prog 102 Tryz.f102 e102 [.t 2] 1 23:=⟨by kernel_rfl,⟨_,rfl,by kernel_rfl⟩,by kernel_rfl,by kernel_rfl⟩
noncomputable def Zea:Unit→Option Bool
| ()=>
 some true
noncomputable def Zfa (x6:Int):Bool→Option (Int ⊕ Bool)
| x9=>
 ifb x9 (
 Option.map Sum.inr (some false)) (
 some (.inl (wr (x6+1))))
noncomputable def Zga (x1:(List Int)):Int→Option (Int ⊕ Bool)
| x6=>
 ifb (decide (x6<(ln Zu4 x1))) (
 ifb (decide (0<x6)) (
 (at_ x1 (wr (x6-1))).bind fun x7=>
 (at_ x1 x6).bind fun x8=>
 (Zfa x6) (decide (x8≤x7))) (
 (Zfa x6) false)) (
 Option.map Sum.inr (Zea ()))
noncomputable def Zha (x1:(List Int)):Option Bool:=
 loop (Zga x1) 0
theorem k_set_Valid (x1:(List Int)) (r:Bool) (h:Zha x1=some r):Zp2 Tryz.prog 102 [.sl 1 (List.map Zu4 x1)] (.bv r):=by
 refine Zt2 ok102 rfl rfl fun w0 H0=>?_
 rw [Zha] at h
 refine Zk2 11 ?_;dsimp only [go_sem];refine An ?_;refine Ze4 (fun (_:Unit)=>(⟨(an 24 []),[],[]⟩:St)) Zea r ?_ fun J1=>?_
 ·rintro ⟨⟩ h;rw [Zea] at h;(try dsimp only);refine Zk2 4 ?_;dsimp only [go_sem];refine An ?_;exact Zo4 (res:=fun (r:Bool)=>.bv r) ok102 h
 ·refine Zk2 1 ?_;dsimp only [go_sem];refine An ?_;refine Zf4 h (fun (x6:Int)=>(⟨(.sl 1 (List.map Zu4 x1)::an 4 (.iv (ln Zu4 x1) :: .iv x6::an 17 [])),[],[]⟩:St)) (by simp [go_sem]) (by intro x6;first | rfl | simp [go_sem]) ?_;rintro n1 x6 y1 h hin1 hout1;rw [Zga] at h;(try dsimp only);refine Zk2 5 ?_;dsimp only [go_sem];refine An ?_;refine Zg4 h rfl (fun _ h=>?_) fun _ h=>?_
  ·refine Zk2 9 ?_;dsimp only [go_sem];refine An ?_;refine Ze4 (fun (x9:Bool)=>(⟨(.sl 1 (List.map Zu4 x1)::an 4 (.iv (ln Zu4 x1) :: .iv x6::an 15 [.bv x9,.any])),[],[]⟩:St)) (Zfa x6) y1 ?_ fun J2=>?_
   ·intro x9 h;rw [Zfa] at h;(try dsimp only);refine Zg4 h rfl (fun _ h=>?_) fun _ h=>?_
    ·refine Zk2 4 ?_;dsimp only [go_sem];refine An ?_;exact Zo4 (res:=fun (r:Bool)=>.bv r) ok102 (Zd4 h hout1)
    ·refine Zk2 6 ?_;dsimp only [go_sem];refine An ?_;exact Zp4 h hin1
   ·refine Zf3 (by kernel_rfl) fun all hall hs hnap haf=>?_;dsimp only [go_sem];refine Z55 hall hs haf hnap 3 11 ?_;dsimp only [go_sem];refine An ?_;refine Zx4 11 h rfl (fun _ h=>?_) fun _ h=>?_
    ·dsimp only [go_sem];refine Z65 hall hs haf hnap 5 6 [6,2,2,4] [(12,[.sl 1 (List.map Zu4 x1),.iv x6,.iv (wr (x6-1))]),(2,[.sl 1 (List.map Zu4 x1),.iv x6])] (by kernel_rfl) ?_;dsimp only [go_sem];obtain ⟨x7,ex7,h⟩:=Bs h;refine Zk4 hall hs haf hnap 6 Zu4 ex7 rfl rfl trivial rfl rfl rfl rfl ?_;refine Z55 hall hs haf hnap 1 4 ?_;dsimp only [go_sem];refine An ?_;obtain ⟨x8,ex8,h⟩:=Bs h;refine Zk4 hall hs haf hnap 10 Zu4 ex8 rfl rfl trivial rfl rfl rfl rfl ?_;refine Z55 hall hs haf hnap 3 0 ?_;dsimp only [go_sem];refine An ?_
     refine Zp3 rfl ?_ _;exact Zq4 J2 (s:=decide (x8≤x7)) h
    ·dsimp only [go_sem];refine Z65 hall hs haf hnap 11 0 [14] [(12,[.un,.un,.un,.un,.un,.un,.un,.un,.un,.un,.ff])] (by kernel_rfl) ?_;dsimp only [go_sem];refine Zp3 rfl ?_ _;exact Zq4 J2 (s:=false) h
  ·refine Zk2 1 ?_;dsimp only [go_sem];refine An ?_;exact Zq4 J1 (s:=()) (Zd4 h hout1)
set_option maxRecDepth 100000
set_option maxHeartbeats 4000000
@[go_sem] def e58:EC:=.seq (.reg [(Qx 1 63 5 0),(Qi 2 0)]) (.seq (.reg [(Qa 4 (.mkf 98 [(.t 1)])),(Qm 3 4)]) (.seq (.blk 0 (.seq (.seq (.reg [(Qf 6 0 1),(Qe 7 3 6),(Qa 8 (.call 101 [(.t 7)])),(Qa 9 (.bin .neq (.t 8) (.c (.iv 0)))),(Qm 5 9)]) (.ite (.t 5) (.skip) (.seq (.reg [(Qf 10 3 1),(Ql 11 10),(Qa 12 (.bin .lss (.t 11) (.c (.iv 0)))),(Qm 5 12)]) (.ite (.t 5) (.skip) (.reg [(Qf 13 3 1),(Ql 14 13),(Qa 15 (.bin .gtr (.t 14) (.c (.iv 2)))),(Qm 5 15)]))))) (.ite (.t 5) (.seq (.reg [(Qi 2 150)]) (.ret)) (.seq (.seq (.reg [(Qf 17 4 1),(Ql 18 17),(Qa 19 (.call 102 [(.t 18)])),(Qa 20 (.not (.t 19))),(Qm 16 20)]) (.ite (.t 16) (.skip) (.seq (.reg [(Qf 21 3 1),(Ql 22 21),(Qa 23 (.bin .eql (.t 22) (.c (.iv 0)))),(Qm 24 23),(Qh 25 24 true 4 1),(Qn 26 24 true 25),(Qg 27 24 true (.len (.t 26))),(Qg 28 24 true (.bin .gtr (.t 27) (.c (.iv 0)))),(Qp 29 24 28),(Qm 16 29)]) (.ite (.t 16) (.skip) (.reg [(Qf 30 4 1),(Ql 31 30),(Qm 32 3),(Qa 33 (.call 103 [(.t 31),(.t 32)])),(Qm 16 33)]))))) (.ite (.t 16) (.seq (.reg [(Qi 2 150)]) (.ret)) (.skip)))))) (.seq (.reg [(Qi 2 0)]) (.ret))))
theorem ok58:FnOK Tryz.prog 58 Tryz.f58 e58 [.t 2] 1 33:=⟨by kernel_rfl,⟨_,rfl,by kernel_rfl⟩,by kernel_rfl,by kernel_rfl⟩
noncomputable def Zia:Bool→Option Int
| x7=>
 ifb x7 (
 some 150) (
 some 0)
noncomputable def Zja (x1:Drinker):Bool→Option Int
| x5=>
 ifb x5 (
 Zia x5) (
 (Zc7 x1.Need ((fun z=>Zca z x1))).bind fun x6=>
 Zia x6)
noncomputable def Zka (x1:Drinker):Bool→Option Int
| x3=>
 ifb x3 (
 some 150) (
 (Zha x1.Need).bind fun x4=>
 ifb (!x4) (
 Zia (!x4)) (
 ifb (decide (x1.Thirst=0)) (
 (Zja x1) (decide (0<(ln Zu4 x1.Need)))) (
 (Zja x1) false)))
noncomputable def Zla (x1:Drinker):Option Int:=
 (Zj9 x1.Diner).bind fun x2=>
 ifb (!decide (x2=0)) (
 (Zka x1) (!decide (x2=0))) (
 ifb (decide (x1.Thirst<0)) (
 (Zka x1) (decide (x1.Thirst<0))) (
 (Zka x1) (decide (2<x1.Thirst))))
theorem Zma (x1:Drinker) (r:Int) (h:Zla x1=some r):Zp2 Tryz.prog 58 [.agg (Drinker.row x1)] (.iv r):=by
 refine Zt2 ok58 rfl rfl fun w0 H0=>?_
 rw [Zla] at h
 refine Zk2 17 ?_;dsimp only [go_sem];refine An ?_;obtain ⟨x2,ex2,h⟩:=Bs h;refine Zy2 trivial (Zk9 x1.Diner _ ex2) (h:=?_);refine Zk2 3 ?_;dsimp only [go_sem];refine An ?_;refine Ze4 (fun (x3:Bool)=>(⟨(.any :: .ptr 0 0 :: .any :: .clo 98 [.ptr 0 0] :: .any :: .bv x3::an 28 []),[some ⟨63,[.iv x1.Diner.ID,.iv x1.Diner.Phase,.sl 8 (List.map Side.row x1.Diner.Sides),.iv x1.Thirst,.sl 1 (List.map Zu4 x1.Need)]⟩],[]⟩:St)) (Zka x1) r ?_ fun J1=>?_
 ·intro x3 h;rw [Zka] at h;(try dsimp only);refine Zg4 h rfl (fun _ h=>?_) fun _ h=>?_
  ·refine Zk2 4 ?_;dsimp only [go_sem];refine An ?_;exact Zo4 (res:=fun (r:Int)=>.iv r) ok58 h
  ·refine Zk2 5 ?_;dsimp only [go_sem];refine An ?_;obtain ⟨x4,ex4,h⟩:=Bs h;refine Zy2 trivial (k_set_Valid x1.Need _ ex4) (h:=?_);refine Zk2 3 ?_;dsimp only [go_sem];refine An ?_;refine Ze4 (fun (x7:Bool)=>(⟨(an 16 (.bv x7::an 17 [])),[],[]⟩:St)) Zia r ?_ fun J2=>?_
   ·intro x7 h;rw [Zia] at h;(try dsimp only);refine Zg4 h rfl (fun _ h=>?_) fun _ h=>?_
    ·refine Zk2 4 ?_;dsimp only [go_sem];refine An ?_;exact Zo4 (res:=fun (r:Int)=>.iv r) ok58 h
    ·refine Zk2 6 ?_;dsimp only [go_sem];refine An ?_;exact Zo4 (res:=fun (r:Int)=>.iv r) ok58 h
   ·refine Zg4 h rfl (fun _ h=>?_) fun _ h=>?_
    ·refine Zk2 1 ?_;dsimp only [go_sem];refine An ?_;exact Zq4 J2 (s:=!x4) h
    ·refine Zk2 6 ?_;dsimp only [go_sem];refine An ?_;refine Ze4 (fun (x5:Bool)=>(⟨(.any :: .ptr 0 0 :: .any :: .clo 98 [.ptr 0 0]::an 12 (.bv x5::an 17 [])),[some ⟨63,[.iv x1.Diner.ID,.iv x1.Diner.Phase,.sl 8 (List.map Side.row x1.Diner.Sides),.iv x1.Thirst,.sl 1 (List.map Zu4 x1.Need)]⟩],[]⟩:St)) (Zja x1) r ?_ fun J3=>?_
     ·intro x5 h;rw [Zja] at h;(try dsimp only);refine Zg4 h rfl (fun _ h=>?_) fun _ h=>?_
      ·refine Zk2 1 ?_;dsimp only [go_sem];refine An ?_;exact Zq4 J2 (s:=x5) h
      ·refine Zk2 4 ?_;dsimp only [go_sem];refine An ?_;obtain ⟨x6,ex6,h⟩:=Bs h;refine Zs4 trivial ((Zr4.refl _).block 0 rfl rfl) (Zd7 x1.Need _ _ ((fun z=>Zca z x1)) ⟨by kernel_rfl,rfl,fun z r hz=>Zda z x1 r hz⟩ _ ex6) (h:=?_);refine Zk2 2 ?_;dsimp only [go_sem];refine An ?_;exact Zq4 J2 (s:=x6) h
     ·refine Zn4 24 h rfl (fun _ h=>?_) fun _ h=>?_
      ·dsimp only [go_sem];refine Zk2 7 ?_;dsimp only [go_sem];refine An ?_;exact Zq4 J3 (s:=decide (0<(ln Zu4 x1.Need))) h
      ·dsimp only [go_sem];refine Zk2 7 ?_;dsimp only [go_sem];refine An ?_;exact Zq4 J3 (s:=false) h
 ·refine Zg4 h rfl (fun _ h=>?_) fun _ h=>?_
  ·refine Zk2 1 ?_;dsimp only [go_sem];refine An ?_;exact Zq4 J1 (s:=!decide (x2=0)) h
  ·refine Zk2 7 ?_;dsimp only [go_sem];refine An ?_;refine Zg4 h rfl (fun _ h=>?_) fun _ h=>?_
   ·refine Zk2 1 ?_;dsimp only [go_sem];refine An ?_;exact Zq4 J1 (s:=decide (x1.Thirst<0)) h
   ·refine Zk2 6 ?_;dsimp only [go_sem];refine An ?_;exact Zq4 J1 (s:=decide (2<x1.Thirst)) h
set_option maxRecDepth 100000
set_option maxHeartbeats 4000000
@[go_sem] def e136:EC:=.seq (.reg [(Qa 2 (.mv (.c .nl)))]) (.seq (.seq (.reg [(Qm 3 0),(Qa 4 (.isnil false (.t 3)))]) (.ite (.t 4) (.seq (.reg [(Qa 2 (.mv (.c .nl)))]) (.ret)) (.skip))) (.seq (.reg [(Qa 5 (.bsl 3 1 0 [.iv 0] [])),(Qm 6 0),(Qa 7 (.app 3 1 8 (.t 5) (.t 6))),(Qm 2 7)]) (.ret)))
theorem ok136:FnOK Tryz.prog 136 Tryz.f136 e136 [.t 2] 1 7:=⟨by kernel_rfl,⟨_,rfl,by kernel_rfl⟩,by kernel_rfl,by kernel_rfl⟩
noncomputable def Zna (x1:(List Int)):Option (List Int):=Z84 8 [] x1
theorem Zoa (x1:(List Int)) (r:(List Int)) (h:Zna x1=some r):FunO Tryz.prog 136 [.sl 1 (List.map Zu4 x1)] 3 1 (List.map Zu4 r):=by
 refine Z25 ok136 rfl fun w0 H0=>?_
 rw [Zna] at h
 refine Zk2 100 ?_
 dsimp only [e136,go_sem]
 refine ⟨by simp,?_⟩
 refine V_isnil trivial rfl (fun hn=>?_) ?_
 ·refine Zk2 100 ?_
  dsimp only [go_sem]
  refine ⟨by simp,?_⟩
  refine V_own 2 3 1 rfl rfl ?_
  dsimp only [go_sem]
  have hn:x1=[]:=by simpa using hn
  subst hn
  exact Z75 Zu4 (e:=[]) ok136 (by simpa [Z84] using h) rfl rfl
 ·refine Zk2 100 ?_
  dsimp only [go_sem]
  refine ⟨by simp,?_⟩
  refine Zl4 Zu4 h trivial rfl rfl rfl ?_
  refine Zk2 100 ?_
  dsimp only [go_sem]
  refine ⟨by simp,?_⟩
  exact Z75 Zu4 ok136 (rfl:some r=some r) rfl rfl
set_option maxRecDepth 100000
set_option maxHeartbeats 4000000
@[go_sem] def e120:EC:=.seq (.reg [(Qx 1 63 5 0),(Qa 2 (.alloc 63 [.iv 0,.iv 0,.nl,.iv 0,.nl]))]) (.seq (.drw [(Qf 3 0 1),(Qf 4 2 3),(Ql 5 4),(Qa 6 (.call 72 [(.t 5)])),(Qf 7 4 1),(Ql 8 7),(Qa 9 (.call 136 [(.t 8)])),(Qf 10 0 1),(Qf 11 2 10),(Qs 1 11 6),(Qf 12 4 1),(Qs 1 12 9)] [[],[0],[1],[2],[],[4],[5,3],[0,1,2,3,4,5],[7,0,1,2,3,4,5],[8,3,6,0,1,2,3,4,5],[0,1,2,3,4,5,6,7,8,9],[10,6,9,0,1,2,3,4,5,6,7,8,9]] [[1],[0,2],[1,3],[2,9],[5],[4,6],[5,11],[8],[7,9],[3,8],[11],[6,10]]) (.seq (.reg [(Qe 13 5 1),(Qs 5 2 13)]) (.ret)))
theorem ok120:FnOK Tryz.prog 120 Tryz.f120 e120 [.c 2 (some 5)] 1 13:=⟨by kernel_rfl,⟨_,rfl,by kernel_rfl⟩,by kernel_rfl,by kernel_rfl⟩
noncomputable def Zpa (x1:Drinker):Option Drinker:=
 (Zn9 x1.Diner.Sides).bind fun x2=>
 (Zna x1.Need).bind fun x3=>
 some (Drinker.mk ((Diner.mk x1.Diner.ID x1.Diner.Phase x2)) x1.Thirst x3)
theorem Zqa (x1:Drinker) (r:Drinker) (h:Zpa x1=some r):Zp2 Tryz.prog 120 [.agg (Drinker.row x1)] (.agg (Drinker.row r)):=by
 refine Zt2 ok120 rfl rfl fun w0 H0=>?_
 rw [Zpa] at h
 refine Zk2 6 ?_;dsimp only [go_sem];refine An ?_;refine Zf3 (by kernel_rfl) fun all hall hs hnap haf=>?_;dsimp only [go_sem];refine Z55 hall hs haf hnap 5 7 ?_;dsimp only [go_sem];refine An ?_;refine Zq3 3 rfl ?_;obtain ⟨x2,ex2,h⟩:=Bs h;refine Z45 hall rfl trivial (Zo9 x1.Diner.Sides _ ex2) (h:=?_);dsimp only [go_sem];refine Z55 hall hs haf hnap 2 4 ?_;dsimp only [go_sem];refine An ?_;refine Zq3 6 rfl ?_;obtain ⟨x3,ex3,h⟩:=Bs h;refine Z45 hall rfl trivial (Zoa x1.Need _ ex3) (h:=?_);dsimp only [go_sem]
 refine Zq3 9 rfl ?_;refine Zv3 hall rfl trivial ?_;dsimp only [go_sem];refine Z55 hall hs haf hnap 1 1 ?_;dsimp only [go_sem];refine An ?_;refine Zq3 11 rfl ?_;refine Zv3 hall rfl trivial ?_;dsimp only [go_sem];refine Zp3 rfl ?_ _;refine Zk2 5 ?_;dsimp only [go_sem];refine An ?_;refine Z73 0 rfl ?_;dsimp only [go_sem];refine Z73 1 rfl ?_;dsimp only [go_sem];exact Zo4 (res:=fun (r:Drinker)=>.agg (Drinker.row r)) ok120 h
set_option maxRecDepth 100000
set_option maxHeartbeats 4000000
@[go_sem] def e176:EC:=.seq (.reg [(Qx 1 66 8 0),(Qa 2 (.mv (.c .ff)))]) (.seq (.reg [(Qf 3 2 1),(Ql 4 3),(Qa 5 (.bin .eql (.t 4) (.c (.iv 1)))),(Qm 2 5)]) (.ret))
theorem ok176:FnOK Tryz.prog 176 Tryz.f176 e176 [.t 2] 1 5:=⟨by kernel_rfl,⟨_,rfl,by kernel_rfl⟩,by kernel_rfl,by kernel_rfl⟩
noncomputable def Zra (x1:Side):Option Bool:=
 some (decide (x1.State=1))
theorem Zsa (x1:Side) (r:Bool) (h:Zra x1=some r):Zp2 Tryz.prog 176 [.agg (Side.row x1)] (.bv r):=by
 refine Zt2 ok176 rfl rfl fun w0 H0=>?_
 rw [Zra] at h
 refine Zk2 12 ?_;dsimp only [go_sem];refine An ?_;exact Zo4 (res:=fun (r:Bool)=>.bv r) ok176 h
set_option maxRecDepth 100000
set_option maxHeartbeats 4000000
@[go_sem] def e194:EC:=.drw [(Ql 5 1),(Qf 6 0 2),(Ql 7 6),(Ql 8 3),(Qa 9 (.nilchk (.t 8))),(Qf 10 0 9),(Ql 11 10),(Qm 12 0),(Ql 13 3),(Qa 14 (.nilchk (.t 13))),(Qf 15 1 14),(Ql 16 15),(Qa 17 (.build [.iv 0,.iv 0,.iv 0] [(0,1,(.t 12)),(1,1,(.t 16))])),(Qa 18 (.build [.iv 0,.iv 0,.iv 0,.iv 0,.iv 0] [(0,1,(.t 7)),(1,1,(.t 11)),(2,3,(.t 17))])),(Qa 19 (.bsl 95 5 1 [.iv 0,.iv 0,.iv 0,.iv 0,.iv 0] [(0,(.t 18))])),(Qa 20 (.app 95 5 40 (.t 5) (.t 19))),(Qs 1 1 20)] [[],[],[1],[],[3],[4],[5],[],[],[8],[9],[10],[7,11],[2,6,12],[13],[0,14],[15,15,0,1,2,3,4,5,6,7,8,9,10,11,12,13,14,15]] [[15],[2],[1,13],[4],[3,5],[4,6],[5,13],[12],[9],[8,10],[9,11],[10,12],[7,11,13],[2,6,12,14],[13,15],[0,14,16],[15]]
theorem Zta:FnOK Tryz.prog 194 Tryz.f194 e194 [] 4 17:=⟨by kernel_rfl,⟨_,rfl,by kernel_rfl⟩,by kernel_rfl,by kernel_rfl⟩
set_option maxRecDepth 100000
set_option maxHeartbeats 4000000
@[go_sem] def e177_L1:EC:=.seq (.reg [(Qa 102 (.bin .lss (.t 101) (.t 100)))]) (.seq (.ite (.t 102) (.skip) (.exit 2)) (.seq (.blk 3 (.seq (.reg [(Qm 103 101),(Qm 11 103)]) (.reg [(Qf 104 2 1),(Ql 105 104),(Qm 106 11),(Qk 107 8 105 106),(Qf 108 4 107),(Qb (.store 1 (.t 108) (.c .tt)))]))) (.reg [(Qv 109 101 1),(Qm 101 109)])))
@[go_sem] def e177_L0:EC:=.seq (.reg [(Qa 26 (.bin .lss (.t 25) (.t 24)))]) (.seq (.ite (.t 26) (.skip) (.exit 0)) (.seq (.blk 1 (.seq (.reg [(Qm 27 25),(Qm 8 27)]) (.seq (.reg [(Qf 28 2 1),(Ql 29 28),(Qm 30 8),(Qk 31 8 29 30),(Qa 9 (.alloc 189 [.nlp])),(Qs 1 9 31)]) (.seq (.reg [(Qa 32 (.mkf 194 [(.t 6),(.t 1),(.t 9)])),(Qm 10 32)]) (.seq (.seq (.reg [(Ql 33 9),(Qa 34 (.nilchk (.t 33))),(Qf 35 3 34),(Ql 36 35),(Qm 37 36),(Qn 38 37 true 9),(Qg 39 37 true (.nilchk (.t 38))),(Qh 40 37 true 4 39),(Qn 41 37 true 40),(Qp 42 37 41),(Qm 43 42),(Qn 44 43 true 9),(Qg 45 43 true (.nilchk (.t 44))),(Qh 46 43 true 5 45),(Qn 47 43 true 46),(Qp 48 43 47),(Qm 49 48),(Qh 50 49 true 1 1),(Qn 51 49 true 50),(Qg 52 49 true (.bin .neq (.t 51) (.c (.iv 2)))),(Qp 53 49 52)]) (.ite (.t 53) (.seq (.drw [(Ql 54 9),(Ql 55 9),(Qa 56 (.nilchk (.t 54))),(Qf 57 3 56),(Qb (.store 1 (.t 57) (.c .ff))),(Qa 58 (.nilchk (.t 55))),(Qf 59 4 58),(Qb (.store 1 (.t 59) (.c .ff)))] [[],[],[0,0],[2,0],[3,0],[1,0,1,2,3,4],[5,0,1,2,3,4],[6,4,0,1,2,3,4]] [[2],[5],[0,3],[2,4],[3],[1,6],[5,7],[6]]) (.reg [(Qm 60 10),(Qa 61 (.callv (.t 60) [(.c (.iv 1))]))])) (.skip))) (.seq (.seq (.reg [(Qf 62 1 1),(Ql 63 62),(Qa 64 (.bin .eql (.t 63) (.c (.iv 1)))),(Qm 65 64),(Qn 66 65 true 9),(Qg 67 65 true (.nilchk (.t 66))),(Qh 68 65 true 5 67),(Qn 69 65 true 68),(Qp 70 65 69),(Qm 71 70),(Qn 72 71 true 9),(Qg 73 71 true (.nilchk (.t 72))),(Qh 74 71 true 3 73),(Qn 75 71 true 74),(Qg 76 71 true (.not (.t 75))),(Qp 77 71 76)]) (.ite (.t 77) (.seq (.reg [(Ql 78 9),(Qa 79 (.nilchk (.t 78))),(Qf 80 5 79),(Qb (.store 1 (.t 80) (.c .ff)))]) (.reg [(Qm 81 10),(Qa 82 (.callv (.t 81) [(.c (.iv 2))]))])) (.skip))) (.reg [(Qm 83 7),(Qm 84 83),(Qn 85 84 true 9),(Qg 86 84 true (.nilchk (.t 85))),(Qh 87 84 true 3 86),(Qn 88 84 true 87),(Qp 89 84 88),(Qm 7 89)]))))))) (.reg [(Qv 90 25 1),(Qm 25 90)])))
@[go_sem] def e177:EC:=.seq (.reg [(Qx 1 61 3 0),(Qa 2 (.alloc 61 [.iv 0,.iv 0,.nl])),(Qa 3 (.mv (.c .nl))),(Qi 4 0)]) (.seq (.seq (.reg [(Qe 12 3 1),(Qa 13 (.call 101 [(.t 12)])),(Qm 5 13)]) (.seq (.reg [(Qm 14 5),(Qa 15 (.bin .neq (.t 14) (.c (.iv 0))))]) (.ite (.t 15) (.seq (.reg [(Qa 16 (.build [.iv 0,.iv 0,.nl] [])),(Qm 17 5),(Qs 3 2 16),(Qa 3 (.mv (.c .nl))),(Qm 4 17)]) (.ret)) (.skip)))) (.seq (.reg [(Qf 18 2 1),(Ql 19 18),(Qa 20 (.call 72 [(.t 19)])),(Qf 21 2 1),(Qs 1 21 20)]) (.seq (.reg [(Qa 6 (.alloc 23 [.nl]))]) (.seq (.reg [(Qa 7 (.mv (.c .tt)))]) (.seq (.seq (.reg [(Qf 22 2 1),(Ql 23 22),(Qa 24 (.len (.t 23))),(Qi 25 0)]) (.blk 0 (.loop e177_L0))) (.seq (.seq (.reg [(Qf 91 1 1),(Ql 92 91),(Qa 93 (.bin .eql (.t 92) (.c (.iv 1)))),(Qm 94 93),(Qg 95 94 true (.mv (.t 7))),(Qp 96 94 95)]) (.ite (.t 96) (.seq (.reg [(Qf 97 1 1),(Qb (.store 1 (.t 97) (.c (.iv 2))))]) (.seq (.reg [(Qf 98 2 1),(Ql 99 98),(Qa 100 (.len (.t 99))),(Qi 101 0)]) (.blk 2 (.loop e177_L1)))) (.skip))) (.seq (.drw [(Qe 110 3 1),(Ql 111 6),(Qs 3 2 110),(Qm 3 111),(Qi 4 0)] [[],[],[0,0],[1,2,0,1,2],[3,0,1,2,3]] [[2],[3],[0],[1],[]]) (.ret))))))))
theorem ok177:FnOK Tryz.prog 177 Tryz.f177 e177 [.c 2 (some 3),.t 3,.t 4] 1 111:=⟨by kernel_rfl,⟨_,rfl,by kernel_rfl⟩,by kernel_rfl,by kernel_rfl⟩
set_option maxRecDepth 100000
set_option maxHeartbeats 4000000
@[go_sem] def e165_L0:EC:=.seq (.reg [(Qa 9 (.bin .lss (.t 8) (.t 7)))]) (.seq (.ite (.t 9) (.skip) (.exit 0)) (.seq (.blk 1 (.seq (.reg [(Qm 10 8),(Qm 5 10)]) (.seq (.reg [(Qm 11 1),(Qm 12 0),(Qm 13 5),(Qk 14 1 12 13),(Ql 15 14),(Qa 16 (.bin .eql (.t 11) (.t 15)))]) (.ite (.t 16) (.seq (.reg [(Qm 17 5),(Qm 4 17)]) (.ret)) (.skip))))) (.reg [(Qv 18 8 1),(Qm 8 18)])))
@[go_sem] def e165:EC:=.seq (.reg [(Qi 4 0)]) (.seq (.seq (.reg [(Qm 6 0),(Qa 7 (.len (.t 6))),(Qi 8 0)]) (.blk 0 (.loop e165_L0))) (.seq (.reg [(Qa 4 (.mv (.c (.iv (-1)))))]) (.ret)))
theorem ok165:FnOK Tryz.prog 165 Tryz.f165 e165 [.t 4] 2 17:=⟨by kernel_rfl,⟨_,rfl,by kernel_rfl⟩,by kernel_rfl,by kernel_rfl⟩
noncomputable def Zua:Unit→Option Int
| ()=>
 some (-1)
noncomputable def Zva (x1:(List Int)) (x2:Int):Int→Option (Int ⊕ Int)
| x5=>
 ifb (decide (x5<(ln Zu4 x1))) (
 (at_ x1 x5).bind fun x6=>
 ifb (decide (x2=x6)) (
 Option.map Sum.inr (some x5)) (
 some (.inl (wr (x5+1))))) (
 Option.map Sum.inr (Zua ()))
noncomputable def Zwa (x1:(List Int)) (x2:Int):Option Int:=
 loop (Zva x1 x2) 0
theorem Zxa (x1:(List Int)) (x2:Int) (r:Int) (h:Zwa x1 x2=some r):Zp2 Tryz.prog 165 [.sl 1 (List.map Zu4 x1),.iv x2] (.iv r):=by
 refine Zt2 ok165 rfl rfl fun w0 H0=>?_
 rw [Zwa] at h
 refine Zk2 11 ?_;dsimp only [go_sem];refine An ?_;refine Ze4 (fun (_:Unit)=>(⟨(an 19 []),[],[]⟩:St)) Zua r ?_ fun J1=>?_
 ·rintro ⟨⟩ h;rw [Zua] at h;(try dsimp only);refine Zk2 4 ?_;dsimp only [go_sem];refine An ?_;exact Zo4 (res:=fun (r:Int)=>.iv r) ok165 h
 ·refine Zk2 1 ?_;dsimp only [go_sem];refine An ?_;refine Zf4 h (fun (x5:Int)=>(⟨(.sl 1 (List.map Zu4 x1) :: .iv x2::an 5 (.iv (ln Zu4 x1) :: .iv x5::an 10 [])),[],[]⟩:St)) (by simp [go_sem]) (by intro x5;first | rfl | simp [go_sem]) ?_;rintro n1 x5 y1 h hin1 hout1;rw [Zva] at h;(try dsimp only);refine Zk2 5 ?_;dsimp only [go_sem];refine An ?_;refine Zg4 h rfl (fun _ h=>?_) fun _ h=>?_
  ·refine Zk2 13 ?_;dsimp only [go_sem];refine An ?_;obtain ⟨x6,ex6,h⟩:=Bs h;refine Zj4 Zu4 ex6 trivial rfl rfl rfl ?_;refine Zk2 3 ?_;dsimp only [go_sem];refine An ?_;refine Zg4 h rfl (fun _ h=>?_) fun _ h=>?_
   ·refine Zk2 5 ?_;dsimp only [go_sem];refine An ?_;exact Zo4 (res:=fun (r:Int)=>.iv r) ok165 (Zd4 h hout1)
   ·refine Zk2 6 ?_;dsimp only [go_sem];refine An ?_;exact Zp4 h hin1
  ·refine Zk2 1 ?_;dsimp only [go_sem];refine An ?_;exact Zq4 J1 (s:=()) (Zd4 h hout1)
set_option maxRecDepth 100000
set_option maxHeartbeats 4000000
@[go_sem] def e149:EC:=.seq (.reg [(Qa 4 (.mv (.c .ff)))]) (.seq (.reg [(Qm 5 0),(Qm 6 1),(Qa 7 (.call 165 [(.t 5),(.t 6)])),(Qa 8 (.bin .geq (.t 7) (.c (.iv 0)))),(Qm 4 8)]) (.ret))
theorem ok149:FnOK Tryz.prog 149 Tryz.f149 e149 [.t 4] 2 7:=⟨by kernel_rfl,⟨_,rfl,by kernel_rfl⟩,by kernel_rfl,by kernel_rfl⟩
noncomputable def Zya (x1:(List Int)) (x2:Int):Option Bool:=
 (Zwa x1 x2).bind fun x3=>
 some (decide (0≤x3))
theorem Zza (x1:(List Int)) (x2:Int) (r:Bool) (h:Zya x1 x2=some r):Zp2 Tryz.prog 149 [.sl 1 (List.map Zu4 x1),.iv x2] (.bv r):=by
 refine Zt2 ok149 rfl rfl fun w0 H0=>?_
 rw [Zya] at h
 refine Zk2 8 ?_;dsimp only [go_sem];refine An ?_;obtain ⟨x3,ex3,h⟩:=Bs h;refine Zy2 trivial (Zxa x1 x2 _ ex3) (h:=?_);refine Zk2 3 ?_;dsimp only [go_sem];refine An ?_;exact Zo4 (res:=fun (r:Bool)=>.bv r) ok149 h
set_option maxRecDepth 100000
set_option maxHeartbeats 4000000
@[go_sem] def e195:EC:=.seq (.reg [(Qa 4 (.mv (.c .ff)))]) (.seq (.reg [(Qm 5 0),(Qm 6 1),(Qa 7 (.call 149 [(.t 5),(.t 6)])),(Qm 4 7)]) (.ret))
theorem ok195:FnOK Tryz.prog 195 Tryz.f195 e195 [.t 4] 2 6:=⟨by kernel_rfl,⟨_,rfl,by kernel_rfl⟩,by kernel_rfl,by kernel_rfl⟩
noncomputable def Z0b (x1:(List Int)) (x2:Int):Option Bool:=
 (Zya x1 x2).bind fun x3=>
 some x3
theorem k_set_Has (x1:(List Int)) (x2:Int) (r:Bool) (h:Z0b x1 x2=some r):Zp2 Tryz.prog 195 [.sl 1 (List.map Zu4 x1),.iv x2] (.bv r):=by
 refine Zt2 ok195 rfl rfl fun w0 H0=>?_
 rw [Z0b] at h
 refine Zk2 8 ?_;dsimp only [go_sem];refine An ?_;obtain ⟨x3,ex3,h⟩:=Bs h;refine Zy2 trivial (Zza x1 x2 _ ex3) (h:=?_);refine Zk2 2 ?_;dsimp only [go_sem];refine An ?_;exact Zo4 (res:=fun (r:Bool)=>.bv r) ok195 h
set_option maxRecDepth 100000
set_option maxHeartbeats 4000000
@[go_sem] def e196:EC:=.seq (.reg [(Qx 4 66 8 1)]) (.drw [(Qm 6 0),(Qm 7 0),(Qa 8 (.nilchk (.t 7))),(Qf 9 5 8),(Ql 10 9),(Qm 11 0),(Qa 12 (.nilchk (.t 11))),(Qf 13 0 12),(Qf 14 0 13),(Qf 15 0 14),(Ql 16 15),(Qf 17 0 4),(Ql 18 17),(Qm 19 2),(Qf 20 1 4),(Ql 21 20),(Qa 22 (.build [.iv 0,.iv 0,.iv 0] [(0,1,(.t 19)),(1,1,(.t 21))])),(Qa 23 (.build [.iv 0,.iv 0,.iv 0,.iv 0,.iv 0] [(0,1,(.t 16)),(1,1,(.t 18)),(2,3,(.t 22))])),(Qa 24 (.bsl 95 5 1 [.iv 0,.iv 0,.iv 0,.iv 0,.iv 0] [(0,(.t 23))])),(Qa 25 (.app 95 5 40 (.t 10) (.t 24))),(Qa 26 (.nilchk (.t 6))),(Qf 27 5 26),(Qs 1 27 25)] [[],[],[1],[2],[3],[],[5],[6],[7],[8],[9],[],[11],[],[],[14],[13,15],[10,12,16],[17],[4,18],[0,0,1,2,3,4,5,6,7,8,9,10,11,12,13,14,15,16,17,18,19],[20,0,1,2,3,4,5,6,7,8,9,10,11,12,13,14,15,16,17,18,19],[21,19,19,0,1,2,3,4,5,6,7,8,9,10,11,12,13,14,15,16,17,18,19]] [[20],[2],[1,3],[2,4],[3,19],[6],[5,7],[6,8],[7,9],[8,10],[9,17],[12],[11,17],[16],[15],[14,16],[13,15,17],[10,12,16,18],[17,19],[4,18,22],[0,21],[20,22],[19,21]])
theorem ok196:FnOK Tryz.prog 196 Tryz.f196 e196 [] 3 25:=⟨by kernel_rfl,⟨_,rfl,by kernel_rfl⟩,by kernel_rfl,by kernel_rfl⟩
set_option maxRecDepth 100000
set_option maxHeartbeats 4000000
@[go_sem] def e178_L0:EC:=.seq (.reg [(Qa 15 (.bin .lss (.t 14) (.t 13)))]) (.seq (.ite (.t 15) (.skip) (.exit 0)) (.seq (.blk 1 (.seq (.reg [(Qm 16 14),(Qm 3 16)]) (.seq (.reg [(Qm 17 0),(Qa 18 (.nilchk (.t 17))),(Qf 19 0 18),(Qf 20 0 19),(Qf 21 2 20),(Ql 22 21),(Qm 23 3),(Qk 24 8 22 23),(Qm 4 24)]) (.seq (.drw [(Qm 25 0),(Qa 26 (.nilchk (.t 25))),(Qf 27 0 26),(Qf 28 4 27),(Ql 29 28),(Qm 30 4),(Qa 31 (.nilchk (.t 30))),(Qf 32 0 31),(Ql 33 32),(Qa 34 (.call 195 [(.t 29),(.t 33)])),(Qm 5 34)] [[],[0],[1],[2],[3],[],[5],[6],[7],[4,8],[9,9,0,1,2,3,4,5,6,7,8,9]] [[1],[0,2],[1,3],[2,4],[3,9],[6],[5,7],[6,8],[7,9],[4,8,10],[9]]) (.seq (.reg [(Qm 35 5),(Qm 36 35),(Qg 37 36 true (.mv (.t 0))),(Qg 38 36 true (.nilchk (.t 37))),(Qh 39 36 true 0 38),(Qh 40 36 true 3 39),(Qn 41 36 true 40),(Qg 42 36 true (.bin .eql (.t 41) (.c (.iv 2)))),(Qg 43 36 true (.mv (.t 42))),(Qg 44 43 false (.mv (.t 0))),(Qg 45 43 false (.nilchk (.t 44))),(Qh 46 43 false 0 45),(Qh 47 43 false 3 46),(Qn 48 43 false 47),(Qg 49 43 false (.bin .eql (.t 48) (.c (.iv 1)))),(Qg 50 43 false (.mv (.t 49))),(Qg 51 50 true (.mv (.t 4))),(Qg 52 50 true (.nilchk (.t 51))),(Qh 53 50 true 3 52),(Qn 54 50 true 53),(Qg 55 43 false (.pick (.t 50) (.t 54) (.c .ff))),(Qg 56 36 true (.pick (.t 43) (.c .tt) (.t 55))),(Qp 57 36 56),(Qm 6 57)]) (.seq (.seq (.reg [(Qm 58 4),(Qa 59 (.nilchk (.t 58))),(Qf 60 6 59),(Ql 61 60),(Qm 62 61),(Qg 63 62 true (.mv (.t 4))),(Qg 64 62 true (.nilchk (.t 63))),(Qh 65 62 true 7 64),(Qn 66 62 true 65),(Qp 67 62 66),(Qm 68 67),(Qg 69 68 true (.mv (.t 6))),(Qg 70 68 true (.not (.t 69))),(Qp 71 68 70)]) (.ite (.t 71) (.seq (.reg [(Qm 72 4),(Qa 73 (.nilchk (.t 72))),(Qf 74 6 73),(Qb (.store 1 (.t 74) (.c .ff)))]) (.reg [(Qm 75 0),(Qm 76 4),(Qa 77 (.nilchk (.t 76))),(Qe 78 8 77),(Qa 79 (.call 196 [(.t 75),(.t 78),(.c (.iv 3))]))])) (.skip))) (.seq (.seq (.reg [(Qm 80 0),(Qa 81 (.nilchk (.t 80))),(Qf 82 0 81),(Qf 83 3 82),(Ql 84 83),(Qa 85 (.bin .eql (.t 84) (.c (.iv 1)))),(Qm 86 85),(Qg 87 86 true (.mv (.t 5))),(Qp 88 86 87),(Qm 89 88),(Qg 90 89 true (.mv (.t 4))),(Qg 91 89 true (.nilchk (.t 90))),(Qh 92 89 true 7 91),(Qn 93 89 true 92),(Qp 94 89 93),(Qm 95 94),(Qg 96 95 true (.mv (.t 4))),(Qg 97 95 true (.nilchk (.t 96))),(Qh 98 95 true 6 97),(Qn 99 95 true 98),(Qg 100 95 true (.not (.t 99))),(Qp 101 95 100)]) (.ite (.t 101) (.seq (.reg [(Qm 102 4),(Qa 103 (.nilchk (.t 102))),(Qf 104 7 103),(Qb (.store 1 (.t 104) (.c .ff)))]) (.reg [(Qm 105 0),(Qm 106 4),(Qa 107 (.nilchk (.t 106))),(Qe 108 8 107),(Qa 109 (.call 196 [(.t 105),(.t 108),(.c (.iv 4))]))])) (.skip))) (.reg [(Qm 110 2),(Qm 111 110),(Qg 112 111 true (.mv (.t 5))),(Qg 113 111 true (.not (.t 112))),(Qg 114 111 true (.mv (.t 113))),(Qg 115 114 false (.mv (.t 4))),(Qg 116 114 false (.nilchk (.t 115))),(Qh 117 114 false 6 116),(Qn 118 114 false 117),(Qg 119 111 true (.pick (.t 114) (.c .tt) (.t 118))),(Qp 120 111 119),(Qm 2 120)])))))))) (.reg [(Qv 121 14 1),(Qm 14 121)])))
@[go_sem] def e178:EC:=.seq (.reg [(Qa 2 (.mv (.c .tt)))]) (.seq (.seq (.reg [(Qm 7 0),(Qa 8 (.nilchk (.t 7))),(Qf 9 0 8),(Qf 10 0 9),(Qf 11 2 10),(Ql 12 11),(Qa 13 (.len (.t 12))),(Qi 14 0)]) (.blk 0 (.loop e178_L0))) (.seq (.reg [(Qm 122 0),(Qa 123 (.nilchk (.t 122))),(Qf 124 0 123),(Qf 125 3 124),(Ql 126 125),(Qa 127 (.bin .eql (.t 126) (.c (.iv 1)))),(Qm 128 127),(Qg 129 128 true (.mv (.t 2))),(Qp 130 128 129)]) (.ite (.t 130) (.reg [(Qm 131 0),(Qa 132 (.nilchk (.t 131))),(Qf 133 0 132),(Qf 134 3 133),(Qb (.store 1 (.t 134) (.c (.iv 2))))]) (.skip))))
theorem ok178:FnOK Tryz.prog 178 Tryz.f178 e178 [] 1 134:=⟨by kernel_rfl,⟨_,rfl,by kernel_rfl⟩,by kernel_rfl,by kernel_rfl⟩
set_option maxRecDepth 100000
set_option maxHeartbeats 4000000
@[go_sem] def e157:EC:=.seq (.reg [(Qa 2 (.mv (.c (.clo 176 []))))]) (.seq (.blk 0 (.seq (.reg [(Qm 7 0),(Qa 8 (.nilchk (.t 7))),(Qf 9 0 8),(Qf 10 3 9),(Ql 11 10),(Qa 12 (.bin .eql (.t 11) (.c (.iv 1)))),(Qm 13 12),(Qg 14 13 true (.mv (.t 0))),(Qg 15 13 true (.nilchk (.t 14))),(Qh 16 13 true 0 15),(Qh 17 13 true 0 16),(Qh 18 13 true 1 17),(Qn 19 13 true 18),(Qg 20 13 true (.bin .eql (.t 19) (.c (.iv 0)))),(Qp 21 13 20),(Qm 6 21)]) (.ite (.t 6) (.reg [(Qm 22 0),(Qa 23 (.nilchk (.t 22))),(Qf 24 0 23),(Qf 25 0 24),(Qf 26 1 25),(Qb (.store 1 (.t 26) (.c (.iv 1))))]) (.seq (.reg [(Qm 28 0),(Qa 29 (.nilchk (.t 28))),(Qf 30 0 29),(Qf 31 0 30),(Qf 32 1 31),(Ql 33 32),(Qa 34 (.bin .eql (.t 33) (.c (.iv 2)))),(Qm 35 34),(Qg 36 35 true (.mv (.t 0))),(Qg 37 35 true (.nilchk (.t 36))),(Qh 38 35 true 0 37),(Qh 39 35 true 3 38),(Qn 40 35 true 39),(Qg 41 35 true (.bin .neq (.t 40) (.c (.iv 1)))),(Qp 42 35 41),(Qm 43 42),(Qg 44 43 true (.mv (.t 0))),(Qg 45 43 true (.nilchk (.t 44))),(Qh 46 43 true 0 45),(Qh 47 43 true 0 46),(Qh 48 43 true 2 47),(Qn 49 43 true 48),(Qg 50 43 true (.mv (.t 2))),(Qg 51 43 true (.call 99 [(.t 49),(.t 50)])),(Qg 52 43 true (.not (.t 51))),(Qp 53 43 52),(Qm 27 53)]) (.ite (.t 27) (.reg [(Qm 54 0),(Qa 55 (.nilchk (.t 54))),(Qf 56 0 55),(Qf 57 0 56),(Qf 58 1 57),(Qb (.store 1 (.t 58) (.c (.iv 0))))]) (.skip)))))) (.seq (.reg [(Qm 60 0),(Qa 61 (.nilchk (.t 60))),(Qf 62 0 61),(Qf 63 0 62),(Qe 64 3 63),(Qa 65 (.call 177 [(.t 64)])),(Qm 59 65),(Qa 66 (.ext (.t 59) 0)),(Qa 67 (.ext (.t 59) 1)),(Qa 68 (.ext (.t 59) 2)),(Qa 3 (.alloc 61 [.iv 0,.iv 0,.nl])),(Qs 3 3 66),(Qm 4 67),(Qm 5 68)]) (.seq (.reg [(Qm 69 0),(Qe 70 3 3),(Qa 71 (.nilchk (.t 69))),(Qf 72 0 71),(Qf 73 0 72),(Qs 3 73 70)]) (.seq (.reg [(Qm 74 0),(Qm 75 0),(Qa 76 (.nilchk (.t 75))),(Qf 77 5 76),(Ql 78 77),(Qm 79 4),(Qa 80 (.app 95 5 40 (.t 78) (.t 79))),(Qa 81 (.nilchk (.t 74))),(Qf 82 5 81),(Qs 1 82 80)]) (.reg [(Qm 83 0),(Qa 84 (.call 178 [(.t 83)]))])))))
theorem ok157:FnOK Tryz.prog 157 Tryz.f157 e157 [] 1 84:=⟨by kernel_rfl,⟨_,rfl,by kernel_rfl⟩,by kernel_rfl,by kernel_rfl⟩
set_option maxRecDepth 100000
set_option maxHeartbeats 4000000
@[go_sem] def e118:EC:=.seq (.reg [(Qx 2 61 3 0),(Qx 3 61 3 1),(Qa 4 (.mv (.c .ff)))]) (.seq (.reg [(Qf 5 0 2),(Ql 6 5),(Qf 7 0 3),(Ql 8 7),(Qa 9 (.bin .eql (.t 6) (.t 8))),(Qm 10 9),(Qh 11 10 true 1 2),(Qn 12 10 true 11),(Qh 13 10 true 1 3),(Qn 14 10 true 13),(Qg 15 10 true (.bin .eql (.t 12) (.t 14))),(Qp 16 10 15),(Qm 17 16),(Qh 18 17 true 2 2),(Qn 19 17 true 18),(Qh 20 17 true 2 3),(Qn 21 17 true 20),(Qg 22 17 true (.call 146 [(.t 19),(.t 21)])),(Qp 23 17 22),(Qm 4 23)]) (.ret))
theorem ok118:FnOK Tryz.prog 118 Tryz.f118 e118 [.t 4] 2 22:=⟨by kernel_rfl,⟨_,rfl,by kernel_rfl⟩,by kernel_rfl,by kernel_rfl⟩
noncomputable def Z1b:Bool→Option Bool
| x4=>
 some x4
noncomputable def Z2b (x1:Diner) (x2:Diner):Option Bool:=
 ifb (decide (x1.ID=x2.ID)) (
 ifb (decide (x1.Phase=x2.Phase)) (
 (Zt5 x1.Sides x2.Sides).bind fun x3=>
 Z1b x3) (
 Z1b false)) (
 Z1b false)
theorem k_dine_Same (x1:Diner) (x2:Diner) (r:Bool) (h:Z2b x1 x2=some r):Zp2 Tryz.prog 118 [.agg (Diner.row x1),.agg (Diner.row x2)] (.bv r):=by
 refine Zt2 ok118 rfl rfl fun w0 H0=>?_
 rw [Z2b] at h
 refine Zk2 14 ?_;dsimp only [go_sem];refine An ?_;refine Ze4 (fun (x4:Bool)=>(⟨(an 4 (.bv x4::an 19 [])),[],[]⟩:St)) Z1b r ?_ fun J1=>?_
 ·intro x4 h;rw [Z1b] at h;(try dsimp only);exact Zo4 (res:=fun (r:Bool)=>.bv r) ok118 h
 ·refine Zn4 10 h rfl (fun _ h=>?_) fun _ h=>?_
  ·dsimp only [go_sem];refine Zk2 7 ?_;dsimp only [go_sem];refine An ?_;refine Zn4 17 h rfl (fun _ h=>?_) fun _ h=>?_
   ·dsimp only [go_sem];refine Zk2 4 ?_;dsimp only [go_sem];refine An ?_;obtain ⟨x3,ex3,h⟩:=Bs h;refine Zy2 trivial (Zu5 x1.Sides x2.Sides _ ex3) (h:=?_);refine Zk2 3 ?_;dsimp only [go_sem];refine An ?_;exact Zq4 J1 (s:=x3) h
   ·dsimp only [go_sem];refine Zk2 8 ?_;dsimp only [go_sem];refine An ?_;exact Zq4 J1 (s:=false) h
  ·dsimp only [go_sem];refine Zk2 15 ?_;dsimp only [go_sem];refine An ?_;exact Zq4 J1 (s:=false) h
set_option maxRecDepth 100000
set_option maxHeartbeats 4000000
@[go_sem] def e119_L0:EC:=.seq (.reg [(Qa 14 (.bin .lss (.t 13) (.t 12)))]) (.seq (.ite (.t 14) (.skip) (.exit 0)) (.seq (.blk 1 (.seq (.reg [(Qm 15 13),(Qm 5 15)]) (.seq (.drw [(Qm 16 0),(Qm 17 5),(Qk 18 1 16 17),(Ql 19 18),(Qm 20 1),(Qm 21 5),(Qk 22 1 20 21),(Ql 23 22),(Qa 24 (.bin .neq (.t 19) (.t 23)))] [[],[],[0,1],[2],[],[],[4,5],[6],[3,7]] [[2],[2],[0,1,3],[2,8],[6],[6],[4,5,7],[6,8],[3,7]]) (.ite (.t 24) (.seq (.reg [(Qa 4 (.mv (.c .ff)))]) (.ret)) (.skip))))) (.reg [(Qv 25 13 1),(Qm 13 25)])))
@[go_sem] def e119:EC:=.seq (.reg [(Qa 4 (.mv (.c .ff)))]) (.seq (.seq (.reg [(Qm 6 0),(Qa 7 (.len (.t 6))),(Qm 8 1),(Qa 9 (.len (.t 8))),(Qa 10 (.bin .neq (.t 7) (.t 9)))]) (.ite (.t 10) (.seq (.reg [(Qa 4 (.mv (.c .ff)))]) (.ret)) (.skip))) (.seq (.seq (.reg [(Qm 11 0),(Qa 12 (.len (.t 11))),(Qi 13 0)]) (.blk 0 (.loop e119_L0))) (.seq (.reg [(Qa 4 (.mv (.c .tt)))]) (.ret))))
theorem ok119:FnOK Tryz.prog 119 Tryz.f119 e119 [.t 4] 2 24:=⟨by kernel_rfl,⟨_,rfl,by kernel_rfl⟩,by kernel_rfl,by kernel_rfl⟩
noncomputable def Z3b:Unit→Option Bool
| ()=>
 some true
noncomputable def Z4b (x1:(List Int)) (x2:(List Int)):Int→Option (Int ⊕ Bool)
| x6=>
 ifb (decide (x6<(ln Zu4 x1))) (
 (at_ x1 x6).bind fun x7=>
 (at_ x2 x6).bind fun x8=>
 ifb (!decide (x7=x8)) (
 Option.map Sum.inr (some false)) (
 some (.inl (wr (x6+1))))) (
 Option.map Sum.inr (Z3b ()))
noncomputable def Z5b (x1:(List Int)) (x2:(List Int)):Option Bool:=
 ifb (!decide ((ln Zu4 x1)=(ln Zu4 x2))) (
 some false) (
 loop (Z4b x1 x2) 0)
theorem Z6b (x1:(List Int)) (x2:(List Int)) (r:Bool) (h:Z5b x1 x2=some r):Zp2 Tryz.prog 119 [.sl 1 (List.map Zu4 x1),.sl 1 (List.map Zu4 x2)] (.bv r):=by
 refine Zt2 ok119 rfl rfl fun w0 H0=>?_
 rw [Z5b] at h
 refine Zk2 13 ?_;dsimp only [go_sem];refine An ?_;refine Zg4 h rfl (fun _ h=>?_) fun _ h=>?_
 ·refine Zk2 4 ?_;dsimp only [go_sem];refine An ?_;exact Zo4 (res:=fun (r:Bool)=>.bv r) ok119 h
 ·refine Zk2 8 ?_;dsimp only [go_sem];refine An ?_;refine Ze4 (fun (_:Unit)=>(⟨(an 26 []),[],[]⟩:St)) Z3b r ?_ fun J1=>?_
  ·rintro ⟨⟩ h;rw [Z3b] at h;(try dsimp only);refine Zk2 4 ?_;dsimp only [go_sem];refine An ?_;exact Zo4 (res:=fun (r:Bool)=>.bv r) ok119 h
  ·refine Zk2 1 ?_;dsimp only [go_sem];refine An ?_;refine Zf4 h (fun (x6:Int)=>(⟨(.sl 1 (List.map Zu4 x1) :: .sl 1 (List.map Zu4 x2)::an 10 (.iv (ln Zu4 x1) :: .iv x6::an 12 [])),[],[]⟩:St)) (by simp [go_sem]) (by intro x6;first | rfl | simp [go_sem]) ?_;rintro n1 x6 y1 h hin1 hout1;rw [Z4b] at h;(try dsimp only);refine Zk2 5 ?_;dsimp only [go_sem];refine An ?_;refine Zg4 h rfl (fun _ h=>?_) fun _ h=>?_
   ·refine Zk2 9 ?_;dsimp only [go_sem];refine An ?_;refine Zf3 (by kernel_rfl) fun all hall hs hnap haf=>?_;dsimp only [go_sem];refine Z55 hall hs haf hnap 4 5 ?_;dsimp only [go_sem];refine An ?_;obtain ⟨x7,ex7,h⟩:=Bs h;refine Zk4 hall hs haf hnap 2 Zu4 ex7 rfl rfl trivial rfl rfl rfl rfl ?_;refine Z55 hall hs haf hnap 1 3 ?_;dsimp only [go_sem];refine An ?_;obtain ⟨x8,ex8,h⟩:=Bs h;refine Zk4 hall hs haf hnap 6 Zu4 ex8 rfl rfl trivial rfl rfl rfl rfl ?_;refine Z55 hall hs haf hnap 2 0 ?_;dsimp only [go_sem];refine An ?_;refine Zp3 rfl ?_ _
    refine Zg4 h rfl (fun _ h=>?_) fun _ h=>?_
    ·refine Zk2 4 ?_;dsimp only [go_sem];refine An ?_;exact Zo4 (res:=fun (r:Bool)=>.bv r) ok119 (Zd4 h hout1)
    ·refine Zk2 6 ?_;dsimp only [go_sem];refine An ?_;exact Zp4 h hin1
   ·refine Zk2 1 ?_;dsimp only [go_sem];refine An ?_;exact Zq4 J1 (s:=()) (Zd4 h hout1)
set_option maxRecDepth 100000
set_option maxHeartbeats 4000000
@[go_sem] def e68:EC:=.seq (.reg [(Qx 2 63 5 0),(Qx 3 63 5 1),(Qa 4 (.mv (.c .ff)))]) (.seq (.reg [(Qf 5 0 2),(Qe 6 3 5),(Qf 7 0 3),(Qe 8 3 7),(Qa 9 (.call 118 [(.t 6),(.t 8)])),(Qm 10 9),(Qh 11 10 true 3 2),(Qn 12 10 true 11),(Qh 13 10 true 3 3),(Qn 14 10 true 13),(Qg 15 10 true (.bin .eql (.t 12) (.t 14))),(Qp 16 10 15),(Qm 17 16),(Qh 18 17 true 4 2),(Qn 19 17 true 18),(Qh 20 17 true 4 3),(Qn 21 17 true 20),(Qg 22 17 true (.call 119 [(.t 19),(.t 21)])),(Qp 23 17 22),(Qm 4 23)]) (.ret))
theorem ok68:FnOK Tryz.prog 68 Tryz.f68 e68 [.t 4] 2 22:=⟨by kernel_rfl,⟨_,rfl,by kernel_rfl⟩,by kernel_rfl,by kernel_rfl⟩
noncomputable def Z7b:Bool→Option Bool
| x5=>
 some x5
noncomputable def Z8b (x1:Drinker) (x2:Drinker):Option Bool:=
 (Z2b x1.Diner x2.Diner).bind fun x3=>
 ifb x3 (
 ifb (decide (x1.Thirst=x2.Thirst)) (
 (Z5b x1.Need x2.Need).bind fun x4=>
 Z7b x4) (
 Z7b false)) (
 Z7b false)
theorem Z9b (x1:Drinker) (x2:Drinker) (r:Bool) (h:Z8b x1 x2=some r):Zp2 Tryz.prog 68 [.agg (Drinker.row x1),.agg (Drinker.row x2)] (.bv r):=by
 refine Zt2 ok68 rfl rfl fun w0 H0=>?_
 rw [Z8b] at h
 refine Zk2 12 ?_;dsimp only [go_sem];refine An ?_;obtain ⟨x3,ex3,h⟩:=Bs h;refine Zy2 trivial (k_dine_Same x1.Diner x2.Diner _ ex3) (h:=?_);refine Zk2 1 ?_;dsimp only [go_sem];refine An ?_;refine Ze4 (fun (x5:Bool)=>(⟨(an 4 (.bv x5::an 19 [])),[],[]⟩:St)) Z7b r ?_ fun J1=>?_
 ·intro x5 h;rw [Z7b] at h;(try dsimp only);exact Zo4 (res:=fun (r:Bool)=>.bv r) ok68 h
 ·refine Zn4 10 h rfl (fun _ h=>?_) fun _ h=>?_
  ·dsimp only [go_sem];refine Zk2 7 ?_;dsimp only [go_sem];refine An ?_;refine Zn4 17 h rfl (fun _ h=>?_) fun _ h=>?_
   ·dsimp only [go_sem];refine Zk2 4 ?_;dsimp only [go_sem];refine An ?_;obtain ⟨x4,ex4,h⟩:=Bs h;refine Zy2 trivial (Z6b x1.Need x2.Need _ ex4) (h:=?_);refine Zk2 3 ?_;dsimp only [go_sem];refine An ?_;exact Zq4 J1 (s:=x4) h
   ·dsimp only [go_sem];refine Zk2 8 ?_;dsimp only [go_sem];refine An ?_;exact Zq4 J1 (s:=false) h
  ·dsimp only [go_sem];refine Zk2 15 ?_;dsimp only [go_sem];refine An ?_;exact Zq4 J1 (s:=false) h
set_option maxRecDepth 100000
set_option maxHeartbeats 4000000
@[go_sem] def e135_L0:EC:=.blk 1 (.seq (.reg [(Qm 18 6),(Qa 19 (.nilchk (.t 18))),(Qf 20 0 19),(Qe 21 5 20),(Qa 22 (.call 120 [(.t 21)])),(Qa 7 (.alloc 63 [.iv 0,.iv 0,.nl,.iv 0,.nl])),(Qs 5 7 22)]) (.seq (.reg [(Qm 23 6),(Qa 24 (.call 157 [(.t 23)]))]) (.seq (.drw [(Qe 25 5 7),(Qm 26 6),(Qa 27 (.nilchk (.t 26))),(Qf 28 0 27),(Qe 29 5 28),(Qa 30 (.call 68 [(.t 25),(.t 29)]))] [[],[],[1],[2],[3],[0,4]] [[5],[2],[1,3],[2,4],[3,5],[0,4]]) (.ite (.t 30) (.seq (.drw [(Qm 31 6),(Qa 32 (.nilchk (.t 31))),(Qf 33 0 32),(Qe 34 5 33),(Qm 35 6),(Qa 36 (.nilchk (.t 35))),(Qf 37 5 36),(Ql 38 37),(Qs 5 2 34),(Qm 3 38),(Qi 4 0)] [[],[0],[1],[2],[],[4],[5],[6],[3,0,1,2,3],[7,8,0,1,2,3,4,5,6,7,8],[9,0,1,2,3,4,5,6,7,8,9]] [[1],[0,2],[1,3],[2,8],[5],[4,6],[5,7],[6,9],[3],[7],[]]) (.ret)) (.skip)))))
@[go_sem] def e135:EC:=.seq (.reg [(Qx 1 63 5 0),(Qa 2 (.alloc 63 [.iv 0,.iv 0,.nl,.iv 0,.nl])),(Qa 3 (.mv (.c .nl))),(Qi 4 0)]) (.seq (.seq (.reg [(Qe 8 5 1),(Qa 9 (.call 58 [(.t 8)])),(Qm 5 9)]) (.seq (.reg [(Qm 10 5),(Qa 11 (.bin .neq (.t 10) (.c (.iv 0))))]) (.ite (.t 11) (.seq (.reg [(Qa 12 (.build [.iv 0,.iv 0,.nl,.iv 0,.nl] [])),(Qm 13 5),(Qs 5 2 12),(Qa 3 (.mv (.c .nl))),(Qm 4 13)]) (.ret)) (.skip)))) (.seq (.reg [(Qe 14 5 1),(Qa 15 (.call 120 [(.t 14)])),(Qa 16 (.build [.iv 0,.iv 0,.nl,.iv 0,.nl,.nl] [(0,5,(.t 15))])),(Qx 17 188 6 16),(Qm 6 17)]) (.blk 0 (.loop e135_L0))))
theorem ok135:FnOK Tryz.prog 135 Tryz.f135 e135 [.c 2 (some 5),.t 3,.t 4] 1 38:=⟨by kernel_rfl,⟨_,rfl,by kernel_rfl⟩,by kernel_rfl,by kernel_rfl⟩
noncomputable def Zab (x1:Int) (x2:Int) (_x3:Int) (x4:Int) (x5:(List Side)) (x6:(List Mail)):Option (List Mail):=
 (at_ x5 x4).bind fun x7=>
 (Z84 40 x6 ([(Mail.mk x2 x7.Peer ((Msg.mk x1 x7.Epoch 0)))])).bind fun x8=>
 some x8
theorem Zbb (x1:Int) (x2:Int) (x3:Int) (x4:Int) (x5:(List Side)) (x6:(List Mail)) (r:(List Mail)) (h:Zab x1 x2 x3 x4 x5 x6=some r):FunT Tryz.prog 194 [.iv x1,.ptr 6 0,.ptr 4 0,.ptr 7 0] [none,none,none,none,some ⟨61,[.iv x2,.iv x3,.osl 1]⟩,none,some ⟨23,[.osl 2]⟩,some ⟨189,[.oel 1 ((x4).toNat*8) 0]⟩] [none,some ⟨66,8,List.map Side.row x5⟩,some ⟨95,5,List.map Mail.row x6⟩] (.tup []) [none,none,none,none,some ⟨61,[.iv x2,.iv x3,.osl 1]⟩,none,some ⟨23,[.osl 4]⟩,some ⟨189,[.oel 1 ((x4).toNat*8) 0]⟩] [none,some ⟨66,8,List.map Side.row x5⟩,none,none,some ⟨95,5,List.map Mail.row r⟩]:=by
 refine Zj5 Zta rfl rfl rfl (by first | rfl | simp [go_sem]) fun w0 M0=>?_
 rw [Zab] at h
 dsimp only [lun,List.cons_append,List.nil_append]
 refine Zf3 (by kernel_rfl) fun all hall hs hnap haf=>?_;dsimp only [go_sem];refine Z55 hall hs haf hnap 3 14 ?_;dsimp only [go_sem];refine An ?_;refine Zs3 0 3 8 rfl ?_ ?_ ?_
 ·refine Zv3 hall rfl trivial ?_;dsimp only [go_sem];refine Zr3 3 8 rfl ?_ ?_
  ·refine Zv3 hall rfl trivial ?_;dsimp only [go_sem];refine Z55 hall hs haf hnap 2 10 ?_;dsimp only [go_sem];refine An ?_;obtain ⟨x7,ex7,h⟩:=Bs h;refine Zr3 6 8 rfl ?_ ?_
   ·refine Zo5 hall Side.row ex7 rfl trivial rfl rfl rfl ?_;dsimp only [go_sem];refine Zq3 8 rfl ?_;refine Zv3 hall rfl trivial ?_;dsimp only [go_sem];refine Z55 hall hs haf hnap 2 6 ?_;dsimp only [go_sem];refine An ?_;refine Zq3 11 rfl ?_;refine Zo5 hall Side.row ex7 rfl trivial rfl rfl rfl ?_;dsimp only [go_sem];refine Z55 hall hs haf hnap 2 3 ?_;dsimp only [go_sem];refine An ?_;refine Zq3 14 rfl ?_;refine Zv3 hall rfl trivial ?_;dsimp only [go_sem];refine Zq3 15 rfl ?_;obtain ⟨x8,ex8,h⟩:=Bs h
    refine Zm4 Mail.row ex8 hall rfl trivial rfl rfl rfl ?_;dsimp only [go_sem];refine Zq3 16 rfl ?_;refine Zv3 hall rfl trivial ?_;dsimp only [go_sem];refine Zp3 rfl ?_ _;obtain rfl:=Option.some.inj h;exact Zl5 Zta rfl (by simp [go_sem])
   ·refine Zv3 hall rfl trivial ?_;dsimp only [go_sem];refine Z55 hall hs haf hnap 2 7 ?_;dsimp only [go_sem];refine An ?_;refine Zr3 6 11 rfl ?_ ?_
    ·refine Zo5 hall Side.row ex7 rfl trivial rfl rfl rfl ?_;dsimp only [go_sem];refine Zq3 11 rfl ?_;refine Zo5 hall Side.row ex7 rfl trivial rfl rfl rfl ?_;dsimp only [go_sem];refine Z55 hall hs haf hnap 2 3 ?_;dsimp only [go_sem];refine An ?_;refine Zq3 14 rfl ?_;refine Zv3 hall rfl trivial ?_;dsimp only [go_sem];refine Zq3 15 rfl ?_;obtain ⟨x8,ex8,h⟩:=Bs h;refine Zm4 Mail.row ex8 hall rfl trivial rfl rfl rfl ?_;dsimp only [go_sem];refine Zq3 16 rfl ?_;refine Zv3 hall rfl trivial ?_;dsimp only [go_sem];refine Zp3 rfl ?_ _
     obtain rfl:=Option.some.inj h;exact Zl5 Zta rfl (by simp [go_sem])
    ·refine Zo5 hall Side.row ex7 rfl trivial rfl rfl rfl ?_;dsimp only [go_sem];refine Z55 hall hs haf hnap 1 5 ?_;dsimp only [go_sem];refine An ?_;refine Zq3 6 rfl ?_;refine Zo5 hall Side.row ex7 rfl trivial rfl rfl rfl ?_;dsimp only [go_sem];refine Z55 hall hs haf hnap 1 3 ?_;dsimp only [go_sem];refine An ?_;refine Zq3 14 rfl ?_;refine Zv3 hall rfl trivial ?_;dsimp only [go_sem];refine Zq3 15 rfl ?_;obtain ⟨x8,ex8,h⟩:=Bs h;refine Zm4 Mail.row ex8 hall rfl trivial rfl rfl rfl ?_;dsimp only [go_sem];refine Zq3 16 rfl ?_
     refine Zv3 hall rfl trivial ?_;dsimp only [go_sem];refine Zp3 rfl ?_ _;obtain rfl:=Option.some.inj h;exact Zl5 Zta rfl (by simp [go_sem])
  ·refine Zv3 hall rfl trivial ?_;dsimp only [go_sem];refine Z55 hall hs haf hnap 2 10 ?_;dsimp only [go_sem];refine An ?_;obtain ⟨x7,ex7,h⟩:=Bs h;refine Zr3 3 11 rfl ?_ ?_
   ·refine Zv3 hall rfl trivial ?_;dsimp only [go_sem];refine Z55 hall hs haf hnap 2 7 ?_;dsimp only [go_sem];refine An ?_;refine Zr3 6 11 rfl ?_ ?_
    ·refine Zo5 hall Side.row ex7 rfl trivial rfl rfl rfl ?_;dsimp only [go_sem];refine Zq3 11 rfl ?_;refine Zo5 hall Side.row ex7 rfl trivial rfl rfl rfl ?_;dsimp only [go_sem];refine Z55 hall hs haf hnap 2 3 ?_;dsimp only [go_sem];refine An ?_;refine Zq3 14 rfl ?_;refine Zv3 hall rfl trivial ?_;dsimp only [go_sem];refine Zq3 15 rfl ?_;obtain ⟨x8,ex8,h⟩:=Bs h;refine Zm4 Mail.row ex8 hall rfl trivial rfl rfl rfl ?_;dsimp only [go_sem];refine Zq3 16 rfl ?_;refine Zv3 hall rfl trivial ?_;dsimp only [go_sem];refine Zp3 rfl ?_ _
     obtain rfl:=Option.some.inj h;exact Zl5 Zta rfl (by simp [go_sem])
    ·refine Zo5 hall Side.row ex7 rfl trivial rfl rfl rfl ?_;dsimp only [go_sem];refine Z55 hall hs haf hnap 1 5 ?_;dsimp only [go_sem];refine An ?_;refine Zq3 6 rfl ?_;refine Zo5 hall Side.row ex7 rfl trivial rfl rfl rfl ?_;dsimp only [go_sem];refine Z55 hall hs haf hnap 1 3 ?_;dsimp only [go_sem];refine An ?_;refine Zq3 14 rfl ?_;refine Zv3 hall rfl trivial ?_;dsimp only [go_sem];refine Zq3 15 rfl ?_;obtain ⟨x8,ex8,h⟩:=Bs h;refine Zm4 Mail.row ex8 hall rfl trivial rfl rfl rfl ?_;dsimp only [go_sem];refine Zq3 16 rfl ?_
     refine Zv3 hall rfl trivial ?_;dsimp only [go_sem];refine Zp3 rfl ?_ _;obtain rfl:=Option.some.inj h;exact Zl5 Zta rfl (by simp [go_sem])
   ·refine Zo5 hall Side.row ex7 rfl trivial rfl rfl rfl ?_;dsimp only [go_sem];refine Z55 hall hs haf hnap 1 8 ?_;dsimp only [go_sem];refine An ?_;refine Zq3 3 rfl ?_;refine Zv3 hall rfl trivial ?_;dsimp only [go_sem];refine Z55 hall hs haf hnap 2 5 ?_;dsimp only [go_sem];refine An ?_;refine Zq3 6 rfl ?_;refine Zo5 hall Side.row ex7 rfl trivial rfl rfl rfl ?_;dsimp only [go_sem];refine Z55 hall hs haf hnap 1 3 ?_;dsimp only [go_sem];refine An ?_;refine Zq3 14 rfl ?_;refine Zv3 hall rfl trivial ?_;dsimp only [go_sem];refine Zq3 15 rfl ?_
    obtain ⟨x8,ex8,h⟩:=Bs h;refine Zm4 Mail.row ex8 hall rfl trivial rfl rfl rfl ?_;dsimp only [go_sem];refine Zq3 16 rfl ?_;refine Zv3 hall rfl trivial ?_;dsimp only [go_sem];refine Zp3 rfl ?_ _;obtain rfl:=Option.some.inj h;exact Zl5 Zta rfl (by simp [go_sem])
 ·refine Zv3 hall rfl trivial ?_;dsimp only [go_sem];refine Z55 hall hs haf hnap 2 11 ?_;dsimp only [go_sem];refine An ?_;obtain ⟨x7,ex7,h⟩:=Bs h;refine Zs3 0 6 8 rfl ?_ ?_ ?_
  ·refine Zv3 hall rfl trivial ?_;dsimp only [go_sem];refine Zr3 6 8 rfl ?_ ?_
   ·refine Zo5 hall Side.row ex7 rfl trivial rfl rfl rfl ?_;dsimp only [go_sem];refine Zq3 8 rfl ?_;refine Zv3 hall rfl trivial ?_;dsimp only [go_sem];refine Z55 hall hs haf hnap 2 6 ?_;dsimp only [go_sem];refine An ?_;refine Zq3 11 rfl ?_;refine Zo5 hall Side.row ex7 rfl trivial rfl rfl rfl ?_;dsimp only [go_sem];refine Z55 hall hs haf hnap 2 3 ?_;dsimp only [go_sem];refine An ?_;refine Zq3 14 rfl ?_;refine Zv3 hall rfl trivial ?_;dsimp only [go_sem];refine Zq3 15 rfl ?_;obtain ⟨x8,ex8,h⟩:=Bs h
    refine Zm4 Mail.row ex8 hall rfl trivial rfl rfl rfl ?_;dsimp only [go_sem];refine Zq3 16 rfl ?_;refine Zv3 hall rfl trivial ?_;dsimp only [go_sem];refine Zp3 rfl ?_ _;obtain rfl:=Option.some.inj h;exact Zl5 Zta rfl (by simp [go_sem])
   ·refine Zv3 hall rfl trivial ?_;dsimp only [go_sem];refine Z55 hall hs haf hnap 2 7 ?_;dsimp only [go_sem];refine An ?_;refine Zr3 6 11 rfl ?_ ?_
    ·refine Zo5 hall Side.row ex7 rfl trivial rfl rfl rfl ?_;dsimp only [go_sem];refine Zq3 11 rfl ?_;refine Zo5 hall Side.row ex7 rfl trivial rfl rfl rfl ?_;dsimp only [go_sem];refine Z55 hall hs haf hnap 2 3 ?_;dsimp only [go_sem];refine An ?_;refine Zq3 14 rfl ?_;refine Zv3 hall rfl trivial ?_;dsimp only [go_sem];refine Zq3 15 rfl ?_;obtain ⟨x8,ex8,h⟩:=Bs h;refine Zm4 Mail.row ex8 hall rfl trivial rfl rfl rfl ?_;dsimp only [go_sem];refine Zq3 16 rfl ?_;refine Zv3 hall rfl trivial ?_;dsimp only [go_sem];refine Zp3 rfl ?_ _
     obtain rfl:=Option.some.inj h;exact Zl5 Zta rfl (by simp [go_sem])
    ·refine Zo5 hall Side.row ex7 rfl trivial rfl rfl rfl ?_;dsimp only [go_sem];refine Z55 hall hs haf hnap 1 5 ?_;dsimp only [go_sem];refine An ?_;refine Zq3 6 rfl ?_;refine Zo5 hall Side.row ex7 rfl trivial rfl rfl rfl ?_;dsimp only [go_sem];refine Z55 hall hs haf hnap 1 3 ?_;dsimp only [go_sem];refine An ?_;refine Zq3 14 rfl ?_;refine Zv3 hall rfl trivial ?_;dsimp only [go_sem];refine Zq3 15 rfl ?_;obtain ⟨x8,ex8,h⟩:=Bs h;refine Zm4 Mail.row ex8 hall rfl trivial rfl rfl rfl ?_;dsimp only [go_sem];refine Zq3 16 rfl ?_
     refine Zv3 hall rfl trivial ?_;dsimp only [go_sem];refine Zp3 rfl ?_ _;obtain rfl:=Option.some.inj h;exact Zl5 Zta rfl (by simp [go_sem])
  ·refine Zo5 hall Side.row ex7 rfl trivial rfl rfl rfl ?_;dsimp only [go_sem];refine Zr3 0 8 rfl ?_ ?_
   ·refine Zv3 hall rfl trivial ?_;dsimp only [go_sem];refine Zq3 8 rfl ?_;refine Zv3 hall rfl trivial ?_;dsimp only [go_sem];refine Z55 hall hs haf hnap 2 6 ?_;dsimp only [go_sem];refine An ?_;refine Zq3 11 rfl ?_;refine Zo5 hall Side.row ex7 rfl trivial rfl rfl rfl ?_;dsimp only [go_sem];refine Z55 hall hs haf hnap 2 3 ?_;dsimp only [go_sem];refine An ?_;refine Zq3 14 rfl ?_;refine Zv3 hall rfl trivial ?_;dsimp only [go_sem];refine Zq3 15 rfl ?_;obtain ⟨x8,ex8,h⟩:=Bs h;refine Zm4 Mail.row ex8 hall rfl trivial rfl rfl rfl ?_
    dsimp only [go_sem];refine Zq3 16 rfl ?_;refine Zv3 hall rfl trivial ?_;dsimp only [go_sem];refine Zp3 rfl ?_ _;obtain rfl:=Option.some.inj h;exact Zl5 Zta rfl (by simp [go_sem])
   ·refine Zv3 hall rfl trivial ?_;dsimp only [go_sem];refine Z55 hall hs haf hnap 2 7 ?_;dsimp only [go_sem];refine An ?_;refine Zr3 0 11 rfl ?_ ?_
    ·refine Zv3 hall rfl trivial ?_;dsimp only [go_sem];refine Zq3 11 rfl ?_;refine Zo5 hall Side.row ex7 rfl trivial rfl rfl rfl ?_;dsimp only [go_sem];refine Z55 hall hs haf hnap 2 3 ?_;dsimp only [go_sem];refine An ?_;refine Zq3 14 rfl ?_;refine Zv3 hall rfl trivial ?_;dsimp only [go_sem];refine Zq3 15 rfl ?_;obtain ⟨x8,ex8,h⟩:=Bs h;refine Zm4 Mail.row ex8 hall rfl trivial rfl rfl rfl ?_;dsimp only [go_sem];refine Zq3 16 rfl ?_;refine Zv3 hall rfl trivial ?_;dsimp only [go_sem];refine Zp3 rfl ?_ _;obtain rfl:=Option.some.inj h
     exact Zl5 Zta rfl (by simp [go_sem])
    ·refine Zo5 hall Side.row ex7 rfl trivial rfl rfl rfl ?_;dsimp only [go_sem];refine Z55 hall hs haf hnap 2 4 ?_;dsimp only [go_sem];refine An ?_;refine Zr3 0 14 rfl ?_ ?_
     ·refine Zv3 hall rfl trivial ?_;dsimp only [go_sem];refine Zq3 14 rfl ?_;refine Zv3 hall rfl trivial ?_;dsimp only [go_sem];refine Zq3 15 rfl ?_;obtain ⟨x8,ex8,h⟩:=Bs h;refine Zm4 Mail.row ex8 hall rfl trivial rfl rfl rfl ?_;dsimp only [go_sem];refine Zq3 16 rfl ?_;refine Zv3 hall rfl trivial ?_;dsimp only [go_sem];refine Zp3 rfl ?_ _;obtain rfl:=Option.some.inj h;exact Zl5 Zta rfl (by simp [go_sem])
     ·refine Zv3 hall rfl trivial ?_;dsimp only [go_sem];refine Zq3 0 rfl ?_;refine Zv3 hall rfl trivial ?_;dsimp only [go_sem];refine Zq3 15 rfl ?_;obtain ⟨x8,ex8,h⟩:=Bs h;refine Zm4 Mail.row ex8 hall rfl trivial rfl rfl rfl ?_;dsimp only [go_sem];refine Zq3 16 rfl ?_;refine Zv3 hall rfl trivial ?_;dsimp only [go_sem];refine Zp3 rfl ?_ _;obtain rfl:=Option.some.inj h;exact Zl5 Zta rfl (by simp [go_sem])
  ·refine Zv3 hall rfl trivial ?_;dsimp only [go_sem];refine Z55 hall hs haf hnap 2 8 ?_;dsimp only [go_sem];refine An ?_;refine Zs3 0 6 11 rfl ?_ ?_ ?_
   ·refine Zv3 hall rfl trivial ?_;dsimp only [go_sem];refine Zr3 6 11 rfl ?_ ?_
    ·refine Zo5 hall Side.row ex7 rfl trivial rfl rfl rfl ?_;dsimp only [go_sem];refine Zq3 11 rfl ?_;refine Zo5 hall Side.row ex7 rfl trivial rfl rfl rfl ?_;dsimp only [go_sem];refine Z55 hall hs haf hnap 2 3 ?_;dsimp only [go_sem];refine An ?_;refine Zq3 14 rfl ?_;refine Zv3 hall rfl trivial ?_;dsimp only [go_sem];refine Zq3 15 rfl ?_;obtain ⟨x8,ex8,h⟩:=Bs h;refine Zm4 Mail.row ex8 hall rfl trivial rfl rfl rfl ?_;dsimp only [go_sem];refine Zq3 16 rfl ?_;refine Zv3 hall rfl trivial ?_;dsimp only [go_sem];refine Zp3 rfl ?_ _
     obtain rfl:=Option.some.inj h;exact Zl5 Zta rfl (by simp [go_sem])
    ·refine Zo5 hall Side.row ex7 rfl trivial rfl rfl rfl ?_;dsimp only [go_sem];refine Z55 hall hs haf hnap 1 5 ?_;dsimp only [go_sem];refine An ?_;refine Zq3 6 rfl ?_;refine Zo5 hall Side.row ex7 rfl trivial rfl rfl rfl ?_;dsimp only [go_sem];refine Z55 hall hs haf hnap 1 3 ?_;dsimp only [go_sem];refine An ?_;refine Zq3 14 rfl ?_;refine Zv3 hall rfl trivial ?_;dsimp only [go_sem];refine Zq3 15 rfl ?_;obtain ⟨x8,ex8,h⟩:=Bs h;refine Zm4 Mail.row ex8 hall rfl trivial rfl rfl rfl ?_;dsimp only [go_sem];refine Zq3 16 rfl ?_
     refine Zv3 hall rfl trivial ?_;dsimp only [go_sem];refine Zp3 rfl ?_ _;obtain rfl:=Option.some.inj h;exact Zl5 Zta rfl (by simp [go_sem])
   ·refine Zo5 hall Side.row ex7 rfl trivial rfl rfl rfl ?_;dsimp only [go_sem];refine Zr3 0 11 rfl ?_ ?_
    ·refine Zv3 hall rfl trivial ?_;dsimp only [go_sem];refine Zq3 11 rfl ?_;refine Zo5 hall Side.row ex7 rfl trivial rfl rfl rfl ?_;dsimp only [go_sem];refine Z55 hall hs haf hnap 2 3 ?_;dsimp only [go_sem];refine An ?_;refine Zq3 14 rfl ?_;refine Zv3 hall rfl trivial ?_;dsimp only [go_sem];refine Zq3 15 rfl ?_;obtain ⟨x8,ex8,h⟩:=Bs h;refine Zm4 Mail.row ex8 hall rfl trivial rfl rfl rfl ?_;dsimp only [go_sem];refine Zq3 16 rfl ?_;refine Zv3 hall rfl trivial ?_;dsimp only [go_sem];refine Zp3 rfl ?_ _;obtain rfl:=Option.some.inj h
     exact Zl5 Zta rfl (by simp [go_sem])
    ·refine Zo5 hall Side.row ex7 rfl trivial rfl rfl rfl ?_;dsimp only [go_sem];refine Z55 hall hs haf hnap 2 4 ?_;dsimp only [go_sem];refine An ?_;refine Zr3 0 14 rfl ?_ ?_
     ·refine Zv3 hall rfl trivial ?_;dsimp only [go_sem];refine Zq3 14 rfl ?_;refine Zv3 hall rfl trivial ?_;dsimp only [go_sem];refine Zq3 15 rfl ?_;obtain ⟨x8,ex8,h⟩:=Bs h;refine Zm4 Mail.row ex8 hall rfl trivial rfl rfl rfl ?_;dsimp only [go_sem];refine Zq3 16 rfl ?_;refine Zv3 hall rfl trivial ?_;dsimp only [go_sem];refine Zp3 rfl ?_ _;obtain rfl:=Option.some.inj h;exact Zl5 Zta rfl (by simp [go_sem])
     ·refine Zv3 hall rfl trivial ?_;dsimp only [go_sem];refine Zq3 0 rfl ?_;refine Zv3 hall rfl trivial ?_;dsimp only [go_sem];refine Zq3 15 rfl ?_;obtain ⟨x8,ex8,h⟩:=Bs h;refine Zm4 Mail.row ex8 hall rfl trivial rfl rfl rfl ?_;dsimp only [go_sem];refine Zq3 16 rfl ?_;refine Zv3 hall rfl trivial ?_;dsimp only [go_sem];refine Zp3 rfl ?_ _;obtain rfl:=Option.some.inj h;exact Zl5 Zta rfl (by simp [go_sem])
   ·refine Zo5 hall Side.row ex7 rfl trivial rfl rfl rfl ?_;dsimp only [go_sem];refine Z55 hall hs haf hnap 1 6 ?_;dsimp only [go_sem];refine An ?_;refine Zr3 0 6 rfl ?_ ?_
    ·refine Zv3 hall rfl trivial ?_;dsimp only [go_sem];refine Zq3 6 rfl ?_;refine Zo5 hall Side.row ex7 rfl trivial rfl rfl rfl ?_;dsimp only [go_sem];refine Z55 hall hs haf hnap 1 3 ?_;dsimp only [go_sem];refine An ?_;refine Zq3 14 rfl ?_;refine Zv3 hall rfl trivial ?_;dsimp only [go_sem];refine Zq3 15 rfl ?_;obtain ⟨x8,ex8,h⟩:=Bs h;refine Zm4 Mail.row ex8 hall rfl trivial rfl rfl rfl ?_;dsimp only [go_sem];refine Zq3 16 rfl ?_;refine Zv3 hall rfl trivial ?_;dsimp only [go_sem];refine Zp3 rfl ?_ _;obtain rfl:=Option.some.inj h
     exact Zl5 Zta rfl (by simp [go_sem])
    ·refine Zo5 hall Side.row ex7 rfl trivial rfl rfl rfl ?_;dsimp only [go_sem];refine Z55 hall hs haf hnap 1 4 ?_;dsimp only [go_sem];refine An ?_;refine Zr3 0 14 rfl ?_ ?_
     ·refine Zv3 hall rfl trivial ?_;dsimp only [go_sem];refine Zq3 14 rfl ?_;refine Zv3 hall rfl trivial ?_;dsimp only [go_sem];refine Zq3 15 rfl ?_;obtain ⟨x8,ex8,h⟩:=Bs h;refine Zm4 Mail.row ex8 hall rfl trivial rfl rfl rfl ?_;dsimp only [go_sem];refine Zq3 16 rfl ?_;refine Zv3 hall rfl trivial ?_;dsimp only [go_sem];refine Zp3 rfl ?_ _;obtain rfl:=Option.some.inj h;exact Zl5 Zta rfl (by simp [go_sem])
     ·refine Zv3 hall rfl trivial ?_;dsimp only [go_sem];refine Zq3 0 rfl ?_;refine Zv3 hall rfl trivial ?_;dsimp only [go_sem];refine Zq3 15 rfl ?_;obtain ⟨x8,ex8,h⟩:=Bs h;refine Zm4 Mail.row ex8 hall rfl trivial rfl rfl rfl ?_;dsimp only [go_sem];refine Zq3 16 rfl ?_;refine Zv3 hall rfl trivial ?_;dsimp only [go_sem];refine Zp3 rfl ?_ _;obtain rfl:=Option.some.inj h;exact Zl5 Zta rfl (by simp [go_sem])
 ·refine Zv3 hall rfl trivial ?_;dsimp only [go_sem];refine Z55 hall hs haf hnap 2 11 ?_;dsimp only [go_sem];refine An ?_;obtain ⟨x7,ex7,h⟩:=Bs h;refine Zs3 0 3 11 rfl ?_ ?_ ?_
  ·refine Zv3 hall rfl trivial ?_;dsimp only [go_sem];refine Zr3 3 11 rfl ?_ ?_
   ·refine Zv3 hall rfl trivial ?_;dsimp only [go_sem];refine Z55 hall hs haf hnap 2 7 ?_;dsimp only [go_sem];refine An ?_;refine Zr3 6 11 rfl ?_ ?_
    ·refine Zo5 hall Side.row ex7 rfl trivial rfl rfl rfl ?_;dsimp only [go_sem];refine Zq3 11 rfl ?_;refine Zo5 hall Side.row ex7 rfl trivial rfl rfl rfl ?_;dsimp only [go_sem];refine Z55 hall hs haf hnap 2 3 ?_;dsimp only [go_sem];refine An ?_;refine Zq3 14 rfl ?_;refine Zv3 hall rfl trivial ?_;dsimp only [go_sem];refine Zq3 15 rfl ?_;obtain ⟨x8,ex8,h⟩:=Bs h;refine Zm4 Mail.row ex8 hall rfl trivial rfl rfl rfl ?_;dsimp only [go_sem];refine Zq3 16 rfl ?_;refine Zv3 hall rfl trivial ?_;dsimp only [go_sem];refine Zp3 rfl ?_ _
     obtain rfl:=Option.some.inj h;exact Zl5 Zta rfl (by simp [go_sem])
    ·refine Zo5 hall Side.row ex7 rfl trivial rfl rfl rfl ?_;dsimp only [go_sem];refine Z55 hall hs haf hnap 1 5 ?_;dsimp only [go_sem];refine An ?_;refine Zq3 6 rfl ?_;refine Zo5 hall Side.row ex7 rfl trivial rfl rfl rfl ?_;dsimp only [go_sem];refine Z55 hall hs haf hnap 1 3 ?_;dsimp only [go_sem];refine An ?_;refine Zq3 14 rfl ?_;refine Zv3 hall rfl trivial ?_;dsimp only [go_sem];refine Zq3 15 rfl ?_;obtain ⟨x8,ex8,h⟩:=Bs h;refine Zm4 Mail.row ex8 hall rfl trivial rfl rfl rfl ?_;dsimp only [go_sem];refine Zq3 16 rfl ?_
     refine Zv3 hall rfl trivial ?_;dsimp only [go_sem];refine Zp3 rfl ?_ _;obtain rfl:=Option.some.inj h;exact Zl5 Zta rfl (by simp [go_sem])
   ·refine Zo5 hall Side.row ex7 rfl trivial rfl rfl rfl ?_;dsimp only [go_sem];refine Z55 hall hs haf hnap 1 8 ?_;dsimp only [go_sem];refine An ?_;refine Zq3 3 rfl ?_;refine Zv3 hall rfl trivial ?_;dsimp only [go_sem];refine Z55 hall hs haf hnap 2 5 ?_;dsimp only [go_sem];refine An ?_;refine Zq3 6 rfl ?_;refine Zo5 hall Side.row ex7 rfl trivial rfl rfl rfl ?_;dsimp only [go_sem];refine Z55 hall hs haf hnap 1 3 ?_;dsimp only [go_sem];refine An ?_;refine Zq3 14 rfl ?_;refine Zv3 hall rfl trivial ?_;dsimp only [go_sem];refine Zq3 15 rfl ?_
    obtain ⟨x8,ex8,h⟩:=Bs h;refine Zm4 Mail.row ex8 hall rfl trivial rfl rfl rfl ?_;dsimp only [go_sem];refine Zq3 16 rfl ?_;refine Zv3 hall rfl trivial ?_;dsimp only [go_sem];refine Zp3 rfl ?_ _;obtain rfl:=Option.some.inj h;exact Zl5 Zta rfl (by simp [go_sem])
  ·refine Zv3 hall rfl trivial ?_;dsimp only [go_sem];refine Z55 hall hs haf hnap 2 8 ?_;dsimp only [go_sem];refine An ?_;refine Zs3 0 6 11 rfl ?_ ?_ ?_
   ·refine Zv3 hall rfl trivial ?_;dsimp only [go_sem];refine Zr3 6 11 rfl ?_ ?_
    ·refine Zo5 hall Side.row ex7 rfl trivial rfl rfl rfl ?_;dsimp only [go_sem];refine Zq3 11 rfl ?_;refine Zo5 hall Side.row ex7 rfl trivial rfl rfl rfl ?_;dsimp only [go_sem];refine Z55 hall hs haf hnap 2 3 ?_;dsimp only [go_sem];refine An ?_;refine Zq3 14 rfl ?_;refine Zv3 hall rfl trivial ?_;dsimp only [go_sem];refine Zq3 15 rfl ?_;obtain ⟨x8,ex8,h⟩:=Bs h;refine Zm4 Mail.row ex8 hall rfl trivial rfl rfl rfl ?_;dsimp only [go_sem];refine Zq3 16 rfl ?_;refine Zv3 hall rfl trivial ?_;dsimp only [go_sem];refine Zp3 rfl ?_ _
     obtain rfl:=Option.some.inj h;exact Zl5 Zta rfl (by simp [go_sem])
    ·refine Zo5 hall Side.row ex7 rfl trivial rfl rfl rfl ?_;dsimp only [go_sem];refine Z55 hall hs haf hnap 1 5 ?_;dsimp only [go_sem];refine An ?_;refine Zq3 6 rfl ?_;refine Zo5 hall Side.row ex7 rfl trivial rfl rfl rfl ?_;dsimp only [go_sem];refine Z55 hall hs haf hnap 1 3 ?_;dsimp only [go_sem];refine An ?_;refine Zq3 14 rfl ?_;refine Zv3 hall rfl trivial ?_;dsimp only [go_sem];refine Zq3 15 rfl ?_;obtain ⟨x8,ex8,h⟩:=Bs h;refine Zm4 Mail.row ex8 hall rfl trivial rfl rfl rfl ?_;dsimp only [go_sem];refine Zq3 16 rfl ?_
     refine Zv3 hall rfl trivial ?_;dsimp only [go_sem];refine Zp3 rfl ?_ _;obtain rfl:=Option.some.inj h;exact Zl5 Zta rfl (by simp [go_sem])
   ·refine Zo5 hall Side.row ex7 rfl trivial rfl rfl rfl ?_;dsimp only [go_sem];refine Zr3 0 11 rfl ?_ ?_
    ·refine Zv3 hall rfl trivial ?_;dsimp only [go_sem];refine Zq3 11 rfl ?_;refine Zo5 hall Side.row ex7 rfl trivial rfl rfl rfl ?_;dsimp only [go_sem];refine Z55 hall hs haf hnap 2 3 ?_;dsimp only [go_sem];refine An ?_;refine Zq3 14 rfl ?_;refine Zv3 hall rfl trivial ?_;dsimp only [go_sem];refine Zq3 15 rfl ?_;obtain ⟨x8,ex8,h⟩:=Bs h;refine Zm4 Mail.row ex8 hall rfl trivial rfl rfl rfl ?_;dsimp only [go_sem];refine Zq3 16 rfl ?_;refine Zv3 hall rfl trivial ?_;dsimp only [go_sem];refine Zp3 rfl ?_ _;obtain rfl:=Option.some.inj h
     exact Zl5 Zta rfl (by simp [go_sem])
    ·refine Zo5 hall Side.row ex7 rfl trivial rfl rfl rfl ?_;dsimp only [go_sem];refine Z55 hall hs haf hnap 2 4 ?_;dsimp only [go_sem];refine An ?_;refine Zr3 0 14 rfl ?_ ?_
     ·refine Zv3 hall rfl trivial ?_;dsimp only [go_sem];refine Zq3 14 rfl ?_;refine Zv3 hall rfl trivial ?_;dsimp only [go_sem];refine Zq3 15 rfl ?_;obtain ⟨x8,ex8,h⟩:=Bs h;refine Zm4 Mail.row ex8 hall rfl trivial rfl rfl rfl ?_;dsimp only [go_sem];refine Zq3 16 rfl ?_;refine Zv3 hall rfl trivial ?_;dsimp only [go_sem];refine Zp3 rfl ?_ _;obtain rfl:=Option.some.inj h;exact Zl5 Zta rfl (by simp [go_sem])
     ·refine Zv3 hall rfl trivial ?_;dsimp only [go_sem];refine Zq3 0 rfl ?_;refine Zv3 hall rfl trivial ?_;dsimp only [go_sem];refine Zq3 15 rfl ?_;obtain ⟨x8,ex8,h⟩:=Bs h;refine Zm4 Mail.row ex8 hall rfl trivial rfl rfl rfl ?_;dsimp only [go_sem];refine Zq3 16 rfl ?_;refine Zv3 hall rfl trivial ?_;dsimp only [go_sem];refine Zp3 rfl ?_ _;obtain rfl:=Option.some.inj h;exact Zl5 Zta rfl (by simp [go_sem])
   ·refine Zo5 hall Side.row ex7 rfl trivial rfl rfl rfl ?_;dsimp only [go_sem];refine Z55 hall hs haf hnap 1 6 ?_;dsimp only [go_sem];refine An ?_;refine Zr3 0 6 rfl ?_ ?_
    ·refine Zv3 hall rfl trivial ?_;dsimp only [go_sem];refine Zq3 6 rfl ?_;refine Zo5 hall Side.row ex7 rfl trivial rfl rfl rfl ?_;dsimp only [go_sem];refine Z55 hall hs haf hnap 1 3 ?_;dsimp only [go_sem];refine An ?_;refine Zq3 14 rfl ?_;refine Zv3 hall rfl trivial ?_;dsimp only [go_sem];refine Zq3 15 rfl ?_;obtain ⟨x8,ex8,h⟩:=Bs h;refine Zm4 Mail.row ex8 hall rfl trivial rfl rfl rfl ?_;dsimp only [go_sem];refine Zq3 16 rfl ?_;refine Zv3 hall rfl trivial ?_;dsimp only [go_sem];refine Zp3 rfl ?_ _;obtain rfl:=Option.some.inj h
     exact Zl5 Zta rfl (by simp [go_sem])
    ·refine Zo5 hall Side.row ex7 rfl trivial rfl rfl rfl ?_;dsimp only [go_sem];refine Z55 hall hs haf hnap 1 4 ?_;dsimp only [go_sem];refine An ?_;refine Zr3 0 14 rfl ?_ ?_
     ·refine Zv3 hall rfl trivial ?_;dsimp only [go_sem];refine Zq3 14 rfl ?_;refine Zv3 hall rfl trivial ?_;dsimp only [go_sem];refine Zq3 15 rfl ?_;obtain ⟨x8,ex8,h⟩:=Bs h;refine Zm4 Mail.row ex8 hall rfl trivial rfl rfl rfl ?_;dsimp only [go_sem];refine Zq3 16 rfl ?_;refine Zv3 hall rfl trivial ?_;dsimp only [go_sem];refine Zp3 rfl ?_ _;obtain rfl:=Option.some.inj h;exact Zl5 Zta rfl (by simp [go_sem])
     ·refine Zv3 hall rfl trivial ?_;dsimp only [go_sem];refine Zq3 0 rfl ?_;refine Zv3 hall rfl trivial ?_;dsimp only [go_sem];refine Zq3 15 rfl ?_;obtain ⟨x8,ex8,h⟩:=Bs h;refine Zm4 Mail.row ex8 hall rfl trivial rfl rfl rfl ?_;dsimp only [go_sem];refine Zq3 16 rfl ?_;refine Zv3 hall rfl trivial ?_;dsimp only [go_sem];refine Zp3 rfl ?_ _;obtain rfl:=Option.some.inj h;exact Zl5 Zta rfl (by simp [go_sem])
  ·refine Zo5 hall Side.row ex7 rfl trivial rfl rfl rfl ?_;dsimp only [go_sem];refine Z55 hall hs haf hnap 1 9 ?_;dsimp only [go_sem];refine An ?_;refine Zr3 0 3 rfl ?_ ?_
   ·refine Zv3 hall rfl trivial ?_;dsimp only [go_sem];refine Zq3 3 rfl ?_;refine Zv3 hall rfl trivial ?_;dsimp only [go_sem];refine Z55 hall hs haf hnap 2 5 ?_;dsimp only [go_sem];refine An ?_;refine Zq3 6 rfl ?_;refine Zo5 hall Side.row ex7 rfl trivial rfl rfl rfl ?_;dsimp only [go_sem];refine Z55 hall hs haf hnap 1 3 ?_;dsimp only [go_sem];refine An ?_;refine Zq3 14 rfl ?_;refine Zv3 hall rfl trivial ?_;dsimp only [go_sem];refine Zq3 15 rfl ?_;obtain ⟨x8,ex8,h⟩:=Bs h;refine Zm4 Mail.row ex8 hall rfl trivial rfl rfl rfl ?_
    dsimp only [go_sem];refine Zq3 16 rfl ?_;refine Zv3 hall rfl trivial ?_;dsimp only [go_sem];refine Zp3 rfl ?_ _;obtain rfl:=Option.some.inj h;exact Zl5 Zta rfl (by simp [go_sem])
   ·refine Zv3 hall rfl trivial ?_;dsimp only [go_sem];refine Z55 hall hs haf hnap 2 6 ?_;dsimp only [go_sem];refine An ?_;refine Zr3 0 6 rfl ?_ ?_
    ·refine Zv3 hall rfl trivial ?_;dsimp only [go_sem];refine Zq3 6 rfl ?_;refine Zo5 hall Side.row ex7 rfl trivial rfl rfl rfl ?_;dsimp only [go_sem];refine Z55 hall hs haf hnap 1 3 ?_;dsimp only [go_sem];refine An ?_;refine Zq3 14 rfl ?_;refine Zv3 hall rfl trivial ?_;dsimp only [go_sem];refine Zq3 15 rfl ?_;obtain ⟨x8,ex8,h⟩:=Bs h;refine Zm4 Mail.row ex8 hall rfl trivial rfl rfl rfl ?_;dsimp only [go_sem];refine Zq3 16 rfl ?_;refine Zv3 hall rfl trivial ?_;dsimp only [go_sem];refine Zp3 rfl ?_ _;obtain rfl:=Option.some.inj h
     exact Zl5 Zta rfl (by simp [go_sem])
    ·refine Zo5 hall Side.row ex7 rfl trivial rfl rfl rfl ?_;dsimp only [go_sem];refine Z55 hall hs haf hnap 1 4 ?_;dsimp only [go_sem];refine An ?_;refine Zr3 0 14 rfl ?_ ?_
     ·refine Zv3 hall rfl trivial ?_;dsimp only [go_sem];refine Zq3 14 rfl ?_;refine Zv3 hall rfl trivial ?_;dsimp only [go_sem];refine Zq3 15 rfl ?_;obtain ⟨x8,ex8,h⟩:=Bs h;refine Zm4 Mail.row ex8 hall rfl trivial rfl rfl rfl ?_;dsimp only [go_sem];refine Zq3 16 rfl ?_;refine Zv3 hall rfl trivial ?_;dsimp only [go_sem];refine Zp3 rfl ?_ _;obtain rfl:=Option.some.inj h;exact Zl5 Zta rfl (by simp [go_sem])
     ·refine Zv3 hall rfl trivial ?_;dsimp only [go_sem];refine Zq3 0 rfl ?_;refine Zv3 hall rfl trivial ?_;dsimp only [go_sem];refine Zq3 15 rfl ?_;obtain ⟨x8,ex8,h⟩:=Bs h;refine Zm4 Mail.row ex8 hall rfl trivial rfl rfl rfl ?_;dsimp only [go_sem];refine Zq3 16 rfl ?_;refine Zv3 hall rfl trivial ?_;dsimp only [go_sem];refine Zp3 rfl ?_ _;obtain rfl:=Option.some.inj h;exact Zl5 Zta rfl (by simp [go_sem])
noncomputable def Zcb (x1:Diner) (x50:(List Mail)):(Int×(List Side))→Option (Int×Int×Int×(List Side)×(List Mail))
| (x65,x66)=>
 some (x1.ID,x65,0,x66,x50)
noncomputable def Zdb (x1:Diner) (x49:(List Side)) (x50:(List Mail)):(Int×(List Side))→Option ((Int×(List Side)) ⊕ (Int×Int×Int×(List Side)×(List Mail)))
| (x55,x56)=>
 ifb (decide (x55<(ln Side.row x49))) (
 (at_ x56 x55).bind fun x57=>
 some (.inl (wr (x55+1),x56.set (x55).toNat ((Side.mk x57.Peer x57.Epoch x57.State x57.Fork true x57.Token x57.Bottle x57.Ask))))) (
 Option.map Sum.inr ((Zcb x1 x50) (2,x56)))
noncomputable def Zeb (x1:Diner) (x49:(List Side)) (x50:(List Mail)):Bool→Option (Int×Int×Int×(List Side)×(List Mail))
| x51=>
 ifb x51 (
 loop (Zdb x1 x49 x50) (0,x49)) (
 (Zcb x1 x50) (x1.Phase,x49))
noncomputable def Zfb (x1:Diner):(Bool×(List Side)×(List Mail))→Option (Int×Int×Int×(List Side)×(List Mail))
| (x48,x49,x50)=>
 ifb (decide (x1.Phase=1)) (
 (Zeb x1 x49 x50) x48) (
 (Zeb x1 x49 x50) false)
noncomputable def Zgb (x21:Int) (x33:(List Side)) (x34:(List Mail)):Bool→Option ((Bool×Int×(List Side)×(List Mail)) ⊕ (Int×Int×Int×(List Side)×(List Mail)))
| x36=>
 some (.inl (x36,wr (x21+1),x33,x34))
noncomputable def Zhb (x20:Bool) (x21:Int):((List Side)×(List Mail))→Option ((Bool×Int×(List Side)×(List Mail)) ⊕ (Int×Int×Int×(List Side)×(List Mail)))
| (x33,x34)=>
 ifb x20 (
 (at_ x33 x21).bind fun x35=>
 (Zgb x21 x33 x34) x35.Fork) (
 (Zgb x21 x33 x34) false)
noncomputable def Zib (x1:Diner) (x20:Bool) (x21:Int) (x27:(List Side)) (x28:(List Mail)):Bool→Option ((Bool×Int×(List Side)×(List Mail)) ⊕ (Int×Int×Int×(List Side)×(List Mail)))
| x30=>
 ifb x30 (
 (at_ x27 x21).bind fun x31=>
 (Zab 2 x1.ID x1.Phase x21 (x27.set (x21).toNat ((Side.mk x31.Peer x31.Epoch x31.State x31.Fork x31.Dirty false x31.Bottle x31.Ask))) x28).bind fun x32=>
 (Zhb x20 x21) ((x27.set (x21).toNat ((Side.mk x31.Peer x31.Epoch x31.State x31.Fork x31.Dirty false x31.Bottle x31.Ask))),x32)) (
 (Zhb x20 x21) (x27,x28))
noncomputable def Zjb (x1:Diner) (x20:Bool) (x21:Int):((List Side)×(List Mail))→Option ((Bool×Int×(List Side)×(List Mail)) ⊕ (Int×Int×Int×(List Side)×(List Mail)))
| (x27,x28)=>
 ifb (decide (x1.Phase=1)) (
 (at_ x27 x21).bind fun x29=>
 ifb x29.Token (
 (Zib x1 x20 x21 x27 x28) (!x29.Fork)) (
 (Zib x1 x20 x21 x27 x28) false)) (
 (Zib x1 x20 x21 x27 x28) false)
noncomputable def Zkb (x1:Diner) (x20:Bool) (x21:Int) (x22:(List Side)) (x23:(List Mail)) (x24:Side):Bool→Option ((Bool×Int×(List Side)×(List Mail)) ⊕ (Int×Int×Int×(List Side)×(List Mail)))
| x25=>
 ifb x25 (
 (Zab 1 x1.ID x1.Phase x21 (x22.set (x21).toNat ((Side.mk x24.Peer x24.Epoch x24.State false false x24.Token x24.Bottle x24.Ask))) x23).bind fun x26=>
 (Zjb x1 x20 x21) ((x22.set (x21).toNat ((Side.mk x24.Peer x24.Epoch x24.State false false x24.Token x24.Bottle x24.Ask))),x26)) (
 (Zjb x1 x20 x21) (x22,x23))
noncomputable def Zlb (x1:Diner) (x3:(List Side)):(Bool×Int×(List Side)×(List Mail))→Option ((Bool×Int×(List Side)×(List Mail)) ⊕ (Int×Int×Int×(List Side)×(List Mail)))
| (x20,x21,x22,x23)=>
 ifb (decide (x21<(ln Side.row x3))) (
 (at_ x22 x21).bind fun x24=>
 ifb x24.Fork (
 ifb x24.Dirty (
 ifb x24.Token (
 (Zkb x1 x20 x21 x22 x23 x24) (!decide (x1.Phase=2))) (
 (Zkb x1 x20 x21 x22 x23 x24) false)) (
 (Zkb x1 x20 x21 x22 x23 x24) false)) (
 (Zkb x1 x20 x21 x22 x23 x24) false)) (
 Option.map Sum.inr ((Zfb x1) (x20,x22,x23)))
noncomputable def Zmb (x1:Diner):Option (Int×Int×Int×(List Side)×(List Mail)):=
 (Zj9 x1).bind fun x2=>
 ifb (!decide (x2=0)) (
 some (0,0,x2,([]:List Side),([]:List Mail))) (
 (Zn9 x1.Sides).bind fun x3=>
 loop (Zlb x1 x3) (true,0,x3,([]:List Mail)))
theorem Znb (x1:Diner) (r:(Int×Int×Int×(List Side)×(List Mail))) (h:Zmb x1=some r):FunT Tryz.prog 177 [.agg [.iv x1.ID,.iv x1.Phase,.sl 8 (List.map Side.row x1.Sides)]] [none,none,none,none] [none] (.tup [.agg [.iv r.1,.iv r.2.1,.osl 1],.osl 2,.iv r.2.2.1]) [none,none,none,none] [none,some ⟨66,8,List.map Side.row r.2.2.2.1⟩,some ⟨95,5,List.map Mail.row r.2.2.2.2⟩]:=by
 refine Zj5 ok177 rfl rfl rfl (by first | rfl | simp [go_sem]) fun w0 M0=>?_
 rw [Zmb] at h
 dsimp only [lun,List.cons_append,List.nil_append]
 refine Zk2 11 ?_;dsimp only [go_sem];refine An ?_;obtain ⟨x2,ex2,h⟩:=Bs h;refine Zy2 trivial (Zk9 x1 _ ex2) (h:=?_);refine Zk2 7 ?_;dsimp only [go_sem];refine An ?_;refine Zg4 h rfl (fun _ h=>?_) fun _ h=>?_
 ·refine Zk2 8 ?_;dsimp only [go_sem];refine An ?_;refine Z24 5 2 66 8 rfl rfl rfl ?_;dsimp only [go_sem];refine V_own 3 95 5 rfl rfl ?_;dsimp only [go_sem];obtain rfl:=Option.some.inj h;exact Zk5 ok177 rfl (by simp [go_sem])
 ·refine Zk2 5 ?_;dsimp only [go_sem];refine An ?_;obtain ⟨x3,ex3,h⟩:=Bs h;refine Z35 trivial (Zo9 x1.Sides _ ex3) (h:=?_);refine Zk2 19 ?_;dsimp only [go_sem];refine An ?_
  refine Ze4 (fun ((x48,x49,x50):(Bool×(List Side)×(List Mail)))=>(⟨(.any :: .ptr 4 0 :: .ptr 5 0::an 3 (.ptr 6 0 :: .bv x48::an 104 [])),[none,none,none,none,some ⟨61,[.iv x1.ID,.iv x1.Phase,.osl 1]⟩,some ⟨61,[.iv 0,.iv 0,.nl]⟩,some ⟨23,[.osl 2]⟩],[none,some ⟨66,8,List.map Side.row x49⟩,some ⟨95,5,List.map Mail.row x50⟩]⟩:St)) (Zfb x1) r ?_ fun J1=>?_
  ·rintro ⟨x48,x49,x50⟩ h;rw [Zfb] at h;(try dsimp only);refine Zk2 7 ?_;dsimp only [go_sem];refine An ?_;refine Ze4 (fun (x51:Bool)=>(⟨(.any :: .ptr 4 0 :: .ptr 5 0::an 3 (.ptr 6 0::an 89 (.bv x51::an 15 []))),[none,none,none,none,some ⟨61,[.iv x1.ID,.iv x1.Phase,.osl 1]⟩,some ⟨61,[.iv 0,.iv 0,.nl]⟩,some ⟨23,[.osl 2]⟩],[none,some ⟨66,8,List.map Side.row x49⟩,some ⟨95,5,List.map Mail.row x50⟩]⟩:St)) (Zeb x1 x49 x50) r ?_ fun J7=>?_
   ·intro x51 h;rw [Zeb] at h;(try dsimp only);refine Ze4 (fun ((x65,x66):(Int×(List Side)))=>(⟨(.any :: .ptr 4 0 :: .ptr 5 0::an 3 (.ptr 6 0::an 105 [])),[none,none,none,none,some ⟨61,[.iv x1.ID,.iv x65,.osl 1]⟩,some ⟨61,[.iv 0,.iv 0,.nl]⟩,some ⟨23,[.osl 2]⟩],[none,some ⟨66,8,List.map Side.row x66⟩,some ⟨95,5,List.map Mail.row x50⟩]⟩:St)) (Zcb x1 x50) r ?_ fun J8=>?_
    ·rintro ⟨x65,x66⟩ h;rw [Zcb] at h;(try dsimp only);refine Zk2 1 ?_;dsimp only [go_sem];refine An ?_;refine Zf3 (by kernel_rfl) fun all hall hs hnap haf=>?_;dsimp only [go_sem];refine Zr3 0 1 rfl ?_ ?_
     ·refine Zv3 hall rfl trivial ?_;dsimp only [go_sem];refine Zr3 1 2 rfl ?_ ?_
      ·refine Zv3 hall rfl trivial ?_;dsimp only [go_sem];refine Zq3 2 rfl ?_;refine Zv3 hall rfl trivial ?_;dsimp only [go_sem];refine Z55 hall hs haf hnap 2 0 ?_;dsimp only [go_sem];refine An ?_;refine Zp3 rfl ?_ _;obtain rfl:=Option.some.inj h;exact Zk5 ok177 rfl (by simp [go_sem])
      ·refine Zv3 hall rfl trivial ?_;dsimp only [go_sem];refine Zq3 1 rfl ?_;refine Zv3 hall rfl trivial ?_;dsimp only [go_sem];refine Z55 hall hs haf hnap 2 0 ?_;dsimp only [go_sem];refine An ?_;refine Zp3 rfl ?_ _;obtain rfl:=Option.some.inj h;exact Zk5 ok177 rfl (by simp [go_sem])
     ·refine Zv3 hall rfl trivial ?_;dsimp only [go_sem];refine Zq3 0 rfl ?_;refine Zv3 hall rfl trivial ?_;dsimp only [go_sem];refine Zq3 2 rfl ?_;refine Zv3 hall rfl trivial ?_;dsimp only [go_sem];refine Z55 hall hs haf hnap 2 0 ?_;dsimp only [go_sem];refine An ?_;refine Zp3 rfl ?_ _;obtain rfl:=Option.some.inj h;exact Zk5 ok177 rfl (by simp [go_sem])
    ·refine Zg4 h rfl (fun _ h=>?_) fun _ h=>?_
     ·refine Zk2 13 ?_;dsimp only [go_sem];refine An ?_;refine Zf4 h (fun ((x55,x56):(Int×(List Side)))=>(⟨(.any :: .ptr 4 0 :: .ptr 5 0::an 3 (.ptr 6 0::an 93 (.iv (ln Side.row x49) :: .iv x55::an 10 []))),[none,none,none,none,some ⟨61,[.iv x1.ID,.iv 2,.osl 1]⟩,some ⟨61,[.iv 0,.iv 0,.nl]⟩,some ⟨23,[.osl 2]⟩],[none,some ⟨66,8,List.map Side.row x56⟩,some ⟨95,5,List.map Mail.row x50⟩]⟩:St)) (by simp [go_sem]) (by rintro ⟨x55,x56⟩;first | rfl | simp [go_sem]) ?_;rintro n1 ⟨x55,x56⟩ y1 h hin1 hout1;rw [Zdb] at h
      (try dsimp only);refine Zk2 5 ?_;dsimp only [go_sem];refine An ?_;refine Zg4 h rfl (fun _ h=>?_) fun _ h=>?_
      ·refine Zk2 12 ?_;dsimp only [go_sem];refine An ?_;obtain ⟨x57,ex57,h⟩:=Bs h;refine Z85 Side.row ex57 trivial rfl rfl rfl ?_;refine Zk2 1 ?_;dsimp only [go_sem];refine An ?_;refine Ze5 [.bv true] Side.row (y':=(Side.mk x57.Peer x57.Epoch x57.State x57.Fork true x57.Token x57.Bottle x57.Ask)) ex57 trivial rfl rfl rfl (by first | exact Z74 _ | simp [go_sem]) rfl rfl rfl rfl ?_;refine Zk2 6 ?_;dsimp only [go_sem];refine An ?_;exact Zp4 h hin1
      ·refine Zk2 1 ?_;dsimp only [go_sem];refine An ?_;exact Zq4 J8 (s:=(2,x56)) (Zd4 h hout1)
     ·refine Zk2 1 ?_;dsimp only [go_sem];refine An ?_;exact Zq4 J8 (s:=(x1.Phase,x49)) h
   ·refine Zn4 94 h rfl (fun _ h=>?_) fun _ h=>?_
    ·dsimp only [go_sem];refine Zk2 3 ?_;dsimp only [go_sem];refine An ?_;exact Zq4 J7 (s:=x48) h
    ·dsimp only [go_sem];refine Zk2 3 ?_;dsimp only [go_sem];refine An ?_;exact Zq4 J7 (s:=false) h
  ·refine Zk2 1 ?_;dsimp only [go_sem];refine An ?_;refine Z24 6 0 95 5 rfl rfl rfl ?_;dsimp only [go_sem]
   refine Zf4 h (fun ((x20,x21,x22,x23):(Bool×Int×(List Side)×(List Mail)))=>(⟨(.any :: .ptr 4 0 :: .ptr 5 0::an 3 (.ptr 6 0 :: .bv x20::an 16 (.iv (ln Side.row x3) :: .iv x21::an 86 []))),[none,none,none,none,some ⟨61,[.iv x1.ID,.iv x1.Phase,.osl 1]⟩,some ⟨61,[.iv 0,.iv 0,.nl]⟩,some ⟨23,[.osl 2]⟩],[none,some ⟨66,8,List.map Side.row x22⟩,some ⟨95,5,List.map Mail.row x23⟩]⟩:St)) (by simp [go_sem]) (by rintro ⟨x20,x21,x22,x23⟩;first | rfl | simp [go_sem]) ?_;rintro n1 ⟨x20,x21,x22,x23⟩ y1 h hin1 hout1;rw [Zlb] at h
   (try dsimp only);refine Zk2 5 ?_;dsimp only [go_sem];refine An ?_;refine Zg4 h rfl (fun _ h=>?_) fun _ h=>?_
   ·refine Zk2 13 ?_;dsimp only [go_sem];refine An ?_;obtain ⟨x24,ex24,h⟩:=Bs h;refine Z85 Side.row ex24 trivial rfl rfl rfl ?_;refine Zk2 14 ?_;dsimp only [go_sem];refine An ?_;refine Z95 Side.row ex24 trivial rfl rfl rfl ?_;refine Zk2 1 ?_;dsimp only [go_sem];refine An ?_
    refine Ze4 (fun (x25:Bool)=>(⟨(.any :: .ptr 4 0 :: .ptr 5 0::an 3 (.ptr 6 0 :: .bv x20 :: .any :: .ptr 7 0 :: .clo 194 [.ptr 6 0,.ptr 4 0,.ptr 7 0]::an 13 (.iv (ln Side.row x3) :: .iv x21::an 27 (.bv x25::an 58 [])))),[none,none,none,none,some ⟨61,[.iv x1.ID,.iv x1.Phase,.osl 1]⟩,some ⟨61,[.iv 0,.iv 0,.nl]⟩,some ⟨23,[.osl 2]⟩,some ⟨189,[.oel 1 ((x21).toNat*8) 0]⟩],[none,some ⟨66,8,List.map Side.row x22⟩,some ⟨95,5,List.map Mail.row x23⟩]⟩:St)) (Zkb x1 x20 x21 x22 x23 x24) y1 ?_ fun J2=>?_
    ·intro x25 h;rw [Zkb] at h;(try dsimp only)
     refine Ze4 (fun ((x27,x28):((List Side)×(List Mail)))=>(⟨(.any :: .ptr 4 0 :: .ptr 5 0::an 3 (.ptr 6 0 :: .bv x20 :: .any :: .ptr 7 0 :: .clo 194 [.ptr 6 0,.ptr 4 0,.ptr 7 0]::an 13 (.iv (ln Side.row x3) :: .iv x21::an 86 []))),[none,none,none,none,some ⟨61,[.iv x1.ID,.iv x1.Phase,.osl 1]⟩,some ⟨61,[.iv 0,.iv 0,.nl]⟩,some ⟨23,[.osl 2]⟩,some ⟨189,[.oel 1 ((x21).toNat*8) 0]⟩],[none,some ⟨66,8,List.map Side.row x27⟩,some ⟨95,5,List.map Mail.row x28⟩]⟩:St)) (Zjb x1 x20 x21) y1 ?_ fun J3=>?_
     ·rintro ⟨x27,x28⟩ h;rw [Zjb] at h;(try dsimp only);refine Zk2 7 ?_;dsimp only [go_sem];refine An ?_
      refine Ze4 (fun (x30:Bool)=>(⟨(.any :: .ptr 4 0 :: .ptr 5 0::an 3 (.ptr 6 0 :: .bv x20 :: .any :: .ptr 7 0 :: .clo 194 [.ptr 6 0,.ptr 4 0,.ptr 7 0]::an 13 (.iv (ln Side.row x3) :: .iv x21::an 51 (.bv x30::an 34 [])))),[none,none,none,none,some ⟨61,[.iv x1.ID,.iv x1.Phase,.osl 1]⟩,some ⟨61,[.iv 0,.iv 0,.nl]⟩,some ⟨23,[.osl 2]⟩,some ⟨189,[.oel 1 ((x21).toNat*8) 0]⟩],[none,some ⟨66,8,List.map Side.row x27⟩,some ⟨95,5,List.map Mail.row x28⟩]⟩:St)) (Zib x1 x20 x21 x27 x28) y1 ?_ fun J4=>?_
      ·intro x30 h;rw [Zib] at h;(try dsimp only)
       refine Ze4 (fun ((x33,x34):((List Side)×(List Mail)))=>(⟨(.any :: .ptr 4 0 :: .ptr 5 0::an 3 (.ptr 6 0 :: .bv x20 :: .any :: .ptr 7 0::an 14 (.iv (ln Side.row x3) :: .iv x21::an 86 []))),[none,none,none,none,some ⟨61,[.iv x1.ID,.iv x1.Phase,.osl 1]⟩,some ⟨61,[.iv 0,.iv 0,.nl]⟩,some ⟨23,[.osl 2]⟩,some ⟨189,[.oel 1 ((x21).toNat*8) 0]⟩],[none,some ⟨66,8,List.map Side.row x33⟩,some ⟨95,5,List.map Mail.row x34⟩]⟩:St)) (Zhb x20 x21) y1 ?_ fun J5=>?_
       ·rintro ⟨x33,x34⟩ h;rw [Zhb] at h;(try dsimp only);refine Zk2 3 ?_;dsimp only [go_sem];refine An ?_;refine Ze4 (fun (x36:Bool)=>(⟨(.any :: .ptr 4 0 :: .ptr 5 0::an 3 (.ptr 6 0 :: .bv x36::an 16 (.iv (ln Side.row x3) :: .iv x21::an 86 []))),[none,none,none,none,some ⟨61,[.iv x1.ID,.iv x1.Phase,.osl 1]⟩,some ⟨61,[.iv 0,.iv 0,.nl]⟩,some ⟨23,[.osl 2]⟩],[none,some ⟨66,8,List.map Side.row x33⟩,some ⟨95,5,List.map Mail.row x34⟩]⟩:St)) (Zgb x21 x33 x34) y1 ?_ fun J6=>?_
        ·intro x36 h;rw [Zgb] at h;(try dsimp only);refine Zk2 5 ?_;dsimp only [go_sem];refine An ?_;exact Zp4 h hin1
        ·refine Zn4 84 h rfl (fun _ h=>?_) fun _ h=>?_
         ·dsimp only [go_sem];refine Zk2 3 ?_;dsimp only [go_sem];refine An ?_;obtain ⟨x35,ex35,h⟩:=Bs h;refine Z95 Side.row ex35 trivial rfl rfl rfl ?_;refine Zk2 3 ?_;dsimp only [go_sem];refine An ?_;exact Zq4 J6 (s:=x35.Fork) h
         ·dsimp only [go_sem];refine Zk2 7 ?_;dsimp only [go_sem];refine An ?_;exact Zq4 J6 (s:=false) h
       ·refine Zg4 h rfl (fun _ h=>?_) fun _ h=>?_
        ·refine Zk2 5 ?_;dsimp only [go_sem];refine An ?_;obtain ⟨x31,ex31,h⟩:=Bs h;refine Ze5 [.bv false] Side.row (y':=(Side.mk x31.Peer x31.Epoch x31.State x31.Fork x31.Dirty false x31.Bottle x31.Ask)) ex31 trivial rfl rfl rfl (by first | exact Z74 _ | simp [go_sem]) rfl rfl rfl rfl ?_;refine Zk2 3 ?_;dsimp only [go_sem];refine An ?_;obtain ⟨x32,ex32,h⟩:=Bs h
         refine Zn5 [false,false,false,false,true,false,true,true] [false,true,true] trivial rfl (Zbb 2 x1.ID x1.Phase x21 (x27.set (x21).toNat ((Side.mk x31.Peer x31.Epoch x31.State x31.Fork x31.Dirty false x31.Bottle x31.Ask))) x28 _ ex32) (by kernel_rfl) (h:=?_);dsimp only [go_sem];refine Zk2 1 ?_;dsimp only [go_sem];refine An ?_;refine Z14 4 2 rfl rfl rfl ?_;dsimp only [go_sem];exact Zq4 J5 (s:=((x27.set (x21).toNat ((Side.mk x31.Peer x31.Epoch x31.State x31.Fork x31.Dirty false x31.Bottle x31.Ask))),x32)) h
        ·refine Zk2 1 ?_;dsimp only [go_sem];refine An ?_;exact Zq4 J5 (s:=(x27,x28)) h
      ·refine Zn4 65 h rfl (fun _ h=>?_) fun _ h=>?_
       ·dsimp only [go_sem];refine Zk2 3 ?_;dsimp only [go_sem];refine An ?_;obtain ⟨x29,ex29,h⟩:=Bs h;refine Z95 Side.row ex29 trivial rfl rfl rfl ?_;refine Zk2 2 ?_;dsimp only [go_sem];refine An ?_;refine Zn4 71 h rfl (fun _ h=>?_) fun _ h=>?_
        ·dsimp only [go_sem];refine Zk2 3 ?_;dsimp only [go_sem];refine An ?_;refine Z95 Side.row ex29 trivial rfl rfl rfl ?_;refine Zk2 3 ?_;dsimp only [go_sem];refine An ?_;exact Zq4 J4 (s:=!x29.Fork) h
        ·dsimp only [go_sem];refine Zk2 7 ?_;dsimp only [go_sem];refine An ?_;exact Zq4 J4 (s:=false) h
       ·dsimp only [go_sem];refine Zk2 13 ?_;dsimp only [go_sem];refine An ?_;exact Zq4 J4 (s:=false) h
     ·refine Zg4 h rfl (fun _ h=>?_) fun _ h=>?_
      ·refine Zk2 1 ?_;dsimp only [go_sem];refine An ?_;refine Zf3 (by kernel_rfl) fun all hall hs hnap haf=>?_;dsimp only [go_sem];refine Zr3 0 1 rfl ?_ ?_
       ·refine Zv3 hall rfl trivial ?_;dsimp only [go_sem];refine Z55 hall hs haf hnap 2 5 ?_;dsimp only [go_sem];refine An ?_;refine Zr3 1 4 rfl ?_ ?_
        ·refine Zv3 hall rfl trivial ?_;dsimp only [go_sem];refine Zq3 4 rfl ?_;refine Zp5 hall [.bv false] Side.row (y':=(Side.mk x24.Peer x24.Epoch x24.State false x24.Dirty x24.Token x24.Bottle x24.Ask)) ex24 rfl trivial rfl rfl rfl (by first | exact Z74 _ | simp [go_sem]) rfl rfl rfl rfl ?_;dsimp only [go_sem];refine Z55 hall hs haf hnap 2 1 ?_;dsimp only [go_sem];refine An ?_;refine Zq3 7 rfl ?_
         refine Zq5 hall [.bv false] Side.row (y':=(Side.mk x24.Peer x24.Epoch x24.State false false x24.Token x24.Bottle x24.Ask)) (at_set ex24) rfl trivial rfl rfl rfl (by first | exact Z74 _ | simp [go_sem]) rfl rfl rfl rfl ?_;dsimp only [go_sem];refine Zp3 rfl ?_ _;refine Zk2 2 ?_;dsimp only [go_sem];refine An ?_;obtain ⟨x26,ex26,h⟩:=Bs h
         refine Zn5 [false,false,false,false,true,false,true,true] [false,true,true] trivial rfl (Zbb 1 x1.ID x1.Phase x21 (x22.set (x21).toNat ((Side.mk x24.Peer x24.Epoch x24.State false false x24.Token x24.Bottle x24.Ask))) x23 _ ex26) (by kernel_rfl) (h:=?_);dsimp only [go_sem];refine Zk2 1 ?_;dsimp only [go_sem];refine An ?_;refine Z14 4 2 rfl rfl rfl ?_;dsimp only [go_sem];exact Zq4 J3 (s:=((x22.set (x21).toNat ((Side.mk x24.Peer x24.Epoch x24.State false false x24.Token x24.Bottle x24.Ask))),x26)) h
        ·refine Zp5 hall [.bv false] Side.row (y':=(Side.mk x24.Peer x24.Epoch x24.State false x24.Dirty x24.Token x24.Bottle x24.Ask)) ex24 rfl trivial rfl rfl rfl (by first | exact Z74 _ | simp [go_sem]) rfl rfl rfl rfl ?_;dsimp only [go_sem];refine Zq3 1 rfl ?_;refine Zv3 hall rfl trivial ?_;dsimp only [go_sem];refine Z55 hall hs haf hnap 2 1 ?_;dsimp only [go_sem];refine An ?_;refine Zq3 7 rfl ?_
         refine Zq5 hall [.bv false] Side.row (y':=(Side.mk x24.Peer x24.Epoch x24.State false false x24.Token x24.Bottle x24.Ask)) (at_set ex24) rfl trivial rfl rfl rfl (by first | exact Z74 _ | simp [go_sem]) rfl rfl rfl rfl ?_;dsimp only [go_sem];refine Zp3 rfl ?_ _;refine Zk2 2 ?_;dsimp only [go_sem];refine An ?_;obtain ⟨x26,ex26,h⟩:=Bs h
         refine Zn5 [false,false,false,false,true,false,true,true] [false,true,true] trivial rfl (Zbb 1 x1.ID x1.Phase x21 (x22.set (x21).toNat ((Side.mk x24.Peer x24.Epoch x24.State false false x24.Token x24.Bottle x24.Ask))) x23 _ ex26) (by kernel_rfl) (h:=?_);dsimp only [go_sem];refine Zk2 1 ?_;dsimp only [go_sem];refine An ?_;refine Z14 4 2 rfl rfl rfl ?_;dsimp only [go_sem];exact Zq4 J3 (s:=((x22.set (x21).toNat ((Side.mk x24.Peer x24.Epoch x24.State false false x24.Token x24.Bottle x24.Ask))),x26)) h
       ·refine Zv3 hall rfl trivial ?_;dsimp only [go_sem];refine Zq3 0 rfl ?_;refine Zv3 hall rfl trivial ?_;dsimp only [go_sem];refine Z55 hall hs haf hnap 2 4 ?_;dsimp only [go_sem];refine An ?_;refine Zq3 4 rfl ?_;refine Zp5 hall [.bv false] Side.row (y':=(Side.mk x24.Peer x24.Epoch x24.State false x24.Dirty x24.Token x24.Bottle x24.Ask)) ex24 rfl trivial rfl rfl rfl (by first | exact Z74 _ | simp [go_sem]) rfl rfl rfl rfl ?_;dsimp only [go_sem];refine Z55 hall hs haf hnap 2 1 ?_;dsimp only [go_sem];refine An ?_;refine Zq3 7 rfl ?_
        refine Zq5 hall [.bv false] Side.row (y':=(Side.mk x24.Peer x24.Epoch x24.State false false x24.Token x24.Bottle x24.Ask)) (at_set ex24) rfl trivial rfl rfl rfl (by first | exact Z74 _ | simp [go_sem]) rfl rfl rfl rfl ?_;dsimp only [go_sem];refine Zp3 rfl ?_ _;refine Zk2 2 ?_;dsimp only [go_sem];refine An ?_;obtain ⟨x26,ex26,h⟩:=Bs h
        refine Zn5 [false,false,false,false,true,false,true,true] [false,true,true] trivial rfl (Zbb 1 x1.ID x1.Phase x21 (x22.set (x21).toNat ((Side.mk x24.Peer x24.Epoch x24.State false false x24.Token x24.Bottle x24.Ask))) x23 _ ex26) (by kernel_rfl) (h:=?_);dsimp only [go_sem];refine Zk2 1 ?_;dsimp only [go_sem];refine An ?_;refine Z14 4 2 rfl rfl rfl ?_;dsimp only [go_sem];exact Zq4 J3 (s:=((x22.set (x21).toNat ((Side.mk x24.Peer x24.Epoch x24.State false false x24.Token x24.Bottle x24.Ask))),x26)) h
      ·refine Zk2 1 ?_;dsimp only [go_sem];refine An ?_;exact Zq4 J3 (s:=(x22,x23)) h
    ·refine Zn4 37 h rfl (fun _ h=>?_) fun _ h=>?_
     ·dsimp only [go_sem];refine Zk2 3 ?_;dsimp only [go_sem];refine An ?_;refine Z95 Side.row ex24 trivial rfl rfl rfl ?_;refine Zk2 2 ?_;dsimp only [go_sem];refine An ?_;refine Zn4 43 h rfl (fun _ h=>?_) fun _ h=>?_
      ·dsimp only [go_sem];refine Zk2 3 ?_;dsimp only [go_sem];refine An ?_;refine Z95 Side.row ex24 trivial rfl rfl rfl ?_;refine Zk2 2 ?_;dsimp only [go_sem];refine An ?_;refine Zn4 49 h rfl (fun _ h=>?_) fun _ h=>?_
       ·dsimp only [go_sem];refine Zk2 5 ?_;dsimp only [go_sem];refine An ?_;exact Zq4 J2 (s:=!decide (x1.Phase=2)) h
       ·dsimp only [go_sem];refine Zk2 5 ?_;dsimp only [go_sem];refine An ?_;exact Zq4 J2 (s:=false) h
      ·dsimp only [go_sem];refine Zk2 11 ?_;dsimp only [go_sem];refine An ?_;exact Zq4 J2 (s:=false) h
     ·dsimp only [go_sem];refine Zk2 17 ?_;dsimp only [go_sem];refine An ?_;exact Zq4 J2 (s:=false) h
   ·refine Zk2 1 ?_;dsimp only [go_sem];refine An ?_;exact Zq4 J1 (s:=(x20,x22,x23)) (Zd4 h hout1)
noncomputable def Zob (x1:Side) (x2:Int) (x3:Int) (_x4:Int) (_x5:Int) (_x6:(List Int)) (_x7:(List Side)) (x8:(List Mail)):Option (List Mail):=
 (Z84 40 x8 ([(Mail.mk x3 x1.Peer ((Msg.mk x2 x1.Epoch 0)))])).bind fun x9=>
 some x9
theorem Zpb (x1:Side) (x2:Int) (x3:Int) (x4:Int) (x5:Int) (x6:(List Int)) (x7:(List Side)) (x8:(List Mail)) (r:(List Mail)) (h:Zob x1 x2 x3 x4 x5 x6 x7 x8=some r):FunT Tryz.prog 196 [.ptr 2 0,.agg [.iv x1.Peer,.iv x1.Epoch,.iv x1.State,.bv x1.Fork,.bv x1.Dirty,.bv x1.Token,.bv x1.Bottle,.bv x1.Ask],.iv x2] [none,none,some ⟨188,[.iv x3,.iv x4,.osl 1,.iv x5,.sl 1 (List.map Zu4 x6),.osl 5]⟩,none,none] [none,some ⟨66,8,List.map Side.row x7⟩,none,none,none,some ⟨95,5,List.map Mail.row x8⟩] (.tup []) [none,none,some ⟨188,[.iv x3,.iv x4,.osl 1,.iv x5,.sl 1 (List.map Zu4 x6),.osl 7]⟩,none,none] [none,some ⟨66,8,List.map Side.row x7⟩,none,none,none,none,none,some ⟨95,5,List.map Mail.row r⟩]:=by
 refine Zj5 ok196 rfl rfl rfl (by first | rfl | simp [go_sem]) fun w0 M0=>?_
 rw [Zob] at h
 dsimp only [lun,List.cons_append,List.nil_append]
 refine Zk2 4 ?_;dsimp only [go_sem];refine An ?_;refine Zf3 (by kernel_rfl) fun all hall hs hnap haf=>?_;dsimp only [go_sem];refine Z65 hall hs haf hnap 17 6 [4,1,13,5] [(6,[.ptr 2 0,.ptr 2 0,.ptr 2 0,.ptr 2 5]),(1,[.ptr 2 0,.ptr 2 0,.ptr 2 0,.ptr 2 0,.ptr 2 0,.iv x3,.ptr 5 0,.iv x1.Peer,.iv x2,.ptr 5 1,.iv x1.Epoch,.agg [.iv x2,.iv x1.Epoch,.iv 0],.agg [.iv x3,.iv x1.Peer,.iv x2,.iv x1.Epoch,.iv 0]])] (by kernel_rfl) ?_;dsimp only [go_sem];refine Zr3 4 18 rfl ?_ ?_
 ·refine Zv3 hall rfl trivial ?_;dsimp only [go_sem];refine Zq3 18 rfl ?_;refine Zv3 hall rfl trivial ?_;dsimp only [go_sem];refine Zq3 19 rfl ?_;obtain ⟨x9,ex9,h⟩:=Bs h;refine Zm4 Mail.row ex9 hall rfl trivial rfl rfl rfl ?_;dsimp only [go_sem];refine Z55 hall hs haf hnap 2 1 ?_;dsimp only [go_sem];refine An ?_;refine Zq3 22 rfl ?_;refine Zv3 hall rfl trivial ?_;dsimp only [go_sem];refine Zp3 rfl ?_ _;obtain rfl:=Option.some.inj h;exact Zl5 ok196 rfl (by simp [go_sem])
 ·refine Zv3 hall rfl trivial ?_;dsimp only [go_sem];refine Zq3 4 rfl ?_;refine Zv3 hall rfl trivial ?_;dsimp only [go_sem];refine Zq3 19 rfl ?_;obtain ⟨x9,ex9,h⟩:=Bs h;refine Zm4 Mail.row ex9 hall rfl trivial rfl rfl rfl ?_;dsimp only [go_sem];refine Z55 hall hs haf hnap 2 1 ?_;dsimp only [go_sem];refine An ?_;refine Zq3 22 rfl ?_;refine Zv3 hall rfl trivial ?_;dsimp only [go_sem];refine Zp3 rfl ?_ _;obtain rfl:=Option.some.inj h;exact Zl5 ok196 rfl (by simp [go_sem])
noncomputable def Zqb (x59:(List Side)) (x60:(List Mail)):Int→Option (Int×(List Side)×(List Mail))
| x62=>
 some (x62,x59,x60)
noncomputable def Zrb (x3:Int) (x59:(List Side)) (x60:(List Mail)):Bool→Option (Int×(List Side)×(List Mail))
| x61=>
 ifb x61 (
 (Zqb x59 x60) 2) (
 (Zqb x59 x60) x3)
noncomputable def Zsb (x3:Int):(Bool×(List Side)×(List Mail))→Option (Int×(List Side)×(List Mail))
| (x58,x59,x60)=>
 ifb (decide (x3=1)) (
 (Zrb x3 x59 x60) x58) (
 (Zrb x3 x59 x60) false)
noncomputable def Ztb (x27:Int) (x41:(List Side)) (x42:(List Mail)):Bool→Option ((Bool×Int×(List Side)×(List Mail)) ⊕ (Int×(List Side)×(List Mail)))
| x44=>
 some (.inl (x44,wr (x27+1),x41,x42))
noncomputable def Zub (x26:Bool) (x27:Int) (x31:Bool):((List Side)×(List Mail))→Option ((Bool×Int×(List Side)×(List Mail)) ⊕ (Int×(List Side)×(List Mail)))
| (x41,x42)=>
 ifb x26 (
 ifb (!x31) (
 (Ztb x27 x41 x42) true) (
 (at_ x41 x27).bind fun x43=>
 (Ztb x27 x41 x42) x43.Bottle)) (
 (Ztb x27 x41 x42) false)
noncomputable def Zvb (x1:Int) (x2:Int) (x3:Int) (x4:(List Int)) (x26:Bool) (x27:Int) (x31:Bool) (x35:(List Side)) (x36:(List Mail)):Bool→Option ((Bool×Int×(List Side)×(List Mail)) ⊕ (Int×(List Side)×(List Mail)))
| x38=>
 ifb x38 (
 (at_ x35 x27).bind fun x39=>
 (Zob ((Side.mk x39.Peer x39.Epoch x39.State x39.Fork x39.Dirty x39.Token x39.Bottle false)) 4 x1 x2 x3 x4 (x35.set (x27).toNat ((Side.mk x39.Peer x39.Epoch x39.State x39.Fork x39.Dirty x39.Token x39.Bottle false))) x36).bind fun x40=>
 (Zub x26 x27 x31) ((x35.set (x27).toNat ((Side.mk x39.Peer x39.Epoch x39.State x39.Fork x39.Dirty x39.Token x39.Bottle false))),x40)) (
 (Zub x26 x27 x31) (x35,x36))
noncomputable def Zwb (x1:Int) (x2:Int) (x3:Int) (x4:(List Int)) (x26:Bool) (x27:Int) (x31:Bool):((List Side)×(List Mail))→Option ((Bool×Int×(List Side)×(List Mail)) ⊕ (Int×(List Side)×(List Mail)))
| (x35,x36)=>
 ifb (decide (x3=1)) (
 ifb x31 (
 (at_ x35 x27).bind fun x37=>
 ifb x37.Ask (
 (Zvb x1 x2 x3 x4 x26 x27 x31 x35 x36) (!x37.Bottle)) (
 (Zvb x1 x2 x3 x4 x26 x27 x31 x35 x36) false)) (
 (Zvb x1 x2 x3 x4 x26 x27 x31 x35 x36) false)) (
 (Zvb x1 x2 x3 x4 x26 x27 x31 x35 x36) false)
noncomputable def Zxb (x1:Int) (x2:Int) (x3:Int) (x4:(List Int)) (x26:Bool) (x27:Int) (x28:(List Side)) (x29:(List Mail)) (x30:Side) (x31:Bool):Bool→Option ((Bool×Int×(List Side)×(List Mail)) ⊕ (Int×(List Side)×(List Mail)))
| x33=>
 ifb x33 (
 (Zob ((Side.mk x30.Peer x30.Epoch x30.State x30.Fork x30.Dirty x30.Token false x30.Ask)) 3 x1 x2 x3 x4 (x28.set (x27).toNat ((Side.mk x30.Peer x30.Epoch x30.State x30.Fork x30.Dirty x30.Token false x30.Ask))) x29).bind fun x34=>
 (Zwb x1 x2 x3 x4 x26 x27 x31) ((x28.set (x27).toNat ((Side.mk x30.Peer x30.Epoch x30.State x30.Fork x30.Dirty x30.Token false x30.Ask))),x34)) (
 (Zwb x1 x2 x3 x4 x26 x27 x31) (x28,x29))
noncomputable def Zyb (x1:Int) (x2:Int) (x3:Int) (x4:(List Int)) (x26:Bool) (x27:Int) (x28:(List Side)) (x29:(List Mail)) (x30:Side) (x31:Bool):Bool→Option ((Bool×Int×(List Side)×(List Mail)) ⊕ (Int×(List Side)×(List Mail)))
| x32=>
 ifb x30.Bottle (
 ifb x30.Ask (
 (Zxb x1 x2 x3 x4 x26 x27 x28 x29 x30 x31) (!x32)) (
 (Zxb x1 x2 x3 x4 x26 x27 x28 x29 x30 x31) false)) (
 (Zxb x1 x2 x3 x4 x26 x27 x28 x29 x30 x31) false)
noncomputable def Zzb (x1:Int) (x2:Int) (x3:Int) (x4:(List Int)) (x5:(List Side)):(Bool×Int×(List Side)×(List Mail))→Option ((Bool×Int×(List Side)×(List Mail)) ⊕ (Int×(List Side)×(List Mail)))
| (x26,x27,x28,x29)=>
 ifb (decide (x27<(ln Side.row x5))) (
 (at_ x28 x27).bind fun x30=>
 (Z0b x4 x30.Peer).bind fun x31=>
 ifb x31 (
 ifb (decide (x3=2)) (
 (Zyb x1 x2 x3 x4 x26 x27 x28 x29 x30 x31) true) (
 ifb (decide (x3=1)) (
 (Zyb x1 x2 x3 x4 x26 x27 x28 x29 x30 x31) x30.Fork) (
 (Zyb x1 x2 x3 x4 x26 x27 x28 x29 x30 x31) false))) (
 (Zyb x1 x2 x3 x4 x26 x27 x28 x29 x30 x31) false)) (
 Option.map Sum.inr ((Zsb x3) (x26,x28,x29)))
noncomputable def Z0c (x1:Int) (x2:Int) (x3:Int) (x4:(List Int)) (x5:(List Side)) (x6:(List Mail)):Option (Int×(List Side)×(List Mail)):=
 loop (Zzb x1 x2 x3 x4 x5) (true,0,x5,x6)
theorem Z1c (x1:Int) (x2:Int) (x3:Int) (x4:(List Int)) (x5:(List Side)) (x6:(List Mail)) (r:(Int×(List Side)×(List Mail))) (h:Z0c x1 x2 x3 x4 x5 x6=some r):FunT Tryz.prog 178 [.ptr 2 0] [none,none,some ⟨188,[.iv x1,.iv x2,.osl 1,.iv x3,.sl 1 (List.map Zu4 x4),.osl 3]⟩,none,none] [none,some ⟨66,8,List.map Side.row x5⟩,none,some ⟨95,5,List.map Mail.row x6⟩] (.tup []) [none,none,some ⟨188,[.iv x1,.iv x2,.osl 1,.iv r.1,.sl 1 (List.map Zu4 x4),.osl 5]⟩,none,none] [none,some ⟨66,8,List.map Side.row r.2.1⟩,none,none,none,some ⟨95,5,List.map Mail.row r.2.2⟩]:=by
 refine Zj5 ok178 rfl rfl rfl (by first | rfl | simp [go_sem]) fun w0 M0=>?_
 rw [Z0c] at h
 dsimp only [lun,List.cons_append,List.nil_append]
 refine Zk2 16 ?_;dsimp only [go_sem];refine An ?_;refine Ze4 (fun ((x58,x59,x60):(Bool×(List Side)×(List Mail)))=>(⟨(.ptr 2 0 :: .any :: .bv x58::an 132 []),[none,none,some ⟨188,[.iv x1,.iv x2,.osl 1,.iv x3,.sl 1 (List.map Zu4 x4),.osl 5]⟩,none,none],[none,some ⟨66,8,List.map Side.row x59⟩,none,none,none,some ⟨95,5,List.map Mail.row x60⟩]⟩:St)) (Zsb x3) r ?_ fun J1=>?_
 ·rintro ⟨x58,x59,x60⟩ h;rw [Zsb] at h;(try dsimp only);refine Zk2 9 ?_;dsimp only [go_sem];refine An ?_;refine Ze4 (fun (x61:Bool)=>(⟨(.ptr 2 0::an 129 (.bv x61::an 4 [])),[none,none,some ⟨188,[.iv x1,.iv x2,.osl 1,.iv x3,.sl 1 (List.map Zu4 x4),.osl 5]⟩,none,none],[none,some ⟨66,8,List.map Side.row x59⟩,none,none,none,some ⟨95,5,List.map Mail.row x60⟩]⟩:St)) (Zrb x3 x59 x60) r ?_ fun J8=>?_
  ·intro x61 h;rw [Zrb] at h;(try dsimp only);refine Ze4 (fun (x62:Int)=>(⟨(an 135 []),[none,none,some ⟨188,[.iv x1,.iv x2,.osl 1,.iv x62,.sl 1 (List.map Zu4 x4),.osl 5]⟩,none,none],[none,some ⟨66,8,List.map Side.row x59⟩,none,none,none,some ⟨95,5,List.map Mail.row x60⟩]⟩:St)) (Zqb x59 x60) r ?_ fun J9=>?_
   ·intro x62 h;rw [Zqb] at h;(try dsimp only);obtain rfl:=Option.some.inj h;exact Zl5 ok178 rfl (by simp [go_sem])
   ·refine Zg4 h rfl (fun _ h=>?_) fun _ h=>?_
    ·refine Zk2 7 ?_;dsimp only [go_sem];refine An ?_;exact Zq4 J9 (s:=2) h
    ·refine Zk2 1 ?_;dsimp only [go_sem];refine An ?_;exact Zq4 J9 (s:=x3) h
  ·refine Zn4 128 h rfl (fun _ h=>?_) fun _ h=>?_
   ·dsimp only [go_sem];refine Zk2 3 ?_;dsimp only [go_sem];refine An ?_;exact Zq4 J8 (s:=x58) h
   ·dsimp only [go_sem];refine Zk2 3 ?_;dsimp only [go_sem];refine An ?_;exact Zq4 J8 (s:=false) h
 ·refine Zk2 1 ?_;dsimp only [go_sem];refine An ?_;refine V_new 95 5 rfl ?_;dsimp only [go_sem];refine V_new 95 5 rfl ?_;dsimp only [go_sem];refine Z14 3 5 rfl rfl rfl ?_;dsimp only [go_sem]
  refine Zf4 h (fun ((x26,x27,x28,x29):(Bool×Int×(List Side)×(List Mail)))=>(⟨(.ptr 2 0 :: .any :: .bv x26::an 10 (.iv (ln Side.row x5) :: .iv x27::an 120 [])),[none,none,some ⟨188,[.iv x1,.iv x2,.osl 1,.iv x3,.sl 1 (List.map Zu4 x4),.osl 5]⟩,none,none],[none,some ⟨66,8,List.map Side.row x28⟩,none,none,none,some ⟨95,5,List.map Mail.row x29⟩]⟩:St)) (by simp [go_sem]) (by rintro ⟨x26,x27,x28,x29⟩;first | rfl | simp [go_sem]) ?_;rintro n1 ⟨x26,x27,x28,x29⟩ y1 h hin1 hout1;rw [Zzb] at h;(try dsimp only)
  refine Zk2 5 ?_;dsimp only [go_sem];refine An ?_;refine Zg4 h rfl (fun _ h=>?_) fun _ h=>?_
  ·refine Zk2 17 ?_;dsimp only [go_sem];refine An ?_;obtain ⟨x30,ex30,h⟩:=Bs h;refine Z85 Side.row ex30 trivial rfl rfl rfl ?_;refine Zk2 3 ?_;dsimp only [go_sem];refine An ?_;refine Zf3 (by kernel_rfl) fun all hall hs hnap haf=>?_;dsimp only [go_sem];refine Z65 hall hs haf hnap 8 3 [8,3] [(25,[.ptr 2 0,.ptr 2 0,.ptr 2 0,.ptr 2 4,.sl 1 (List.map Zu4 x4),.oel 1 ((x27).toNat*8) 0,.oel 1 ((x27).toNat*8) 0,.oel 1 ((x27).toNat*8) 0])] (by kernel_rfl) ?_;dsimp only [go_sem];refine Zq3 8 rfl ?_
   refine Zo5 hall Side.row ex30 rfl trivial rfl rfl rfl ?_;dsimp only [go_sem];refine Zq3 9 rfl ?_;obtain ⟨x31,ex31,h⟩:=Bs h;refine Zw3 hall rfl trivial (k_set_Has x4 x30.Peer _ ex31) (h:=?_);dsimp only [go_sem];refine Z55 hall hs haf hnap 1 0 ?_;dsimp only [go_sem];refine An ?_;refine Zp3 rfl ?_ _;refine Zk2 4 ?_;dsimp only [go_sem];refine An ?_
   refine Ze4 (fun (x32:Bool)=>(⟨(.ptr 2 0 :: .any :: .bv x26 :: .any :: .oel 1 ((x27).toNat*8) 0 :: .bv x31 :: .bv x32::an 6 (.iv (ln Side.row x5) :: .iv x27::an 120 [])),[none,none,some ⟨188,[.iv x1,.iv x2,.osl 1,.iv x3,.sl 1 (List.map Zu4 x4),.osl 5]⟩,none,none],[none,some ⟨66,8,List.map Side.row x28⟩,none,none,none,some ⟨95,5,List.map Mail.row x29⟩]⟩:St)) (Zyb x1 x2 x3 x4 x26 x27 x28 x29 x30 x31) y1 ?_ fun J2=>?_
   ·intro x32 h;rw [Zyb] at h;(try dsimp only);refine Zk2 6 ?_;dsimp only [go_sem];refine An ?_;refine Z95 Side.row ex30 trivial rfl rfl rfl ?_;refine Zk2 1 ?_;dsimp only [go_sem];refine An ?_
    refine Ze4 (fun (x33:Bool)=>(⟨(.ptr 2 0 :: .any :: .bv x26 :: .any :: .oel 1 ((x27).toNat*8) 0 :: .bv x31::an 7 (.iv (ln Side.row x5) :: .iv x27::an 56 (.bv x33::an 63 []))),[none,none,some ⟨188,[.iv x1,.iv x2,.osl 1,.iv x3,.sl 1 (List.map Zu4 x4),.osl 5]⟩,none,none],[none,some ⟨66,8,List.map Side.row x28⟩,none,none,none,some ⟨95,5,List.map Mail.row x29⟩]⟩:St)) (Zxb x1 x2 x3 x4 x26 x27 x28 x29 x30 x31) y1 ?_ fun J3=>?_
    ·intro x33 h;rw [Zxb] at h;(try dsimp only);refine Ze4 (fun ((x35,x36):((List Side)×(List Mail)))=>(⟨(.ptr 2 0 :: .any :: .bv x26 :: .any :: .oel 1 ((x27).toNat*8) 0 :: .bv x31::an 7 (.iv (ln Side.row x5) :: .iv x27::an 120 [])),[none,none,some ⟨188,[.iv x1,.iv x2,.osl 1,.iv x3,.sl 1 (List.map Zu4 x4),.osl 5]⟩,none,none],[none,some ⟨66,8,List.map Side.row x35⟩,none,none,none,some ⟨95,5,List.map Mail.row x36⟩]⟩:St)) (Zwb x1 x2 x3 x4 x26 x27 x31) y1 ?_ fun J4=>?_
     ·rintro ⟨x35,x36⟩ h;rw [Zwb] at h;(try dsimp only);refine Zk2 10 ?_;dsimp only [go_sem];refine An ?_
      refine Ze4 (fun (x38:Bool)=>(⟨(.ptr 2 0 :: .any :: .bv x26 :: .any :: .oel 1 ((x27).toNat*8) 0 :: .bv x31::an 7 (.iv (ln Side.row x5) :: .iv x27::an 86 (.bv x38::an 33 []))),[none,none,some ⟨188,[.iv x1,.iv x2,.osl 1,.iv x3,.sl 1 (List.map Zu4 x4),.osl 5]⟩,none,none],[none,some ⟨66,8,List.map Side.row x35⟩,none,none,none,some ⟨95,5,List.map Mail.row x36⟩]⟩:St)) (Zvb x1 x2 x3 x4 x26 x27 x31 x35 x36) y1 ?_ fun J5=>?_
      ·intro x38 h;rw [Zvb] at h;(try dsimp only);refine Ze4 (fun ((x41,x42):((List Side)×(List Mail)))=>(⟨(.ptr 2 0 :: .any :: .bv x26 :: .any :: .oel 1 ((x27).toNat*8) 0 :: .bv x31::an 7 (.iv (ln Side.row x5) :: .iv x27::an 120 [])),[none,none,some ⟨188,[.iv x1,.iv x2,.osl 1,.iv x3,.sl 1 (List.map Zu4 x4),.osl 5]⟩,none,none],[none,some ⟨66,8,List.map Side.row x41⟩,none,none,none,some ⟨95,5,List.map Mail.row x42⟩]⟩:St)) (Zub x26 x27 x31) y1 ?_ fun J6=>?_
       ·rintro ⟨x41,x42⟩ h;rw [Zub] at h;(try dsimp only);refine Zk2 3 ?_;dsimp only [go_sem];refine An ?_;refine Ze4 (fun (x44:Bool)=>(⟨(.ptr 2 0 :: .any :: .bv x44::an 10 (.iv (ln Side.row x5) :: .iv x27::an 120 [])),[none,none,some ⟨188,[.iv x1,.iv x2,.osl 1,.iv x3,.sl 1 (List.map Zu4 x4),.osl 5]⟩,none,none],[none,some ⟨66,8,List.map Side.row x41⟩,none,none,none,some ⟨95,5,List.map Mail.row x42⟩]⟩:St)) (Ztb x27 x41 x42) y1 ?_ fun J7=>?_
        ·intro x44 h;rw [Ztb] at h;(try dsimp only);refine Zk2 5 ?_;dsimp only [go_sem];refine An ?_;exact Zp4 h hin1
        ·refine Zn4 111 h rfl (fun _ h=>?_) fun _ h=>?_
         ·dsimp only [go_sem];refine Zk2 3 ?_;dsimp only [go_sem];refine An ?_;refine Zn4 114 h rfl (fun _ h=>?_) fun _ h=>?_
          ·dsimp only [go_sem];refine Zk2 8 ?_;dsimp only [go_sem];refine An ?_;exact Zq4 J7 (s:=true) h
          ·dsimp only [go_sem];refine Zk2 3 ?_;dsimp only [go_sem];refine An ?_;obtain ⟨x43,ex43,h⟩:=Bs h;refine Z95 Side.row ex43 trivial rfl rfl rfl ?_;refine Zk2 4 ?_;dsimp only [go_sem];refine An ?_;exact Zq4 J7 (s:=x43.Bottle) h
         ·dsimp only [go_sem];refine Zk2 11 ?_;dsimp only [go_sem];refine An ?_;exact Zq4 J7 (s:=false) h
       ·refine Zg4 h rfl (fun _ h=>?_) fun _ h=>?_
        ·refine Zk2 5 ?_;dsimp only [go_sem];refine An ?_;obtain ⟨x39,ex39,h⟩:=Bs h;refine Ze5 [.bv false] Side.row (y':=(Side.mk x39.Peer x39.Epoch x39.State x39.Fork x39.Dirty x39.Token x39.Bottle false)) ex39 trivial rfl rfl rfl (by first | exact Z74 _ | simp [go_sem]) rfl rfl rfl rfl ?_;refine Zk2 5 ?_;dsimp only [go_sem];refine An ?_;refine Zb5 Side.row (at_set ex39) trivial rfl rfl rfl ?_;obtain ⟨x40,ex40,h⟩:=Bs h
         refine Zm5 [false,false,true,false,false] [false,true,false,false,false,true] trivial (Zpb ((Side.mk x39.Peer x39.Epoch x39.State x39.Fork x39.Dirty x39.Token x39.Bottle false)) 4 x1 x2 x3 x4 (x35.set (x27).toNat ((Side.mk x39.Peer x39.Epoch x39.State x39.Fork x39.Dirty x39.Token x39.Bottle false))) x36 _ ex40) (h:=?_);dsimp only [go_sem];refine Zk2 1 ?_;dsimp only [go_sem];refine An ?_;refine Z14 7 5 rfl rfl rfl ?_;dsimp only [go_sem]
         exact Zq4 J6 (s:=((x35.set (x27).toNat ((Side.mk x39.Peer x39.Epoch x39.State x39.Fork x39.Dirty x39.Token x39.Bottle false))),x40)) h
        ·refine Zk2 1 ?_;dsimp only [go_sem];refine An ?_;exact Zq4 J6 (s:=(x35,x36)) h
      ·refine Zn4 86 h rfl (fun _ h=>?_) fun _ h=>?_
       ·dsimp only [go_sem];refine Zk2 3 ?_;dsimp only [go_sem];refine An ?_;refine Zn4 89 h rfl (fun _ h=>?_) fun _ h=>?_
        ·dsimp only [go_sem];refine Zk2 3 ?_;dsimp only [go_sem];refine An ?_;obtain ⟨x37,ex37,h⟩:=Bs h;refine Z95 Side.row ex37 trivial rfl rfl rfl ?_;refine Zk2 2 ?_;dsimp only [go_sem];refine An ?_;refine Zn4 95 h rfl (fun _ h=>?_) fun _ h=>?_
         ·dsimp only [go_sem];refine Zk2 3 ?_;dsimp only [go_sem];refine An ?_;refine Z95 Side.row ex37 trivial rfl rfl rfl ?_;refine Zk2 3 ?_;dsimp only [go_sem];refine An ?_;exact Zq4 J5 (s:=!x37.Bottle) h
         ·dsimp only [go_sem];refine Zk2 7 ?_;dsimp only [go_sem];refine An ?_;exact Zq4 J5 (s:=false) h
        ·dsimp only [go_sem];refine Zk2 13 ?_;dsimp only [go_sem];refine An ?_;exact Zq4 J5 (s:=false) h
       ·dsimp only [go_sem];refine Zk2 16 ?_;dsimp only [go_sem];refine An ?_;exact Zq4 J5 (s:=false) h
     ·refine Zg4 h rfl (fun _ h=>?_) fun _ h=>?_
      ·refine Zk2 5 ?_;dsimp only [go_sem];refine An ?_;refine Ze5 [.bv false] Side.row (y':=(Side.mk x30.Peer x30.Epoch x30.State x30.Fork x30.Dirty x30.Token false x30.Ask)) ex30 trivial rfl rfl rfl (by first | exact Z74 _ | simp [go_sem]) rfl rfl rfl rfl ?_;refine Zk2 5 ?_;dsimp only [go_sem];refine An ?_;refine Zb5 Side.row (at_set ex30) trivial rfl rfl rfl ?_;obtain ⟨x34,ex34,h⟩:=Bs h
       refine Zm5 [false,false,true,false,false] [false,true,false,false,false,true] trivial (Zpb ((Side.mk x30.Peer x30.Epoch x30.State x30.Fork x30.Dirty x30.Token false x30.Ask)) 3 x1 x2 x3 x4 (x28.set (x27).toNat ((Side.mk x30.Peer x30.Epoch x30.State x30.Fork x30.Dirty x30.Token false x30.Ask))) x29 _ ex34) (h:=?_);dsimp only [go_sem];refine Zk2 1 ?_;dsimp only [go_sem];refine An ?_;refine Z14 7 5 rfl rfl rfl ?_;dsimp only [go_sem]
       exact Zq4 J4 (s:=((x28.set (x27).toNat ((Side.mk x30.Peer x30.Epoch x30.State x30.Fork x30.Dirty x30.Token false x30.Ask))),x34)) h
      ·refine Zk2 1 ?_;dsimp only [go_sem];refine An ?_;exact Zq4 J4 (s:=(x28,x29)) h
    ·refine Zn4 62 h rfl (fun _ h=>?_) fun _ h=>?_
     ·dsimp only [go_sem];refine Zk2 3 ?_;dsimp only [go_sem];refine An ?_;refine Z95 Side.row ex30 trivial rfl rfl rfl ?_;refine Zk2 2 ?_;dsimp only [go_sem];refine An ?_;refine Zn4 68 h rfl (fun _ h=>?_) fun _ h=>?_
      ·dsimp only [go_sem];refine Zk2 4 ?_;dsimp only [go_sem];refine An ?_;exact Zq4 J3 (s:=!x32) h
      ·dsimp only [go_sem];refine Zk2 4 ?_;dsimp only [go_sem];refine An ?_;exact Zq4 J3 (s:=false) h
     ·dsimp only [go_sem];refine Zk2 10 ?_;dsimp only [go_sem];refine An ?_;exact Zq4 J3 (s:=false) h
   ·refine Zn4 36 h rfl (fun _ h=>?_) fun _ h=>?_
    ·dsimp only [go_sem];refine Zk2 7 ?_;dsimp only [go_sem];refine An ?_;refine Zn4 43 h rfl (fun _ h=>?_) fun _ h=>?_
     ·dsimp only [go_sem];refine Zk2 16 ?_;dsimp only [go_sem];refine An ?_;exact Zq4 J2 (s:=true) h
     ·dsimp only [go_sem];refine Zk2 7 ?_;dsimp only [go_sem];refine An ?_;refine Zn4 50 h rfl (fun _ h=>?_) fun _ h=>?_
      ·dsimp only [go_sem];refine Zk2 3 ?_;dsimp only [go_sem];refine An ?_;refine Z95 Side.row ex30 trivial rfl rfl rfl ?_;refine Zk2 5 ?_;dsimp only [go_sem];refine An ?_;exact Zq4 J2 (s:=x30.Fork) h
      ·dsimp only [go_sem];refine Zk2 9 ?_;dsimp only [go_sem];refine An ?_;exact Zq4 J2 (s:=false) h
    ·dsimp only [go_sem];refine Zk2 23 ?_;dsimp only [go_sem];refine An ?_;exact Zq4 J2 (s:=false) h
  ·refine Zk2 1 ?_;dsimp only [go_sem];refine An ?_;exact Zq4 J1 (s:=(x26,x28,x29)) (Zd4 h hout1)
noncomputable def Z2c (x1:Int) (x3:(List Side)) (x4:Int) (x5:(List Int)) (x6:(List Mail)):Int→Option (Int×Int×Int×(List Side)×(List Mail))
| x10=>
 (Zmb ((Diner.mk x1 x10 x3))).bind fun x11=>
 (Z84 40 x6 x11.2.2.2.2).bind fun x12=>
 (Z0c x11.1 x11.2.1 x4 x5 x11.2.2.2.1 x12).bind fun x13=>
 some (x11.1,x11.2.1,x13.1,x13.2.1,x13.2.2)
noncomputable def Z3c (x1:Int) (x2:Int) (x3:(List Side)) (x4:Int) (x5:(List Int)) (x6:(List Mail)):Bool→Option (Int×Int×Int×(List Side)×(List Mail))
| x9=>
 ifb x9 (
 (Z2c x1 x3 x4 x5 x6) 0) (
 (Z2c x1 x3 x4 x5 x6) x2)
noncomputable def Z4c (x1:Int) (x2:Int) (x3:(List Side)) (x4:Int) (x5:(List Int)) (x6:(List Mail)):Bool→Option (Int×Int×Int×(List Side)×(List Mail))
| x7=>
 ifb x7 (
 (Z2c x1 x3 x4 x5 x6) 1) (
 ifb (decide (x2=2)) (
 ifb (!decide (x4=1)) (
 (Z69 x3 ((fun z=>Zra z))).bind fun x8=>
 (Z3c x1 x2 x3 x4 x5 x6) (!x8)) (
 (Z3c x1 x2 x3 x4 x5 x6) false)) (
 (Z3c x1 x2 x3 x4 x5 x6) false))
noncomputable def Z5c (x1:Int) (x2:Int) (x3:(List Side)) (x4:Int) (x5:(List Int)) (x6:(List Mail)):Option (Int×Int×Int×(List Side)×(List Mail)):=
 ifb (decide (x4=1)) (
 (Z4c x1 x2 x3 x4 x5 x6) (decide (x2=0))) (
 (Z4c x1 x2 x3 x4 x5 x6) false)
theorem Z6c (x1:Int) (x2:Int) (x3:(List Side)) (x4:Int) (x5:(List Int)) (x6:(List Mail)) (r:(Int×Int×Int×(List Side)×(List Mail))) (h:Z5c x1 x2 x3 x4 x5 x6=some r):FunT Tryz.prog 157 [.ptr 2 0] [none,none,some ⟨188,[.iv x1,.iv x2,.sl 8 (List.map Side.row x3),.iv x4,.sl 1 (List.map Zu4 x5),.osl 0]⟩,none] [some ⟨95,5,List.map Mail.row x6⟩] (.tup []) [none,none,some ⟨188,[.iv r.1,.iv r.2.1,.osl 1,.iv r.2.2.1,.sl 1 (List.map Zu4 x5),.osl 5]⟩,none] [none,some ⟨66,8,List.map Side.row r.2.2.2.1⟩,none,none,none,some ⟨95,5,List.map Mail.row r.2.2.2.2⟩]:=by
 refine Zj5 ok157 rfl rfl rfl (by first | rfl | simp [go_sem]) fun w0 M0=>?_
 rw [Z5c] at h
 dsimp only [lun,List.cons_append,List.nil_append]
 refine Zk2 15 ?_;dsimp only [go_sem];refine An ?_;refine Ze4 (fun (x7:Bool)=>(⟨(.ptr 2 0 :: .any :: .clo 176 []::an 3 (.bv x7::an 78 [])),[none,none,some ⟨188,[.iv x1,.iv x2,.sl 8 (List.map Side.row x3),.iv x4,.sl 1 (List.map Zu4 x5),.osl 0]⟩,none],[some ⟨95,5,List.map Mail.row x6⟩]⟩:St)) (Z4c x1 x2 x3 x4 x5 x6) r ?_ fun J1=>?_
 ·intro x7 h;rw [Z4c] at h;(try dsimp only);refine Ze4 (fun (x10:Int)=>(⟨(.ptr 2 0::an 84 []),[none,none,some ⟨188,[.iv x1,.iv x10,.sl 8 (List.map Side.row x3),.iv x4,.sl 1 (List.map Zu4 x5),.osl 0]⟩,none],[some ⟨95,5,List.map Mail.row x6⟩]⟩:St)) (Z2c x1 x3 x4 x5 x6) r ?_ fun J2=>?_
  ·intro x10 h;rw [Z2c] at h;(try dsimp only);refine Zk2 8 ?_;dsimp only [go_sem];refine An ?_;obtain ⟨x11,ex11,h⟩:=Bs h;refine Zm5 [false,false,false,false] [false] trivial (Znb ((Diner.mk x1 x10 x3)) _ ex11) (h:=?_);dsimp only [go_sem];refine Zk2 26 ?_;dsimp only [go_sem];refine An ?_;obtain ⟨x12,ex12,h⟩:=Bs h;refine Zl4 Mail.row ex12 trivial rfl rfl rfl ?_;refine Zk2 6 ?_;dsimp only [go_sem];refine An ?_;obtain ⟨x13,ex13,h⟩:=Bs h
   refine Zm5 [false,false,true,false,false] [false,true,false,true] trivial (Z1c x11.1 x11.2.1 x4 x5 x11.2.2.2.1 x12 _ ex13) (h:=?_);dsimp only [go_sem];refine Zk2 1 ?_;dsimp only [go_sem];refine An ?_;obtain rfl:=Option.some.inj h;exact Zl5 ok157 rfl (by simp [go_sem])
  ·refine Zg4 h rfl (fun _ h=>?_) fun _ h=>?_
   ·refine Zk2 8 ?_;dsimp only [go_sem];refine An ?_;exact Zq4 J2 (s:=1) h
   ·refine Zk2 10 ?_;dsimp only [go_sem];refine An ?_;refine Ze4 (fun (x9:Bool)=>(⟨(.ptr 2 0::an 26 (.bv x9::an 57 [])),[none,none,some ⟨188,[.iv x1,.iv x2,.sl 8 (List.map Side.row x3),.iv x4,.sl 1 (List.map Zu4 x5),.osl 0]⟩,none],[some ⟨95,5,List.map Mail.row x6⟩]⟩:St)) (Z3c x1 x2 x3 x4 x5 x6) r ?_ fun J3=>?_
    ·intro x9 h;rw [Z3c] at h;(try dsimp only);refine Zg4 h rfl (fun _ h=>?_) fun _ h=>?_
     ·refine Zk2 8 ?_;dsimp only [go_sem];refine An ?_;exact Zq4 J2 (s:=0) h
     ·refine Zk2 1 ?_;dsimp only [go_sem];refine An ?_;exact Zq4 J2 (s:=x2) h
    ·refine Zn4 35 h rfl (fun _ h=>?_) fun _ h=>?_
     ·dsimp only [go_sem];refine Zk2 8 ?_;dsimp only [go_sem];refine An ?_;refine Zn4 43 h rfl (fun _ h=>?_) fun _ h=>?_
      ·dsimp only [go_sem];refine Zk2 7 ?_;dsimp only [go_sem];refine An ?_;obtain ⟨x8,ex8,h⟩:=Bs h;refine Zy2 trivial (Z79 x3 _ _ ((fun z=>Zra z)) ⟨by kernel_rfl,rfl,fun z r hz=>Zsa z r hz⟩ _ ex8) (h:=?_);refine Zk2 4 ?_;dsimp only [go_sem];refine An ?_;exact Zq4 J3 (s:=!x8) h
      ·dsimp only [go_sem];refine Zk2 12 ?_;dsimp only [go_sem];refine An ?_;exact Zq4 J3 (s:=false) h
     ·dsimp only [go_sem];refine Zk2 20 ?_;dsimp only [go_sem];refine An ?_;exact Zq4 J3 (s:=false) h
 ·refine Zn4 13 h rfl (fun _ h=>?_) fun _ h=>?_
  ·dsimp only [go_sem];refine Zk2 10 ?_;dsimp only [go_sem];refine An ?_;exact Zq4 J1 (s:=decide (x2=0)) h
  ·dsimp only [go_sem];refine Zk2 10 ?_;dsimp only [go_sem];refine An ?_;exact Zq4 J1 (s:=false) h
noncomputable def Z7c (x3:Drinker):(Int×Int×(List Side)×Int×(List Mail))→Option ((Int×Int×(List Side)×Int×(List Mail)) ⊕ (Drinker×(List Mail)×Int))
| (x12,x13,x14,x15,x16)=>
 (Zpa ((Drinker.mk ((Diner.mk x12 x13 x14)) x15 x3.Need))).bind fun x17=>
 (Z5c x12 x13 x14 x15 x3.Need x16).bind fun x18=>
 (Z8b x17 ((Drinker.mk ((Diner.mk x18.1 x18.2.1 x18.2.2.2.1)) x18.2.2.1 x3.Need))).bind fun x19=>
 ifb x19 (
 Option.map Sum.inr (some ((Drinker.mk ((Diner.mk x18.1 x18.2.1 x18.2.2.2.1)) x18.2.2.1 x3.Need),x18.2.2.2.2,0))) (
 some (.inl (x18.1,x18.2.1,x18.2.2.2.1,x18.2.2.1,x18.2.2.2.2)))
noncomputable def Z8c (x1:Drinker):Option (Drinker×(List Mail)×Int):=
 (Zla x1).bind fun x2=>
 ifb (!decide (x2=0)) (
 some ((Drinker.mk ((Diner.mk 0 0 (([]:(List Side))))) 0 (([]:(List Int)))),([]:(List Mail)),x2)) (
 (Zpa x1).bind fun x3=>
 loop (Z7c x3) (x3.Diner.ID,x3.Diner.Phase,x3.Diner.Sides,x3.Thirst,([]:List Mail)))
theorem k_drink_Fire (x1:Drinker) (r:(Drinker×(List Mail)×Int)) (h:Z8c x1=some r):Zp2 Tryz.prog 135 [.agg (Drinker.row x1)] (.tup [.agg (Drinker.row r.1),.sl 5 (List.map Mail.row r.2.1),.iv r.2.2]):=by
 refine Zt2 ok135 rfl rfl fun w0 H0=>?_
 rw [Z8c] at h
 refine Zk2 11 ?_;dsimp only [go_sem];refine An ?_;obtain ⟨x2,ex2,h⟩:=Bs h;refine Zy2 trivial (Zma x1 _ ex2) (h:=?_);refine Zk2 7 ?_;dsimp only [go_sem];refine An ?_;refine Zg4 h rfl (fun _ h=>?_) fun _ h=>?_
 ·refine Zk2 8 ?_;dsimp only [go_sem];refine An ?_;exact Zo4 (res:=fun (r:(Drinker×(List Mail)×Int))=>.tup [.agg (Drinker.row r.1),.sl 5 (List.map Mail.row r.2.1),.iv r.2.2]) ok135 h
 ·refine Zk2 4 ?_;dsimp only [go_sem];refine An ?_;obtain ⟨x3,ex3,h⟩:=Bs h;refine Zy2 trivial (Zqa x1 _ ex3) (h:=?_);refine Zk2 5 ?_;dsimp only [go_sem];refine An ?_;refine Z24 2 5 95 5 rfl rfl rfl ?_;dsimp only [go_sem]
  refine Zf4 h (fun ((x12,x13,x14,x15,x16):(Int×Int×(List Side)×Int×(List Mail)))=>(⟨(.any :: .any :: .ptr 1 0::an 3 (.ptr 2 0::an 32 [])),[none,some ⟨63,[.iv 0,.iv 0,.nl,.iv 0,.nl]⟩,some ⟨188,[.iv x12,.iv x13,.sl 8 (List.map Side.row x14),.iv x15,.sl 1 (List.map Zu4 x3.Need),.osl 0]⟩],[some ⟨95,5,List.map Mail.row x16⟩]⟩:St)) (by simp [go_sem]) (by rintro ⟨x12,x13,x14,x15,x16⟩;first | rfl | simp [go_sem]) ?_;rintro n1 ⟨x12,x13,x14,x15,x16⟩ y1 h hin1 hout1;rw [Z7c] at h;(try dsimp only);refine Zk2 7 ?_;dsimp only [go_sem]
  refine An ?_;obtain ⟨x17,ex17,h⟩:=Bs h;refine Zy2 trivial (Zqa ((Drinker.mk ((Diner.mk x12 x13 x14)) x15 x3.Need)) _ ex17) (h:=?_);refine Zk2 6 ?_;dsimp only [go_sem];refine An ?_;obtain ⟨x18,ex18,h⟩:=Bs h;refine Zm5 [false,false,true,false] [true] trivial (Z6c x12 x13 x14 x15 x3.Need x16 _ ex18) (h:=?_);dsimp only [go_sem];refine Zk2 2 ?_;dsimp only [go_sem];refine An ?_;refine Zf3 (by kernel_rfl) fun all hall hs hnap haf=>?_;dsimp only [go_sem];refine Z55 hall hs haf hnap 4 2 ?_;dsimp only [go_sem]
  refine An ?_;refine Zq3 4 rfl ?_;refine Zv3 hall rfl trivial ?_;dsimp only [go_sem];refine Zq3 5 rfl ?_;obtain ⟨x19,ex19,h⟩:=Bs h;refine GO_callL hall rfl trivial ((Zr4.refl _).slice 1 rfl) (Z9b x17 ((Drinker.mk ((Diner.mk x18.1 x18.2.1 x18.2.2.2.1)) x18.2.2.1 x3.Need)) _ ex19) (h:=?_);dsimp only [go_sem];refine Zp3 rfl ?_ _;refine Zg4 h rfl (fun _ h=>?_) fun _ h=>?_
  ·refine Zk2 1 ?_;dsimp only [go_sem];refine An ?_;refine Zf3 (by kernel_rfl) fun all hall hs hnap haf=>?_;dsimp only [go_sem];refine Z65 hall hs haf hnap 6 5 [3,1,3,4] [(31,[.ptr 2 0,.ptr 2 0,.ptr 2 0]),(1,[.ptr 2 0,.ptr 2 0,.ptr 2 5])] (by kernel_rfl) ?_;dsimp only [go_sem];refine Zr3 3 7 rfl ?_ ?_
   ·refine Zv3 hall rfl trivial ?_;dsimp only [go_sem];refine Zr3 7 8 rfl ?_ ?_
    ·refine Zv3 hall rfl trivial ?_;dsimp only [go_sem];refine Zq3 8 rfl ?_;refine Zv3 hall rfl trivial ?_;dsimp only [go_sem];refine Z55 hall hs haf hnap 2 0 ?_;dsimp only [go_sem];refine An ?_;refine Zp3 rfl ?_ _;refine Z73 1 rfl ?_;dsimp only [go_sem];refine Z73 5 rfl ?_;dsimp only [go_sem];exact Zo4 (res:=fun (r:(Drinker×(List Mail)×Int))=>.tup [.agg (Drinker.row r.1),.sl 5 (List.map Mail.row r.2.1),.iv r.2.2]) ok135 (Zd4 h hout1)
    ·refine Zv3 hall rfl trivial ?_;dsimp only [go_sem];refine Zq3 7 rfl ?_;refine Zv3 hall rfl trivial ?_;dsimp only [go_sem];refine Z55 hall hs haf hnap 2 0 ?_;dsimp only [go_sem];refine An ?_;refine Zp3 rfl ?_ _;refine Z73 1 rfl ?_;dsimp only [go_sem];refine Z73 5 rfl ?_;dsimp only [go_sem];exact Zo4 (res:=fun (r:(Drinker×(List Mail)×Int))=>.tup [.agg (Drinker.row r.1),.sl 5 (List.map Mail.row r.2.1),.iv r.2.2]) ok135 (Zd4 h hout1)
   ·refine Zv3 hall rfl trivial ?_;dsimp only [go_sem];refine Zq3 3 rfl ?_;refine Zv3 hall rfl trivial ?_;dsimp only [go_sem];refine Zq3 8 rfl ?_;refine Zv3 hall rfl trivial ?_;dsimp only [go_sem];refine Z55 hall hs haf hnap 2 0 ?_;dsimp only [go_sem];refine An ?_;refine Zp3 rfl ?_ _;refine Z73 1 rfl ?_;dsimp only [go_sem];refine Z73 5 rfl ?_;dsimp only [go_sem];exact Zo4 (res:=fun (r:(Drinker×(List Mail)×Int))=>.tup [.agg (Drinker.row r.1),.sl 5 (List.map Mail.row r.2.1),.iv r.2.2]) ok135 (Zd4 h hout1)
  ·refine Zk2 2 ?_;dsimp only [go_sem];refine An ?_;refine Z73 1 rfl ?_;dsimp only [go_sem];refine Z14 5 0 rfl rfl rfl ?_;dsimp only [go_sem];exact Zp4 h hin1
theorem s_send (k id ph:Int) (a b:List Side) (x:Side) (E:List Mail) (hE:E.length≤1000000):Zab k id ph (a.length:Int) (a++x::b) E=some (E++[⟨id,x.Peer,⟨k,x.Epoch,0⟩⟩]):=by
 simp only [Zab]
 rw [Za8 rfl,Option.bind_some,Z56 _ _ (by omega) (by simp;omega),Option.bind_some]
theorem fire_step (d:Diner) (l:List Side) (hl:l.length<64) (pre post:List Side) (x:Side) (h:l=pre++x::post) (all:Bool) (A:List Side) (hA:A.length=pre.length) (E:List Mail) (hE:E.length≤1000):
  Zlb d l (all,(pre.length:Int),A++x::post,E)=some (.inl (all&&(Z3a d.Phase x).Fork,((pre.length+1:Nat):Int),A++Z3a d.Phase x::post,E++Z4a d.ID d.Phase x)):=by
 have hx:=Z78 h
 have hm:=Z88 h
 have at1:∀y:Side,at_ (A++y::post) (pre.length:Int)=some y:=fun y=>by rw [←hA];exact Za8 rfl
 have st1:∀y z:Side,(A++y::post).set ((pre.length:Int)).toNat z=A++z::post:=fun y z=>by rw [←hA];exact Zb8 _ _ _ _
 have sd:∀(k:Int) (y:Side) (E:List Mail),E.length≤1000000→Zab k d.ID d.Phase (pre.length:Int) (A++y::post) E=some (E++[⟨d.ID,y.Peer,⟨k,y.Epoch,0⟩⟩]):=fun k y E hE=>by rw [←hA];exact s_send k d.ID d.Phase A post y E hE
 have fin:∀(y:Side) (E':List Mail),Zhb all (pre.length:Int) (A++y::post,E')=some (.inl (all&&y.Fork,((pre.length+1:Nat):Int),A++y::post,E')):=fun y E'=>by
  dsimp only [Zhb,Zgb]
  rw [at1,Z86 (by omega)]
  cases all<;>rfl
 have j3:∀(y:Side) (E':List Mail),E'.length≤100000→Zjb d all (pre.length:Int) (A++y::post,E') =
   if decide (d.Phase=1)&&(y.Token&&!y.Fork) then some (.inl (all&&y.Fork,((pre.length+1:Nat):Int),A++{y with Token:=false}::post,E'++[⟨d.ID,y.Peer,⟨2,y.Epoch,0⟩⟩])) else some (.inl (all&&y.Fork,((pre.length+1:Nat):Int),A++y::post,E')):=fun y E' hE'=>by
  dsimp only [Zjb]
  by_cases h1:d.Phase=1
  ·rw [decide_eq_true h1,Z06,at1,Option.bind_some]
   cases ht:y.Token with
   | false=>dsimp only [Zib];rw [Z16,Z16,fin];simp
   | true=>
     cases hf:y.Fork with
     | true=>dsimp only [Zib];rw [Z06,Bool.not_true,Z16,fin];simp [hf]
     | false=>
       dsimp only [Zib]
       rw [Z06,Bool.not_false,Z06,at1,Option.bind_some,st1,sd _ _ _ (by omega),Option.bind_some,fin]
       simp [hf]
  ·rw [decide_eq_false h1,Z16];dsimp only [Zib];rw [Z16,fin];simp
 dsimp only [Zlb]
 rw [Z66 hx,Z06,at1,Option.bind_some]
 have j2:∀z:Bool,Zkb d all (pre.length:Int) (A++x::post) E x z=if z then Zjb d all (pre.length:Int) (A++{x with Fork:=false,Dirty:=false}::post,E++[⟨d.ID,x.Peer,⟨1,x.Epoch,0⟩⟩]) else Zjb d all (pre.length:Int) (A++x::post,E):=fun z=>by
  cases z with
  | false=>dsimp only [Zkb];rw [Z16];rfl
  | true=>
    dsimp only [Zkb]
    rw [Z06,st1,sd _ _ _ (by omega),Option.bind_some];rfl
 have e:ifb x.Fork (ifb x.Dirty (ifb x.Token (Zkb d all (pre.length:Int) (A++x::post) E x (!decide (d.Phase=2))) (Zkb d all (pre.length:Int) (A++x::post) E x false)) (Zkb d all (pre.length:Int) (A++x::post) E x false)) (Zkb d all (pre.length:Int) (A++x::post) E x false)
   =Zkb d all (pre.length:Int) (A++x::post) E x (x.Fork&&(x.Dirty&&(x.Token&&!decide (d.Phase=2)))):=by
  cases x.Fork<;>cases x.Dirty<;>cases x.Token<;>rfl
 rw [e,j2]
 cases hz:(x.Fork&&(x.Dirty&&(x.Token&&!decide (d.Phase=2)))) with
 | false=>
   rw [if_neg (by simp),j3 _ _ (by omega)]
   have f1:Z2a d.Phase x=x:=by simp only [Z2a,hz];rfl
   unfold Z3a Z4a
   rw [f1,hz]
   cases hq:(decide (d.Phase=1)&&(x.Token&&!x.Fork))<;>simp
 | true=>
   rw [if_pos rfl,j3 _ _ (by simp;omega)]
   have f1:Z2a d.Phase x={x with Fork:=false,Dirty:=false}:=by simp only [Z2a,hz];rfl
   unfold Z3a Z4a
   rw [f1,hz]
   cases hq:(decide (d.Phase=1)&&(x.Token&&!false))<;>simp_all
theorem s_Fire (d:Diner):Zmb d=some (if okD d then ((Z6a d).ID,(Z6a d).Phase,0,(Z6a d).Sides,Z7a d) else (0,0,130,[],[])):=by
 simp only [Zmb,Zy9,Option.bind_some]
 cases h:okD d with
 | false=>rfl
 | true=>
   have hl:=Z0a h
   simp only [if_true,decide_true,Bool.not_true,Z16,Zz9 d.Sides (by omega),Option.bind_some]
   have key:=Z58 d.Sides (Zlb d d.Sides) (fun pre=>((pre.map (Z3a d.Phase)).all (·.Fork),(pre.length:Int),pre.map (Z3a d.Phase)++d.Sides.drop pre.length,pre.flatMap (Z4a d.ID d.Phase))) (fun _ _=>some ((Z6a d).ID,(Z6a d).Phase,0,(Z6a d).Sides,Z7a d)) (fun pre x post hp=>?_) ?_
   ·simpa using key
   ·left
    have hd:d.Sides.drop pre.length=x::post:=by rw [hp];simp
    have hd':d.Sides.drop (pre++[x]).length=post:=by rw [hp];simp
    have hm:=Z88 hp
    have hE:=Z8a pre d.ID d.Phase
    refine ⟨?_,rfl⟩
    rw [hd,hd',fire_step d d.Sides hl pre post x hp _ _ (by simp) _ (by omega),Zc8]
    simp
   ·have hE:=Z8a d.Sides d.ID d.Phase
    dsimp only [Zlb]
    rw [Z76,Z16]
    simp only [List.drop_length,List.append_nil]
    dsimp only [Zfb]
    by_cases h1:d.Phase=1
    ·rw [decide_eq_true h1,Z06]
     dsimp only [Zeb]
     cases hall:(d.Sides.map (Z3a d.Phase)).all (·.Fork) with
     | false=>
       rw [Z16]
       unfold Z6a
       rw [hall,Bool.and_false]
       rfl
     | true=>
       rw [Z06]
       generalize hS:d.Sides.map (Z3a d.Phase)=S at hall
       have hSl:S.length<64:=by rw [←hS];simpa using hl
       have k2:=Z68 S (Zdb d S (d.Sides.flatMap (Z4a d.ID d.Phase))) (fun pre=>((pre.length:Int),pre.map Z5a++S.drop pre.length)) (d.ID,2,0,S.map Z5a,d.Sides.flatMap (Z4a d.ID d.Phase)) (fun pre x post hp=>?_) ?_
       ·have k3:loop (Zdb d S (d.Sides.flatMap (Z4a d.ID d.Phase))) (0,S)=some (d.ID,2,0,S.map Z5a,d.Sides.flatMap (Z4a d.ID d.Phase)):=by simpa using k2
        rw [k3]
        unfold Z6a
        rw [hS,hall,decide_eq_true h1]
        rfl
       ·have hx:=Z78 hp
        have hm:=Z88 hp
        have hd:S.drop pre.length=x::post:=by rw [hp];simp
        have hd':S.drop (pre++[x]).length=post:=by rw [hp];simp
        dsimp only [Zdb]
        have e1:((pre.length:Nat):Int)=(((pre.map Z5a).length:Nat):Int):=by simp
        rw [Z66 hx,Z06,hd,hd',e1,Za8 rfl,Option.bind_some,Zb8,←e1,Zc8,Z86 (by omega)]
        simp [Z5a]
       ·dsimp only [Zdb]
        rw [Z76,Z16]
        simp [Zcb]
    ·rw [decide_eq_false h1,Z16]
     dsimp only [Zeb]
     rw [Z16]
     unfold Z6a
     rw [decide_eq_false h1,Bool.false_and]
     rfl
theorem Z9c (l:List Diner) (i:Nat):∀(xs:List Side) (p:Option Int),Zv8 l i p xs=true↔(∀x∈xs,Zs8 l i x=true)∧xs.Pairwise (fun x y=>x.Peer<y.Peer)∧∀q,p=some q→∀x∈xs,q<x.Peer
 | [],p=>by simp [Zv8]
 | x::r,p=>by
   simp only [Zv8,Bool.and_eq_true,Z9c l i r (some x.Peer)]
   constructor
   ·rintro ⟨h1,h2,h3,h4,h5⟩
    refine ⟨fun y hy=>?_,List.pairwise_cons.2 ⟨fun y hy=>h5 _ rfl y hy,h4⟩,?_⟩
    ·rcases List.mem_cons.1 hy with rfl | hy
     ·exact h2
     ·exact h3 y hy
    ·rintro q rfl y hy
     have hq:q<x.Peer:=by simpa [Zu8] using h1
     rcases List.mem_cons.1 hy with rfl | hy
     ·exact hq
     ·have:=h5 _ rfl y hy;omega
   ·rintro ⟨h1,h2,h3⟩
    rw [List.pairwise_cons] at h2
    refine ⟨?_,h1 x (by simp),fun y hy=>h1 y (by simp [hy]),h2.2,?_⟩
    ·cases p with
     | none=>rfl
     | some q=>simpa [Zu8] using h3 q rfl x (by simp)
    ·rintro q e y hy
     simp at e;subst e;exact h2.1 y hy
theorem okAll_iff (l:List Diner):∀(r:List Diner) (i:Nat),Zx8 l i r=true↔∀k d,r[k]?=some d→d.ID=((i+k:Nat):Int)∧Zv8 l (i+k) none d.Sides=true
 | [],i=>by simp [Zx8]
 | d::r,i=>by
   simp only [Zx8,Bool.and_eq_true,decide_eq_true_eq,okAll_iff l r (i+1)]
   constructor
   ·rintro ⟨h1,h2,h3⟩ k e he
    cases k with
    | zero=>simp at he;subst he;exact ⟨by simpa using h1,by simpa using h2⟩
    | succ k=>
      have:=h3 k e (by simpa using he)
      rw [show i+(k+1)=i+1+k by omega];exact this
   ·intro h
    refine ⟨by simpa using (h 0 d (by simp)).1,by simpa using (h 0 d (by simp)).2,fun k e he=>?_⟩
    have:=h (k+1) e (by simpa using he)
    rw [show i+1+k=i+(k+1) by omega];exact this
theorem Zac {i:Nat} {xs:List Side} {e:Edge}:e∈Zw8 i xs↔e.A=i∧(i:Int)<e.B∧∃x∈xs,x.Peer=e.B:=by
 unfold Zw8
 simp only [List.mem_map,List.mem_filter,decide_eq_true_eq]
 constructor
 ·rintro ⟨x,⟨h1,h2⟩,rfl⟩;exact ⟨rfl,h2,x,h1,rfl⟩
 ·rintro ⟨h1,h2,x,h3,h4⟩
  obtain ⟨a,b⟩:=e
  dsimp only at *
  subst h1;subst h4;exact ⟨x,⟨h3,h2⟩,rfl⟩
theorem Zbc:∀ {r:List Diner} {i:Nat} {e:Edge},e∈Zy8 i r↔∃k d,r[k]?=some d∧e∈Zw8 (i+k) d.Sides
 | [],i,e=>by simp [Zy8]
 | d::r,i,e=>by
   simp only [Zy8,List.mem_append,Zbc (r:=r)]
   constructor
   ·rintro (h | ⟨k,f,h1,h2⟩)
    ·exact ⟨0,d,by simp,by simpa using h⟩
    ·exact ⟨k+1,f,by simpa using h1,by rw [show i+(k+1)=i+1+k by omega];exact h2⟩
   ·rintro ⟨k,f,h1,h2⟩
    cases k with
    | zero=>simp at h1;subst h1;exact .inl (by simpa using h2)
    | succ k=>exact .inr ⟨k,f,by simpa using h1,by rw [show i+1+k=i+(k+1) by omega];exact h2⟩
theorem edgesD_pw {i:Nat} {xs:List Side} (h:xs.Pairwise fun x y=>x.Peer<y.Peer):(Zw8 i xs).Pairwise fun x y=>x.lt y=true:=by
 unfold Zw8
 rw [List.pairwise_map]
 refine (List.Pairwise.filter _ h).imp fun hxy=>?_
 simp [Edge.lt,hxy]
theorem edgesL_pw:∀ {r:List Diner} {i:Nat},(∀d∈r,d.Sides.Pairwise fun x y=>x.Peer<y.Peer)→(Zy8 i r).Pairwise fun x y=>x.lt y=true
 | [],_,_=>List.Pairwise.nil
 | d::r,i,h=>by
   simp only [Zy8]
   rw [List.pairwise_append]
   refine ⟨edgesD_pw (h d (by simp)),edgesL_pw fun e he=>h e (by simp [he]),fun x hx y hy=>?_⟩
   obtain ⟨h1,_,_⟩:=Zac.1 hx
   obtain ⟨k,e,_,hy⟩:=Zbc.1 hy
   obtain ⟨h2,_,_⟩:=Zac.1 hy
   have:x.A<y.A:=by rw [h1,h2];omega
   simp [Edge.lt,this]
set_option maxRecDepth 100000
set_option maxHeartbeats 4000000
@[go_sem] def e169:EC:=.seq (.reg [(Qa 2 (.mv (.c .ff)))]) (.seq (.reg [(Qm 3 0),(Qa 4 (.bin .lss (.t 3) (.c (.iv 1)))),(Qm 2 4)]) (.ret))
theorem ok169:FnOK Tryz.prog 169 Tryz.f169 e169 [.t 2] 1 4:=⟨by kernel_rfl,⟨_,rfl,by kernel_rfl⟩,by kernel_rfl,by kernel_rfl⟩
noncomputable def Zcc (x1:Int):Option Bool:=
 some (decide (x1<1))
theorem Zdc (x1:Int) (r:Bool) (h:Zcc x1=some r):Zp2 Tryz.prog 169 [.iv x1] (.bv r):=by
 refine Zt2 ok169 rfl rfl fun w0 H0=>?_
 rw [Zcc] at h
 refine Zk2 10 ?_;dsimp only [go_sem];refine An ?_;exact Zo4 (res:=fun (r:Bool)=>.bv r) ok169 h
set_option maxRecDepth 100000
set_option maxHeartbeats 4000000
@[go_sem] def e170:EC:=.seq (.reg [(Qx 2 30 2 0),(Qa 3 (.mv (.c .ff)))]) (.seq (.drw [(Ql 4 1),(Qf 5 0 2),(Ql 6 5),(Qk 7 1 4 6),(Ql 8 7),(Ql 9 1),(Qf 10 1 2),(Ql 11 10),(Qk 12 1 9 11),(Ql 13 12),(Qa 14 (.bin .eql (.t 8) (.t 13))),(Qm 3 14)] [[],[],[1],[0,2],[3],[],[],[6],[5,7],[8],[4,9],[10,0,1,2,3,4,5,6,7,8,9,10]] [[3],[2],[1,3],[0,2,4],[3,10],[8],[7],[6,8],[5,7,9],[8,10],[4,9,11],[10]]) (.ret))
theorem ok170:FnOK Tryz.prog 170 Tryz.f170 e170 [.t 3] 2 13:=⟨by kernel_rfl,⟨_,rfl,by kernel_rfl⟩,by kernel_rfl,by kernel_rfl⟩
noncomputable def Zec (x1:Edge) (x2:(List Int)):Option Bool:=
 (at_ x2 x1.A).bind fun x3=>
 (at_ x2 x1.B).bind fun x4=>
 some (decide (x3=x4))
theorem Zfc (x1:Edge) (x2:(List Int)) (r:Bool) (h:Zec x1 x2=some r):Zp2 Tryz.prog 170 [.agg (Edge.row x1),.elt ((Zv4 1 Zu4) x2) 0] (.bv r):=by
 refine Zt2 ok170 rfl rfl fun w0 H0=>?_
 rw [Zec] at h
 refine Zk2 6 ?_;dsimp only [go_sem];refine An ?_;refine Zf3 (by kernel_rfl) fun all hall hs hnap haf=>?_;dsimp only [go_sem];refine Z65 hall hs haf hnap 6 6 [3,2,3,4] [(4,[.sl 1 (List.map Zu4 x2),.ptr 0 0,.iv x1.A]),(2,[.sl 1 (List.map Zu4 x2),.ptr 0 1,.iv x1.B])] (by kernel_rfl) ?_;dsimp only [go_sem];obtain ⟨x3,ex3,h⟩:=Bs h;refine Zk4 hall hs haf hnap 3 Zu4 ex3 rfl rfl trivial rfl rfl rfl rfl ?_;refine Z55 hall hs haf hnap 1 4 ?_;dsimp only [go_sem];refine An ?_;obtain ⟨x4,ex4,h⟩:=Bs h
 refine Zk4 hall hs haf hnap 8 Zu4 ex4 rfl rfl trivial rfl rfl rfl rfl ?_;refine Z55 hall hs haf hnap 3 0 ?_;dsimp only [go_sem];refine An ?_;refine Zp3 rfl ?_ _;exact Zo4 (res:=fun (r:Bool)=>.bv r) ok170 h
set_option maxRecDepth 100000
set_option maxHeartbeats 4000000
@[go_sem] def e151:EC:=.seq (.reg [(Qx 2 53 2 0),(Qx 3 26 1 1),(Qa 4 (.mv (.c .ff)))]) (.seq (.seq (.reg [(Qe 5 2 2),(Qa 6 (.call 144 [(.t 5)])),(Qa 7 (.bin .neq (.t 6) (.c (.iv 0)))),(Qm 8 7),(Qn 9 8 false 3),(Qg 10 8 false (.len (.t 9))),(Qh 11 8 false 0 2),(Qn 12 8 false 11),(Qg 13 8 false (.bin .neq (.t 10) (.t 12))),(Qq 14 8 13),(Qm 15 14),(Qn 16 15 false 3),(Qg 17 15 false (.call 103 [(.t 16),(.c (.clo 169 []))])),(Qq 18 15 17)]) (.ite (.t 18) (.seq (.reg [(Qa 4 (.mv (.c .ff)))]) (.ret)) (.skip))) (.seq (.reg [(Qf 19 1 2),(Ql 20 19),(Qa 21 (.mkf 170 [(.t 3)])),(Qa 22 (.call 161 [(.t 20),(.t 21)])),(Qa 23 (.not (.t 22))),(Qm 4 23)]) (.ret)))
theorem ok151:FnOK Tryz.prog 151 Tryz.f151 e151 [.t 4] 2 22:=⟨by kernel_rfl,⟨_,rfl,by kernel_rfl⟩,by kernel_rfl,by kernel_rfl⟩
noncomputable def Zgc (x1:Graph) (x2:(List Int)):Bool→Option Bool
| x5=>
 ifb x5 (
 some false) (
 (Zl6 x1.Edges ((fun z=>Zec z x2))).bind fun x6=>
 some (!x6))
noncomputable def Zhc (x1:Graph) (x2:(List Int)):Option Bool:=
 (Z67 x1).bind fun x3=>
 ifb (!decide (x3=0)) (
 (Zgc x1 x2) true) (
 ifb (!decide ((ln Zu4 x2)=x1.N)) (
 (Zgc x1 x2) true) (
 (Zc7 x2 ((fun z=>Zcc z))).bind fun x4=>
 (Zgc x1 x2) x4))
theorem Zic (x1:Graph) (x2:(List Int)) (r:Bool) (h:Zhc x1 x2=some r):Zp2 Tryz.prog 151 [.agg (Graph.row x1),.sl 1 (List.map Zu4 x2)] (.bv r):=by
 refine Zt2 ok151 rfl rfl fun w0 H0=>?_
 rw [Zhc] at h
 refine Zk2 10 ?_;dsimp only [go_sem];refine An ?_;obtain ⟨x3,ex3,h⟩:=Bs h;refine Zy2 trivial (Z77 x1 _ ex3) (h:=?_);refine Zk2 2 ?_;dsimp only [go_sem];refine An ?_;refine Ze4 (fun (x5:Bool)=>(⟨(.any :: .any :: .ptr 0 0 :: .ptr 1 0::an 14 (.bv x5::an 5 [])),[some ⟨53,[.iv x1.N,.sl 2 (List.map Edge.row x1.Edges)]⟩,some ⟨26,[.sl 1 (List.map Zu4 x2)]⟩],[]⟩:St)) (Zgc x1 x2) r ?_ fun J1=>?_
 ·intro x5 h;rw [Zgc] at h;(try dsimp only);refine Zg4 h rfl (fun _ h=>?_) fun _ h=>?_
  ·refine Zk2 4 ?_;dsimp only [go_sem];refine An ?_;exact Zo4 (res:=fun (r:Bool)=>.bv r) ok151 h
  ·refine Zk2 6 ?_;dsimp only [go_sem];refine An ?_;obtain ⟨x6,ex6,h⟩:=Bs h;refine Zs4 trivial ((Zr4.refl _).block 1 rfl rfl) (Zm6 x1.Edges _ _ ((fun z=>Zec z x2)) ⟨by kernel_rfl,rfl,fun z r hz=>Zfc z x2 r hz⟩ _ ex6) (h:=?_);refine Zk2 3 ?_;dsimp only [go_sem];refine An ?_;exact Zo4 (res:=fun (r:Bool)=>.bv r) ok151 h
 ·refine Zn4 8 h rfl (fun _ h=>?_) fun _ h=>?_
  ·dsimp only [go_sem];refine Zk2 11 ?_;dsimp only [go_sem];refine An ?_;exact Zq4 J1 (s:=true) h
  ·dsimp only [go_sem];refine Zk2 7 ?_;dsimp only [go_sem];refine An ?_;refine Zn4 15 h rfl (fun _ h=>?_) fun _ h=>?_
   ·dsimp only [go_sem];refine Zk2 4 ?_;dsimp only [go_sem];refine An ?_;exact Zq4 J1 (s:=true) h
   ·dsimp only [go_sem];refine Zk2 1 ?_;dsimp only [go_sem];refine An ?_;obtain ⟨x4,ex4,h⟩:=Bs h;refine Zy2 trivial (Zd7 x2 _ _ ((fun z=>Zcc z)) ⟨by kernel_rfl,rfl,fun z r hz=>Zdc z r hz⟩ _ ex4) (h:=?_);refine Zk2 2 ?_;dsimp only [go_sem];refine An ?_;exact Zq4 J1 (s:=x4) h
set_option maxRecDepth 100000
set_option maxHeartbeats 4000000
@[go_sem] def e79:EC:=.seq (.reg [(Qx 2 30 2 0),(Qx 3 30 2 1),(Qa 4 (.mv (.c .ff)))]) (.seq (.reg [(Qf 5 0 2),(Ql 6 5),(Qf 7 0 3),(Ql 8 7),(Qa 9 (.bin .lss (.t 6) (.t 8))),(Qm 10 9),(Qh 11 10 false 0 2),(Qn 12 10 false 11),(Qh 13 10 false 0 3),(Qn 14 10 false 13),(Qg 15 10 false (.bin .eql (.t 12) (.t 14))),(Qg 16 10 false (.mv (.t 15))),(Qh 17 16 true 1 2),(Qn 18 16 true 17),(Qh 19 16 true 1 3),(Qn 20 16 true 19),(Qg 21 16 true (.bin .lss (.t 18) (.t 20))),(Qg 22 10 false (.pick (.t 16) (.t 21) (.c .ff))),(Qq 23 10 22),(Qm 4 23)]) (.ret))
theorem ok79:FnOK Tryz.prog 79 Tryz.f79 e79 [.t 4] 2 22:=⟨by kernel_rfl,⟨_,rfl,by kernel_rfl⟩,by kernel_rfl,by kernel_rfl⟩
noncomputable def Zjc:Bool→Option Bool
| x3=>
 some x3
noncomputable def Zkc (x1:Edge) (x2:Edge):Option Bool:=
 ifb (decide (x1.A<x2.A)) (
 Zjc true) (
 ifb (decide (x1.A=x2.A)) (
 Zjc (decide (x1.B<x2.B))) (
 Zjc false))
theorem Zlc (x1:Edge) (x2:Edge) (r:Bool) (h:Zkc x1 x2=some r):Zp2 Tryz.prog 79 [.agg (Edge.row x1),.agg (Edge.row x2)] (.bv r):=by
 refine Zt2 ok79 rfl rfl fun w0 H0=>?_
 rw [Zkc] at h
 refine Zk2 14 ?_;dsimp only [go_sem];refine An ?_;refine Ze4 (fun (x3:Bool)=>(⟨(an 4 (.bv x3::an 19 [])),[],[]⟩:St)) Zjc r ?_ fun J1=>?_
 ·intro x3 h;rw [Zjc] at h;(try dsimp only);exact Zo4 (res:=fun (r:Bool)=>.bv r) ok79 h
 ·refine Zn4 10 h rfl (fun _ h=>?_) fun _ h=>?_
  ·dsimp only [go_sem];refine Zk2 15 ?_;dsimp only [go_sem];refine An ?_;exact Zq4 J1 (s:=true) h
  ·dsimp only [go_sem];refine Zk2 6 ?_;dsimp only [go_sem];refine An ?_;refine Zn4 16 h rfl (fun _ h=>?_) fun _ h=>?_
   ·dsimp only [go_sem];refine Zk2 9 ?_;dsimp only [go_sem];refine An ?_;exact Zq4 J1 (s:=decide (x1.B<x2.B)) h
   ·dsimp only [go_sem];refine Zk2 9 ?_;dsimp only [go_sem];refine An ?_;exact Zq4 J1 (s:=false) h
set_option maxRecDepth 100000
set_option maxHeartbeats 4000000
@[go_sem] def e42_L0:EC:=.seq (.seq (.reg [(Qm 19 3),(Qf 20 1 1),(Ql 21 20),(Qa 22 (.len (.t 21))),(Qa 23 (.bin .lss (.t 19) (.t 22)))]) (.ite (.t 23) (.skip) (.exit 0))) (.seq (.blk 1 (.seq (.reg [(Qf 26 1 1),(Ql 27 26),(Qm 28 3),(Qk 29 2 27 28),(Qe 30 2 29),(Qa 4 (.alloc 30 [.iv 0,.iv 0])),(Qs 2 4 30)]) (.seq (.drw [(Qf 31 0 4),(Ql 32 31),(Qa 33 (.bin .lss (.t 32) (.c (.iv 0)))),(Qm 34 33),(Qh 35 34 false 0 4),(Qn 36 34 false 35),(Qh 37 34 false 1 4),(Qn 38 34 false 37),(Qg 39 34 false (.bin .geq (.t 36) (.t 38))),(Qq 40 34 39),(Qm 41 40),(Qh 42 41 false 1 4),(Qn 43 41 false 42),(Qh 44 41 false 0 1),(Qn 45 41 false 44),(Qg 46 41 false (.bin .geq (.t 43) (.t 45))),(Qq 47 41 46),(Qm 48 47),(Qg 49 48 false (.mv (.t 3))),(Qg 50 48 false (.bin .gtr (.t 49) (.c (.iv 0)))),(Qg 51 48 false (.mv (.t 50))),(Qh 52 51 true 1 1),(Qn 53 51 true 52),(Qg 54 51 true (.mv (.t 3))),(Qg 55 51 true (.bin .sub (.t 54) (.c (.iv 1)))),(Qg 56 51 true (.idx 2 (.t 53) (.t 55))),(Qg 57 51 true (.loadA 2 (.t 56))),(Qg 58 51 true (.loadA 2 (.t 4))),(Qg 59 51 true (.call 79 [(.t 57),(.t 58)])),(Qg 60 51 true (.not (.t 59))),(Qg 61 48 false (.pick (.t 51) (.t 60) (.c .ff))),(Qq 62 48 61)] [[],[0],[1],[2],[3],[4,3],[3],[6,3],[5,7,3],[3,8],[9,3],[10],[11,10],[10],[13,10],[12,14,10],[10,15],[16,10],[17],[18,17],[19,17,17],[20],[21,20],[20],[23,20],[22,24,20],[25,20],[20],[26,27,20,20],[28,20],[20,29,17],[17,30]] [[1],[0,2],[1,3],[2,4,5,6,7,8,9],[3,5],[3,4,8],[3,7],[3,6,8],[3,5,7,9],[3,8,10],[9,11,12,13,14,15,16],[10,12],[10,11,15],[10,14],[10,13,15],[10,12,14,16],[10,15,17],[16,18,19,20,30,31],[17,19],[17,18,20],[17,19,21,22,23,24,25,26,27,28,29,30],[20,22],[20,21,25],[20,24],[20,23,25],[20,22,24,26],[20,25,28],[20,28],[20,26,27,29],[20,28,30],[17,20,29,31],[17,30]]) (.ite (.t 62) (.seq (.reg [(Qa 2 (.mv (.c .ff)))]) (.ret)) (.skip))))) (.reg [(Qm 24 3),(Qv 25 24 1),(Qm 3 25)]))
@[go_sem] def e42:EC:=.seq (.reg [(Qx 1 53 2 0),(Qa 2 (.mv (.c .ff)))]) (.seq (.seq (.reg [(Qf 5 0 1),(Ql 6 5),(Qa 7 (.bin .lss (.t 6) (.c (.iv 0)))),(Qm 8 7),(Qh 9 8 false 0 1),(Qn 10 8 false 9),(Qg 11 8 false (.bin .gtr (.t 10) (.c (.iv 64)))),(Qq 12 8 11),(Qm 13 12),(Qh 14 13 false 1 1),(Qn 15 13 false 14),(Qg 16 13 false (.len (.t 15))),(Qg 17 13 false (.bin .gtr (.t 16) (.c (.iv 400)))),(Qq 18 13 17)]) (.ite (.t 18) (.seq (.reg [(Qa 2 (.mv (.c .ff)))]) (.ret)) (.skip))) (.seq (.seq (.reg [(Qi 3 0)]) (.blk 0 (.loop e42_L0))) (.seq (.reg [(Qa 2 (.mv (.c .tt)))]) (.ret))))
theorem ok42:FnOK Tryz.prog 42 Tryz.f42 e42 [.t 2] 1 62:=⟨by kernel_rfl,⟨_,rfl,by kernel_rfl⟩,by kernel_rfl,by kernel_rfl⟩
noncomputable def Zmc:Unit→Option Bool
| ()=>
 some true
noncomputable def Znc (x8:Int):Bool→Option (Int ⊕ Bool)
| x12=>
 ifb x12 (
 Option.map Sum.inr (some false)) (
 some (.inl (wr (x8+1))))
noncomputable def Zoc (x1:Graph):Int→Option (Int ⊕ Bool)
| x8=>
 ifb (decide (x8<(ln Edge.row x1.Edges))) (
 (at_ x1.Edges x8).bind fun x9=>
 ifb (decide (x9.A<0)) (
 (Znc x8) true) (
 ifb (decide (x9.B≤x9.A)) (
 (Znc x8) true) (
 ifb (decide (x1.N≤x9.B)) (
 (Znc x8) true) (
 ifb (decide (0<x8)) (
 (at_ x1.Edges (wr (x8-1))).bind fun x10=>
 (Zkc x10 x9).bind fun x11=>
 (Znc x8) (!x11)) (
 (Znc x8) false))))) (
 Option.map Sum.inr (Zmc ()))
noncomputable def Zpc (x1:Graph):Bool→Option Bool
| x2=>
 ifb x2 (
 some false) (
 loop (Zoc x1) 0)
noncomputable def Zqc (x1:Graph):Option Bool:=
 ifb (decide (x1.N<0)) (
 (Zpc x1) true) (
 ifb (decide (64<x1.N)) (
 (Zpc x1) true) (
 (Zpc x1) (decide (400<(ln Edge.row x1.Edges)))))
theorem Zrc (x1:Graph) (r:Bool) (h:Zqc x1=some r):Zp2 Tryz.prog 42 [.agg (Graph.row x1)] (.bv r):=by
 refine Zt2 ok42 rfl rfl fun w0 H0=>?_
 rw [Zqc] at h
 refine Zk2 12 ?_;dsimp only [go_sem];refine An ?_;refine Ze4 (fun (x2:Bool)=>(⟨(.any :: .ptr 0 0::an 16 (.bv x2::an 44 [])),[some ⟨53,[.iv x1.N,.sl 2 (List.map Edge.row x1.Edges)]⟩],[]⟩:St)) (Zpc x1) r ?_ fun J1=>?_
 ·intro x2 h;rw [Zpc] at h;(try dsimp only);refine Zg4 h rfl (fun _ h=>?_) fun _ h=>?_
  ·refine Zk2 4 ?_;dsimp only [go_sem];refine An ?_;exact Zo4 (res:=fun (r:Bool)=>.bv r) ok42 h
  ·refine Zk2 6 ?_;dsimp only [go_sem];refine An ?_;refine Ze4 (fun (_:Unit)=>(⟨(an 63 []),[],[]⟩:St)) Zmc r ?_ fun J2=>?_
   ·rintro ⟨⟩ h;rw [Zmc] at h;(try dsimp only);refine Zk2 4 ?_;dsimp only [go_sem];refine An ?_;exact Zo4 (res:=fun (r:Bool)=>.bv r) ok42 h
   ·refine Zk2 1 ?_;dsimp only [go_sem];refine An ?_;refine Zf4 h (fun (x8:Int)=>(⟨(.any :: .ptr 0 0 :: .any :: .iv x8::an 59 []),[some ⟨53,[.iv x1.N,.sl 2 (List.map Edge.row x1.Edges)]⟩],[]⟩:St)) (by simp [go_sem]) (by intro x8;first | rfl | simp [go_sem]) ?_;rintro n1 x8 y1 h hin1 hout1;rw [Zoc] at h;(try dsimp only);refine Zk2 9 ?_;dsimp only [go_sem];refine An ?_;refine Zg4 h rfl (fun _ h=>?_) fun _ h=>?_
    ·refine Zk2 8 ?_;dsimp only [go_sem];refine An ?_;obtain ⟨x9,ex9,h⟩:=Bs h;refine Zj4 Edge.row ex9 trivial rfl rfl rfl ?_;refine Zk2 5 ?_;dsimp only [go_sem];refine An ?_;refine Ze4 (fun (x12:Bool)=>(⟨(.any :: .ptr 0 0 :: .any :: .iv x8::an 58 [.bv x12]),[some ⟨53,[.iv x1.N,.sl 2 (List.map Edge.row x1.Edges)]⟩],[]⟩:St)) (Znc x8) y1 ?_ fun J3=>?_
     ·intro x12 h;rw [Znc] at h;(try dsimp only);refine Zg4 h rfl (fun _ h=>?_) fun _ h=>?_
      ·refine Zk2 4 ?_;dsimp only [go_sem];refine An ?_;exact Zo4 (res:=fun (r:Bool)=>.bv r) ok42 (Zd4 h hout1)
      ·refine Zk2 7 ?_;dsimp only [go_sem];refine An ?_;exact Zp4 h hin1
     ·refine Zf3 (by kernel_rfl) fun all hall hs hnap haf=>?_;dsimp only [go_sem];refine Z65 hall hs haf hnap 4 28 [4,28] [(31,[.ptr 1 0,.iv x9.A,.bv (decide (x9.A<0)),.bv (decide (x9.A<0))])] (by kernel_rfl) ?_;dsimp only [go_sem];refine Zx4 34 h rfl (fun _ h=>?_) fun _ h=>?_
      ·dsimp only [go_sem];refine Z65 hall hs haf hnap 28 0 [32] [(35,[.un,.un,.un,.un,.un,.tt,.tt,.un,.un,.un,.un,.un,.tt,.tt,.un,.un,.un,.un,.un,.un,.un,.un,.un,.un,.un,.un,.un,.tt])] (by kernel_rfl) ?_;dsimp only [go_sem];refine Zp3 rfl ?_ _;exact Zq4 J3 (s:=true) h
      ·dsimp only [go_sem];refine Z65 hall hs haf hnap 7 21 [11,21] [(35,[.ptr 1 0,.iv x9.A,.ptr 1 1,.iv x9.B,.bv (decide (x9.B≤x9.A)),.bv (decide (x9.B≤x9.A)),.bv (decide (x9.B≤x9.A))])] (by kernel_rfl) ?_;dsimp only [go_sem];refine Zx4 41 h rfl (fun _ h=>?_) fun _ h=>?_
       ·dsimp only [go_sem];refine Z65 hall hs haf hnap 21 0 [32] [(42,[.un,.un,.un,.un,.un,.tt,.tt,.un,.un,.un,.un,.un,.un,.un,.un,.un,.un,.un,.un,.un,.tt])] (by kernel_rfl) ?_;dsimp only [go_sem];refine Zp3 rfl ?_ _;exact Zq4 J3 (s:=true) h
       ·dsimp only [go_sem];refine Z65 hall hs haf hnap 7 14 [18,14] [(42,[.ptr 1 1,.iv x9.B,.ptr 0 0,.iv x1.N,.bv (decide (x1.N≤x9.B)),.bv (decide (x1.N≤x9.B)),.bv (decide (x1.N≤x9.B))])] (by kernel_rfl) ?_;dsimp only [go_sem];refine Zx4 48 h rfl (fun _ h=>?_) fun _ h=>?_
        ·dsimp only [go_sem];refine Z65 hall hs haf hnap 14 0 [32] [(49,[.un,.un,.un,.un,.un,.un,.un,.un,.un,.un,.un,.un,.un,.tt])] (by kernel_rfl) ?_;dsimp only [go_sem];refine Zp3 rfl ?_ _;exact Zq4 J3 (s:=true) h
        ·dsimp only [go_sem];refine Z65 hall hs haf hnap 3 11 [21,11] [(49,[.iv x8,.bv (decide (0<x8)),.bv (decide (0<x8))])] (by kernel_rfl) ?_;dsimp only [go_sem];refine Zx4 51 h rfl (fun _ h=>?_) fun _ h=>?_
         ·dsimp only [go_sem];refine Z65 hall hs haf hnap 5 6 [25,2,1,4] [(52,[.ptr 0 1,.sl 2 (List.map Edge.row x1.Edges),.iv x8,.iv (wr (x8-1))]),(2,[.agg [.iv x9.A,.iv x9.B]])] (by kernel_rfl) ?_;dsimp only [go_sem];obtain ⟨x10,ex10,h⟩:=Bs h;refine Zk4 hall hs haf hnap 25 Edge.row ex10 rfl rfl trivial rfl rfl rfl rfl ?_;refine Z55 hall hs haf hnap 1 4 ?_;dsimp only [go_sem];refine An ?_;refine Zq3 28 rfl ?_;obtain ⟨x11,ex11,h⟩:=Bs h;refine Zw3 hall rfl trivial (Zlc x10 x9 _ ex11) (h:=?_);dsimp only [go_sem]
          refine Z65 hall hs haf hnap 3 0 [32] [(60,[.bv (!x11),.bv (!x11),.bv (!x11)])] (by kernel_rfl) ?_;dsimp only [go_sem];refine Zp3 rfl ?_ _;exact Zq4 J3 (s:=!x11) h
         ·dsimp only [go_sem];refine Z65 hall hs haf hnap 11 0 [32] [(52,[.un,.un,.un,.un,.un,.un,.un,.un,.un,.ff,.ff])] (by kernel_rfl) ?_;dsimp only [go_sem];refine Zp3 rfl ?_ _;exact Zq4 J3 (s:=false) h
    ·refine Zk2 1 ?_;dsimp only [go_sem];refine An ?_;exact Zq4 J2 (s:=()) (Zd4 h hout1)
 ·refine Zn4 8 h rfl (fun _ h=>?_) fun _ h=>?_
  ·dsimp only [go_sem];refine Zk2 11 ?_;dsimp only [go_sem];refine An ?_;exact Zq4 J1 (s:=true) h
  ·dsimp only [go_sem];refine Zk2 5 ?_;dsimp only [go_sem];refine An ?_;refine Zn4 13 h rfl (fun _ h=>?_) fun _ h=>?_
   ·dsimp only [go_sem];refine Zk2 6 ?_;dsimp only [go_sem];refine An ?_;exact Zq4 J1 (s:=true) h
   ·dsimp only [go_sem];refine Zk2 6 ?_;dsimp only [go_sem];refine An ?_;exact Zq4 J1 (s:=decide (400<(ln Edge.row x1.Edges))) h
set_option maxRecDepth 100000
set_option maxHeartbeats 4000000
set_option maxRecDepth 100000
set_option maxHeartbeats 4000000
@[go_sem] def e33_L0:EC:=.seq (.seq (.reg [(Qm 6 5),(Qm 7 0),(Qa 8 (.len (.t 7))),(Qa 9 (.bin .lss (.t 6) (.t 8)))]) (.ite (.t 9) (.skip) (.exit 0))) (.seq (.blk 1 (.seq (.reg [(Qm 12 0),(Qm 13 5),(Qk 14 1 12 13),(Ql 15 14),(Qm 16 1),(Qa 17 (.bin .eql (.t 15) (.t 16)))]) (.ite (.t 17) (.seq (.reg [(Qa 4 (.mv (.c .tt)))]) (.ret)) (.skip)))) (.reg [(Qm 10 5),(Qv 11 10 1),(Qm 5 11)]))
@[go_sem] def e33:EC:=.seq (.reg [(Qa 4 (.mv (.c .ff)))]) (.seq (.seq (.reg [(Qi 5 0)]) (.blk 0 (.loop e33_L0))) (.seq (.reg [(Qa 4 (.mv (.c .ff)))]) (.ret)))
theorem ok33:FnOK Tryz.prog 33 Tryz.f33 e33 [.t 4] 2 16:=⟨by kernel_rfl,⟨_,rfl,by kernel_rfl⟩,by kernel_rfl,by kernel_rfl⟩
noncomputable def Zsc:Unit→Option Bool
| ()=>
 some false
noncomputable def Ztc (x1:(List Int)) (x2:Int):Int→Option (Int ⊕ Bool)
| x5=>
 ifb (decide (x5<(ln Zu4 x1))) (
 (at_ x1 x5).bind fun x6=>
 ifb (decide (x6=x2)) (
 Option.map Sum.inr (some true)) (
 some (.inl (wr (x5+1))))) (
 Option.map Sum.inr (Zsc ()))
noncomputable def Zuc (x1:(List Int)) (x2:Int):Option Bool:=
 loop (Ztc x1 x2) 0
theorem Zvc (x1:(List Int)) (x2:Int) (r:Bool) (h:Zuc x1 x2=some r):Zp2 Tryz.prog 33 [.sl 1 (List.map Zu4 x1),.iv x2] (.bv r):=by
 refine Zt2 ok33 rfl rfl fun w0 H0=>?_
 rw [Zuc] at h
 refine Zk2 9 ?_;dsimp only [go_sem];refine An ?_;refine Ze4 (fun (_:Unit)=>(⟨(an 18 []),[],[]⟩:St)) Zsc r ?_ fun J1=>?_
 ·rintro ⟨⟩ h;rw [Zsc] at h;(try dsimp only);refine Zk2 4 ?_;dsimp only [go_sem];refine An ?_;exact Zo4 (res:=fun (r:Bool)=>.bv r) ok33 h
 ·refine Zk2 1 ?_;dsimp only [go_sem];refine An ?_;refine Zf4 h (fun (x5:Int)=>(⟨(.sl 1 (List.map Zu4 x1) :: .iv x2::an 3 (.iv x5::an 12 [])),[],[]⟩:St)) (by simp [go_sem]) (by intro x5;first | rfl | simp [go_sem]) ?_;rintro n1 x5 y1 h hin1 hout1;rw [Ztc] at h;(try dsimp only);refine Zk2 8 ?_;dsimp only [go_sem];refine An ?_;refine Zg4 h rfl (fun _ h=>?_) fun _ h=>?_
  ·refine Zk2 7 ?_;dsimp only [go_sem];refine An ?_;obtain ⟨x6,ex6,h⟩:=Bs h;refine Zj4 Zu4 ex6 trivial rfl rfl rfl ?_;refine Zk2 4 ?_;dsimp only [go_sem];refine An ?_;refine Zg4 h rfl (fun _ h=>?_) fun _ h=>?_
   ·refine Zk2 4 ?_;dsimp only [go_sem];refine An ?_;exact Zo4 (res:=fun (r:Bool)=>.bv r) ok33 (Zd4 h hout1)
   ·refine Zk2 7 ?_;dsimp only [go_sem];refine An ?_;exact Zp4 h hin1
  ·refine Zk2 1 ?_;dsimp only [go_sem];refine An ?_;exact Zq4 J1 (s:=()) (Zd4 h hout1)
def cg (c:List Int) (i:Int):Int:=(c[i.toNat]?).getD 0
theorem at_cg {c:List Int} {i:Int} (h0:0≤i) (h:i<c.length):at_ c i=some (cg c i):=by
 obtain ⟨x,h1,h2⟩:=at_lt h0 h
 rw [h1,cg,h2];rfl
def Zwc (g:Graph) (c:List Int):Bool:=decide ((c.length:Int)=g.N)&&(c.all (fun x=>decide (1≤x))&&g.Edges.all (fun e=>!decide (cg c e.A=cg c e.B)))
theorem s_Right (g:Graph) (c:List Int) (_:c.length≤1000000):Zhc g c=some (okG g&&Zwc g c):=by
 simp only [Zhc,Zk7,Option.bind_some,Z26]
 cases hg:okG g with
 | false=>simp [Zgc]
 | true=>
   obtain ⟨g1,g2,g3,g4,g5⟩:=Zl7 hg
   simp only [if_true,decide_true,Z06,Bool.true_and,Zw4]
   by_cases hl:(c.length:Int)=g.N
   ·rw [Zi7 c (fun z=>Zcc z) (fun x=>decide (x<1)) (by omega) (fun x _=>rfl)]
    simp only [hl,decide_true,Z06,Option.bind_some,Zwc,Bool.true_and]
    have e1:c.any (fun x=>decide (x<1))=!c.all (fun x=>decide (1≤x)):=Zm7 _ _ _ (fun x=>by
     by_cases h:x<1
     ·have:¬1≤x:=by omega
      simp [h,this]
     ·have:1≤x:=by omega
      simp [h,this])
    rw [e1]
    cases hp:c.all (fun x=>decide (1≤x)) with
    | false=>simp [Zgc]
    | true=>
      simp only [Bool.not_true,Zgc,Z16]
      rw [Zh7 g.Edges _ (fun e=>decide (cg c e.A=cg c e.B)) (by omega) (fun e he=>by
       obtain ⟨k1,k2,k3⟩:=g4 e he
       simp only [Zec,at_cg (c:=c) k1 (by omega),at_cg (c:=c) (show 0≤e.B by omega) (by omega),Option.bind_some])]
      simp [all_not_any]
   ·simp [hl,Zwc,Zgc]
theorem s_ahead (x y:Edge):Zkc x y=some (x.lt y):=by
 simp only [Zkc,Zjc,Edge.lt]
 by_cases h1:x.A<y.A
 ·simp [h1]
 ·by_cases h2:x.A=y.A<;>simp [h1,h2]
theorem s_r03Check (g:Graph):Zqc g=some (okG g):=by
 simp only [Zqc,Zpc]
 by_cases h1:g.N<0
 ·have:¬0≤g.N:=by omega
  simp [h1,okG,this]
 by_cases h2:64<g.N
 ·have:¬g.N≤64:=by omega
  simp [h1,h2,okG,this]
 by_cases h3:400<g.Edges.length
 ·have:¬g.Edges.length≤400:=by omega
  have h3':(400:Int)<ln Edge.row g.Edges:=by rw [Zw4];omega
  simp [h1,h2,h3',okG,this]
 have h3':¬(400:Int)<ln Edge.row g.Edges:=by rw [Zw4];omega
 have e1:0≤g.N:=by omega
 have e2:g.N≤64:=by omega
 have e3:g.Edges.length≤400:=by omega
 simp only [h1,h2,h3',decide_false,Z16,okG,e1,e2,e3,decide_true,Bool.true_and]
 have key:=Zj7 g.Edges (Zoc g) false true (fun e=>!e.ok g.N) (by omega) (fun k x hx=>by
  have hw:wr ((k:Int)+1)=((k+1:Nat):Int):=Z96 hx (by omega)
  simp only [Zoc,Z66 hx,Z06,Z46 hx,Option.bind_some,Znc,hw,Edge.ok]
  by_cases k1:x.A<0
  ·have:¬0≤x.A:=by omega
   simp [k1,this]
  ·have k1':0≤x.A:=by omega
   by_cases k2:x.B≤x.A
   ·have:¬x.A<x.B:=by omega
    simp [k1,k2,this]
   ·have k2':x.A<x.B:=by omega
    by_cases k3:g.N≤x.B
    ·have:¬x.B<g.N:=by omega
     simp [k1,k2,k3,this]
    ·have k3':x.B<g.N:=by omega
     simp only [k1,k2,k3,k1',k2',k3',decide_false,decide_true,Z16,Bool.and_self,Bool.not_true,Bool.false_or]
     cases k with
     | zero=>simp
     | succ k=>
       have hk:=(List.getElem?_eq_some_iff.1 hx).1
       have hy:g.Edges[k]?=some g.Edges[k]:=List.getElem?_eq_getElem (by omega)
       have h0:decide ((0:Int)<((k+1:Nat):Int))=true:=decide_eq_true (by omega)
       simp only [h0,Z06,wr_pred (show k≤4000000000000000000 by omega),Z46 hy,hy,Option.bind_some,s_ahead]
       cases g.Edges[k].lt x<;>simp)
  (by simp only [Zoc,Z76,Z16,Zmc,Option.map_some])
 rw [key]
 have:g.Edges.all (fun x=>!!Edge.ok g.N x)=g.Edges.all (Edge.ok g.N):=by simp
 rw [this]
 cases g.Edges.all (Edge.ok g.N)&&risB g.Edges<;>rfl
theorem Zxc (l:List Int) (x:Int) (hl:l.length≤1000000):Zuc l x=some (decide (x∈l)):=by
 unfold Zuc
 rw [Zg6 l (Ztc l x) (fun y=>decide (y=x)) true false (by omega) (fun k y hy=>by
  have hw:wr ((k:Int)+1)=((k+1:Nat):Int):=Z96 hy (by omega)
  simp only [Ztc,Z66 hy,Z06,Z46 hy,Option.bind_some,hw]
  by_cases h:y=x<;>simp [h])
  (by simp only [Ztc,Z76,Z16,Zsc,Option.map_some])]
 by_cases h:x∈l
 ·have:l.any (fun y=>decide (y=x))=true:=by rw [List.any_eq_true];exact ⟨x,h,by simp⟩
  simp [this,h]
 ·have:l.any (fun y=>decide (y=x))=false:=by
   rw [List.any_eq_false];intro y hy;simp;rintro rfl;exact h hy
  simp [this,h]
end NX
end Go.Proofs.YtacfbmldajmjiaaGreat
namespace Go.Proofs.YtacfbmldajmjiaaGreat
namespace NX
open Go Go.RowKit
section
variable {c:Ctx} {M:Mem} {S S':St} {a:Act} {w:World} {fn:Func} {K:AV→List (Option Blk)→List (Option Sl)→Prop} {k:List It} {bs:List (Option Blk)} {ss:List (Option Sl)}
theorem isLL_ints {M:Mem} {zs:List Int} {vss:List (List Value)} (h:AV.isLL M 1 (zs.map Zu4) vss):vss.flatten=zs.map (Value.int .i64):=by
 induction zs generalizing vss with
 | nil=>simp [AV.isLL] at h;subst h;rfl
 | cons z zs ih=>
   obtain ⟨v,r,rfl,h1,h2,h3⟩:=h
   obtain ⟨u,q,rfl,h4,h5⟩:=h2
   simp only [AV.isL] at h5
   simp only [AV.is] at h4
   subst h5;subst h4
   simp [ih h3]
theorem Zyc {M:Mem}:∀(zs:List Int),∃vss,AV.isLL M 1 (zs.map Zu4) vss∧vss.flatten=zs.map (Value.int .i64)
 | []=>⟨[],rfl,rfl⟩
 | z::zs=>by
   obtain ⟨vss,h1,h2⟩:=Zyc (M:=M) zs
   exact ⟨[.int .i64 z]::vss,⟨_,_,rfl,rfl,⟨_,_,rfl,rfl,rfl⟩,h1⟩,by simp [h2]⟩
theorem sem_sort {ρ:Shelf.Ren} (Ly:Lays.n189 c.P ρ) {j T:Nat} {x:X} {zs:List Int} (hx:S.x x = .osl j) (hj:Zf S.ss j=some ⟨T,1,zs.map Zu4⟩) (hlen:zs.length<4611686018427387904):
  Zu2 c S (.call (ρ.f 189) [x]) (.tup []) ⟨S.tm,S.bs,Zg S.ss j (some ⟨T,1,(zs.mergeSort fun x y=>decide (x≤y)).map Zu4⟩)⟩:=by
 intro ro ho M a w hT next Q hn
 obtain ⟨dst,op,ty,pos,af,gd⟩:=ro
 dsimp only at ho
 obtain ⟨cargs,argTypes,rfl,hfn,hxs⟩:=Zx2 ho
 obtain ⟨q,rfl⟩:∃q,cargs = #[q]:=by
  have:cargs.toList.length=1:=by have:=congrArg List.length hxs;simpa using this
  obtain ⟨l⟩:=cargs
  match l,this with
  | [q],_=>exact ⟨q,rfl⟩
 have hqx:cX q=x:=by simpa using hxs
 have hq:=Zv1 hT q
 rw [hqx,hx] at hq
 obtain ⟨hjn,hq⟩:=hq
 obtain ⟨g0,vss,h1,h2,h3,h4⟩:=hT.st.slc j _ hj
 dsimp only at h1 h3 g0
 have hfl:=isLL_ints h1
 have hrun:(execOp a.eval ⟨dst,.call ⟨.value (.func (ρ.f 189)), #[q],argTypes⟩,ty,pos,af,gd⟩).run c.P w = .ok (.enter (ρ.f 189) (#[q].map a.eval)) w:=by
  have he:a.eval (.func (ρ.f 189)) = .func (.func (ρ.f 189)) #[] #[]:=rfl
  generalize a.eval=ρ' at *
  simp [execOp,resolve,Deferred.ofValue,invoke,he,Zw2 hfn]
 have e1:(#[q].map a.eval) = #[M.σ j]:=by
  apply Array.ext';simp;exact hq
 rw [e1] at hrun
 unfold Oper.wp
 rw [hrun]
 show Calls c.P (ρ.f 189) #[M.σ j] w _
 obtain ⟨rs,hr1,hr2⟩:=Zyc (M:=M.pure) (zs.mergeSort fun x y=>decide (x≤y))
 have hone:∀v∈rs.flatten,v.oneCell'=true:=by
  rw [hr2];intro v hv
  obtain ⟨z,_,rfl⟩:=List.mem_map.1 hv;rfl
 have hl2:(zs.mergeSort fun x y=>decide (x≤y)).length=zs.length:=by simp
 rcases h3.2 with ⟨e2,e3⟩ | ⟨g,cap,cur,e2,hb,e3,e4,e5,e6,e7⟩
 ·have hz:zs=[]:=by simpa using e3
  subst hz
  rw [e2]
  refine (Any.slices_Sort_int_none Ly none 0 w).mono ?_
  rintro e w' ⟨rfl,rfl⟩
  refine hn M _ _ (.refl M) ?_ ⟨[],rfl,rfl⟩
  have:Zg S.ss j (some (⟨T,1,([].mergeSort fun (x y:Int)=>decide (x≤y)).map Zu4⟩:Sl))=S.ss:=by
   have hj':=hj
   simp only [List.map_nil] at hj'
   have:∀(l:List (Option Sl)) (j:Nat) (L:Sl),Zf l j=some L→Zg l j (some L)=l:=by
    intro l
    induction l with
    | nil=>intro j L h;simp [Zf] at h
    | cons x l ih=>intro j L h;cases j with
      | zero=>simp [Zf] at h;subst h;rfl
      | succ j=>simp only [Zg];rw [ih j L (by simpa [Zf] using h)]
   simpa using this _ _ _ hj'
  rw [this];exact hT.st
 ·have e4':zs.length≤cap:=by simpa using e4
  rw [e2]
  simp only [List.length_map]
  rw [Nat.mul_one,List.length_map] at e7
  rw [hfl] at e7
  refine (Any.slices_Sort_int Ly g 0 cap zs w (holds_of_blockI e3 e7) (Array.getElem?_eq_some_iff.1 e3).1 hlen).mono ?_
  rintro e w' ⟨rfl,n,os,rfl⟩
  refine hn M _ _ (.refl M) ?_ ⟨[],rfl,rfl⟩
  refine hT.st.rewrite hj (g:=g) (by rw [e2];rfl) (grownBy_sortedI _) (vss':=rs) hr1 hone ?_
  rw [hr2,List.length_map,hl2,e2,List.length_map]
  exact ownsRow_sortedI (ss:=zs) hl2 hb e3 e4' e5 e6
theorem V_sort {ρ:Shelf.Ren} (Ly:Lays.n189 c.P ρ) {d:Option Nat} {g:Option (Nat×Bool)} {l:List EOp} {j T f:Nat} {x:X} (zs:List Int) (hg:gm S g) (hf:f=ρ.f 189) (hx:S.x x = .osl j) (hj:Zf S.ss j=some ⟨T,1,zs.map Zu4⟩) (hlen:zs.length<4611686018427387904)
  (h:V c fn K (.ops l::k) ((⟨S.tm,S.bs,Zg S.ss j (some ⟨T,1,(zs.mergeSort fun x y=>decide (x≤y)).map Zu4⟩)⟩:St).put d (.tup []))):V c fn K (.ops (⟨d,g,.call f [x]⟩::l)::k) S:=by
 subst hf
 exact Zv2 hg (sem_sort Ly hx hj hlen) rfl h
theorem sem_compact {ρ:Shelf.Ren} (Ly:Lays2.n20 c.P ρ) {j T:Nat} {x:X} {zs:List Int} (hx:S.x x = .osl j) (hj:Zf S.ss j=some ⟨T,1,zs.map Zu4⟩) (hlen:zs.length<4611686018427387904):
  Zu2 c S (.call (ρ.f 20) [x]) (.osl (Zj S.ss)) ⟨S.tm,S.bs,Zg S.ss j none++[some ⟨T,1,(Lib.compact zs).map Zu4⟩]⟩:=by
 intro ro ho M a w hT next Q hn
 obtain ⟨dst,op,ty,pos,af,gd⟩:=ro
 dsimp only at ho
 obtain ⟨cargs,argTypes,rfl,hfn,hxs⟩:=Zx2 ho
 obtain ⟨q,rfl⟩:∃q,cargs = #[q]:=by
  have:cargs.toList.length=1:=by have:=congrArg List.length hxs;simpa using this
  obtain ⟨l⟩:=cargs
  match l,this with
  | [q],_=>exact ⟨q,rfl⟩
 have hqx:cX q=x:=by simpa using hxs
 have hq:=Zv1 hT q
 rw [hqx,hx] at hq
 obtain ⟨hjn,hq⟩:=hq
 have hS:=hT.st
 obtain ⟨g0,vss,h1,h2,h3,h4⟩:=hS.slc j _ hj
 dsimp only at h1 h3 g0
 have hfl:=isLL_ints h1
 have hrun:(execOp a.eval ⟨dst,.call ⟨.value (.func (ρ.f 20)), #[q],argTypes⟩,ty,pos,af,gd⟩).run c.P w = .ok (.enter (ρ.f 20) (#[q].map a.eval)) w:=by
  have he:a.eval (.func (ρ.f 20)) = .func (.func (ρ.f 20)) #[] #[]:=rfl
  generalize a.eval=ρ' at *
  simp [execOp,resolve,Deferred.ofValue,invoke,he,Zw2 hfn]
 have e1:(#[q].map a.eval) = #[M.σ j]:=by
  apply Array.ext';simp;exact hq
 rw [e1] at hrun
 unfold Oper.wp
 rw [hrun]
 show Calls c.P (ρ.f 20) #[M.σ j] w _
 obtain ⟨rs,hr1,hr2⟩:=Zyc (M:=M.pure) (Lib.compact zs)
 have hone:∀v∈rs.flatten,v.oneCell'=true:=by
  rw [hr2];intro v hv
  obtain ⟨z,_,rfl⟩:=List.mem_map.1 hv;rfl
 have hcl:=Lib.compact_length_le zs
 have hsub:∀i N,Zf (Zg S.ss j none) i=some N→Zf S.ss i=some N∧∀g,(M.σ j).ownBlock=some g→(M.σ i).ownBlock≠some g:=by
  intro i N hi
  rw [Za1] at hi
  split at hi
  ·simp at hi
  ·rename_i e
   refine ⟨hi,fun g hg e2=>e ⟨?_,Zc1 hj⟩⟩
   exact hS.d3 i j N _ g hi hj e2 hg
 have fin:∀v' w',w.grownBy w' (M.σ j).ownBlock→v'.ownBlock=(M.σ j).ownBlock→w'.ownsRow 0 T 1 v' (Lib.compact zs).length rs.flatten→next (a.put dst v') w':=fun v' w' hg hv hrow=>by
  have hr:RelS c (M.addS v') S.bs (Zg S.ss j none++[some (⟨T,1,(Lib.compact zs).map Zu4⟩:Sl)]) w':=
   RelS.grown (v:=M.σ j) (vss:=rs) hS (Zb1 _ _ _) hsub (.inr fun i B hi=>hS.d2 i j B _ hi hj) h4 hg (.inl hv) g0 hr1 hone (by simpa using hrow)
  refine hn (M.addS v') w' v' (Mem.le_addS M v') hr ?_
  rw [Z61,←hS.ns]
  exact ⟨Nat.lt_succ_self _,by simp [Mem.addS]⟩
 rcases h3.2 with ⟨e2,e3⟩ | ⟨g,cap,cur,e2,hb,e3,e4,e5,e6,e7⟩
 ·have hz:zs=[]:=by simpa using e3
  subst hz
  rw [e2] at fin ⊢
  refine (Any.slices_Compact_int_empty Ly none 0 w).mono ?_
  rintro e w' ⟨rfl,rfl⟩
  refine fin _ _ ⟨rfl,rfl,rfl,Nat.le_refl _,fun _ _ _=>rfl⟩ rfl ?_
  rw [hr2]
  exact World.ownsRow_nil _ _ _ _
 ·have e4':zs.length≤cap:=by simpa using e4
  rw [e2] at fin ⊢
  simp only [List.length_map]
  rw [Nat.mul_one,List.length_map] at e7
  rw [hfl] at e7
  refine (Any.slices_Compact_int Ly g 0 cap zs w (holds_of_blockI e3 e7) (by omega) e4').mono ?_
  rintro e w' ⟨rfl,n,rfl⟩
  have hgr:=grownBy_sortedI (w:=w) (g:=g) (n:=n) (os:= #[]) (Lib.compact zs++List.replicate (zs.length-(Lib.compact zs).length) 0).toArray
  have hhp:=heap_sortedI (w:=w) (g:=g) (n:=n) (os:= #[]) (Lib.compact zs++List.replicate (zs.length-(Lib.compact zs).length) 0).toArray e3
  rw [Sort.grow_empty] at hgr hhp
  refine fin _ _ hgr rfl ⟨by rw [hr2];simp,.inr ⟨g,cap,_,rfl,hb,hhp,by omega,e5,by simp [Sort.putCells,e6],?_⟩⟩
  have htk:=take_putCellsI cur (Lib.compact zs++List.replicate (zs.length-(Lib.compact zs).length) 0) (by simp;omega)
  rw [hr2,Nat.mul_one]
  have:=congrArg (List.take (Lib.compact zs).length) htk
  rw [List.take_take,List.map_append,List.take_append_of_le_length (by simp)] at this
  rw [Nat.min_eq_left (by simp)] at this
  rw [this,List.take_of_length_le (by simp)]
theorem V_compact {ρ:Shelf.Ren} (Ly:Lays2.n20 c.P ρ) {d:Option Nat} {g:Option (Nat×Bool)} {l:List EOp} {j T f:Nat} {x:X} (zs:List Int) (hg:gm S g) (hf:f=ρ.f 20) (hx:S.x x = .osl j) (hj:Zf S.ss j=some ⟨T,1,zs.map Zu4⟩) (hlen:zs.length<4611686018427387904)
  (h:V c fn K (.ops l::k) ((⟨S.tm,S.bs,Zg S.ss j none++[some ⟨T,1,(Lib.compact zs).map Zu4⟩]⟩:St).put d (.osl (Zj S.ss)))):V c fn K (.ops (⟨d,g,.call f [x]⟩::l)::k) S:=by
 subst hf
 exact Zv2 hg (sem_compact Ly hx hj hlen) rfl h
end
end NX
end Go.Proofs.YtacfbmldajmjiaaGreat
