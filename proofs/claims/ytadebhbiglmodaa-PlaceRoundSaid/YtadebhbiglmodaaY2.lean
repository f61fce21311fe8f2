/-
  The function narthex/place.Graph: its code compiled, a model, and that the code answers as the model. Written by a program of ours (lb.py). No statement of the seat is proved here.
-/
import Derived.KernelRfl
import Derived.Shelf.Sort.Plain
import Derived.Shelf.Slices.In.SortNone
import Derived.Sort.OwnSortedInts
import Derived.Shelf.Slices.CompactI
import Derived.Lib.RowBridge
import Derived.Test.YtadebhbiglmodaaY1
namespace Go.Proofs.Ytadebhbiglmodaa
namespace NX
open Go
set_option maxRecDepth 100000
set_option maxHeartbeats 4000000
@[go_sem] def e21_L1:EC:=.seq (.reg [(Qa 34 (.bin .lss (.t 33) (.t 32)))]) (.seq (.ite (.t 34) (.skip) (.exit 2)) (.seq (.blk 3 (.seq (.reg [(Qm 35 33),(Qk 36 8 31 33),(Qe 37 8 36),(Qa 8 (.alloc 49 [.iv 0,.iv 0,.iv 0,.ff,.ff,.ff,.ff,.ff])),(Qm 7 35),(Qs 8 8 37)]) (.seq (.seq (.drw [(Qf 38 0 8),(Ql 39 38),(Qa 40 (.bin .lss (.t 39) (.c (.iv 0)))),(Qm 41 40),(Qh 42 41 false 0 8),(Qn 43 41 false 42),(Qg 44 41 false (.mv (.t 0))),(Qg 45 41 false (.len (.t 44))),(Qg 46 41 false (.bin .geq (.t 43) (.t 45))),(Qq 47 41 46),(Qm 48 47),(Qh 49 48 false 0 8),(Qn 50 48 false 49),(Qg 51 48 false (.mv (.t 5))),(Qg 52 48 false (.bin .eql (.t 50) (.t 51))),(Qq 53 48 52),(Qm 54 53),(Qg 55 54 false (.mv (.t 7))),(Qg 56 54 false (.bin .gtr (.t 55) (.c (.iv 0)))),(Qg 57 54 false (.mv (.t 56))),(Qh 58 57 true 2 6),(Qn 59 57 true 58),(Qg 60 57 true (.mv (.t 7))),(Qg 61 57 true (.bin .sub (.t 60) (.c (.iv 1)))),(Qg 62 57 true (.idx 8 (.t 59) (.t 61))),(Qh 63 57 true 0 62),(Qn 64 57 true 63),(Qh 65 57 true 0 8),(Qn 66 57 true 65),(Qg 67 57 true (.bin .geq (.t 64) (.t 66))),(Qg 68 54 false (.pick (.t 57) (.t 67) (.c .ff))),(Qq 69 54 68)] [[],[0],[1],[2],[3],[4,3],[3],[6,3],[5,7,3],[3,8],[9,3],[10],[11,10],[10],[12,13,10],[10,14],[15,10],[16],[17,16],[18,16,16],[19],[20,19],[19],[22,19],[21,23,19],[24,19],[25,19],[19],[27,19],[26,28,19],[19,29,16],[16,30]] [[1],[0,2],[1,3],[2,4,5,6,7,8,9],[3,5],[3,4,8],[3,7],[3,6,8],[3,5,7,9],[3,8,10],[9,11,12,13,14,15],[10,12],[10,11,14],[10,14],[10,12,13,15],[10,14,16],[15,17,18,19,30,31],[16,18],[16,17,19],[16,18,20,21,22,23,24,25,26,27,28,29,30],[19,21],[19,20,24],[19,23],[19,22,24],[19,21,23,25],[19,24,26],[19,25,29],[19,28],[19,27,29],[19,26,28,30],[16,19,29,31],[16,30]]) (.ite (.t 69) (.seq (.reg [(Qa 70 (.build [.iv 0,.nl] [])),(Qs 2 2 70),(Qa 3 (.mv (.c .ff)))]) (.ret)) (.skip))) (.seq (.seq (.reg [(Qm 72 0),(Qf 73 0 8),(Ql 74 73),(Qk 75 3 72 74),(Qe 76 3 75),(Qm 77 5),(Qa 78 (.call 24 [(.t 76),(.t 77)])),(Qm 71 78),(Qa 79 (.ext (.t 71) 0)),(Qa 80 (.ext (.t 71) 1)),(Qa 9 (.alloc 49 [.iv 0,.iv 0,.iv 0,.ff,.ff,.ff,.ff,.ff])),(Qs 8 9 79),(Qm 10 80)]) (.seq (.reg [(Qm 81 10),(Qa 82 (.not (.t 81)))]) (.ite (.t 82) (.seq (.reg [(Qa 83 (.build [.iv 0,.nl] [])),(Qs 2 2 83),(Qa 3 (.mv (.c .ff)))]) (.ret)) (.skip)))) (.seq (.reg [(Qm 84 5),(Qf 85 0 8),(Ql 86 85),(Qa 87 (.bin .lss (.t 84) (.t 86)))]) (.ite (.t 87) (.reg [(Qf 88 1 4),(Ql 89 88),(Qm 90 5),(Qf 91 0 8),(Ql 92 91),(Qa 93 (.build [.iv 0,.iv 0] [(0,1,(.t 90)),(1,1,(.t 92))])),(Qa 94 (.bsl 58 2 1 [.iv 0,.iv 0] [(0,(.t 93))])),(Qa 95 (.app 58 2 16 (.t 89) (.t 94))),(Qf 96 1 4),(Qs 1 96 95)]) (.skip))))))) (.reg [(Qv 97 33 1),(Qm 33 97)])))
@[go_sem] def e21_L0:EC:=.seq (.reg [(Qa 21 (.bin .lss (.t 20) (.t 19)))]) (.seq (.ite (.t 21) (.skip) (.exit 0)) (.seq (.blk 1 (.seq (.reg [(Qm 22 20),(Qk 23 3 18 20),(Qe 24 3 23),(Qa 6 (.alloc 39 [.iv 0,.iv 0,.nl])),(Qm 5 22),(Qs 3 6 24)]) (.seq (.seq (.reg [(Qf 25 0 6),(Ql 26 25),(Qm 27 5),(Qa 28 (.bin .neq (.t 26) (.t 27)))]) (.ite (.t 28) (.seq (.reg [(Qa 29 (.build [.iv 0,.nl] [])),(Qs 2 2 29),(Qa 3 (.mv (.c .ff)))]) (.ret)) (.skip))) (.seq (.reg [(Qf 30 2 6),(Ql 31 30),(Qa 32 (.len (.t 31))),(Qi 33 0)]) (.blk 2 (.loop e21_L1)))))) (.reg [(Qv 98 20 1),(Qm 20 98)])))
@[go_sem] def e21:EC:=.seq (.reg [(Qa 2 (.alloc 24 [.iv 0,.nl])),(Qa 3 (.mv (.c .ff)))]) (.seq (.seq (.reg [(Qm 11 0),(Qa 12 (.len (.t 11))),(Qa 13 (.bin .gtr (.t 12) (.c (.iv 64))))]) (.ite (.t 13) (.seq (.reg [(Qa 14 (.build [.iv 0,.nl] [])),(Qs 2 2 14),(Qa 3 (.mv (.c .ff)))]) (.ret)) (.skip))) (.seq (.reg [(Qm 15 0),(Qa 16 (.len (.t 15))),(Qa 17 (.build [.iv 0,.nl] [(0,1,(.t 16))])),(Qa 4 (.alloc 24 [.iv 0,.nl])),(Qs 2 4 17)]) (.seq (.seq (.reg [(Qm 18 0),(Qa 19 (.len (.t 18))),(Qi 20 0)]) (.blk 0 (.loop e21_L0))) (.seq (.seq (.reg [(Qe 99 2 4),(Qa 100 (.call 49 [(.t 99)])),(Qa 101 (.bin .neq (.t 100) (.c (.iv 0))))]) (.ite (.t 101) (.seq (.reg [(Qa 102 (.build [.iv 0,.nl] [])),(Qs 2 2 102),(Qa 3 (.mv (.c .ff)))]) (.ret)) (.skip))) (.seq (.reg [(Qe 103 2 4),(Qs 2 2 103),(Qa 3 (.mv (.c .tt)))]) (.ret))))))
theorem ok21:FnOK Try.prog 21 Try.f21 e21 [.c 2 (some 2),.t 3] 1 103:=⟨by kernel_rfl,⟨_,rfl,by kernel_rfl⟩,by kernel_rfl,by kernel_rfl⟩
noncomputable def Z57 (x1:(List Diner)):(List Edge)→Option (Graph×Bool)
| x78=>
 (Zb6 ((Graph.mk (ln Diner.row x1) x78))).bind fun x79=>
 ifb (!decide (x79=0)) (
 some ((Graph.mk 0 (([]:(List Edge)))),false)) (
 some ((Graph.mk (ln Diner.row x1) x78),true))
noncomputable def Z67 (x35:Int):(List Edge)→Option ((Int×(List Edge)) ⊕ (Graph×Bool))
| x69=>
 some (.inl (wr (x35+1),x69))
noncomputable def Z77 (x47:Int):(List Edge)→Option ((Int×(List Edge)) ⊕ ((Int×(List Edge)) ⊕ (Graph×Bool)))
| x55=>
 some (.inl (wr (x47+1),x55))
noncomputable def Z87 (x1:(List Diner)) (x35:Int) (x47:Int) (x48:(List Edge)) (x49:Side):Bool→Option ((Int×(List Edge)) ⊕ ((Int×(List Edge)) ⊕ (Graph×Bool)))
| x51=>
 ifb x51 (
 Option.map Sum.inr (Option.map Sum.inr (some ((Graph.mk 0 (([]:(List Edge)))),false)))) (
 (at_ x1 x49.Peer).bind fun x52=>
 (Zs6 x52 x35).bind fun x53=>
 ifb (!x53.2) (
 Option.map Sum.inr (Option.map Sum.inr (some ((Graph.mk 0 (([]:(List Edge)))),false)))) (
 ifb (decide (x35<x49.Peer)) (
 (app_ 16 x48 ([(Edge.mk x35 x49.Peer)])).bind fun x54=>
 (Z77 x47) x54) (
 (Z77 x47) x48)))
noncomputable def Z97 (x1:(List Diner)) (x35:Int) (x37:Diner):(Int×(List Edge))→Option ((Int×(List Edge)) ⊕ ((Int×(List Edge)) ⊕ (Graph×Bool)))
| (x47,x48)=>
 ifb (decide (x47<(ln Side.row x37.Sides))) (
 (at_ x37.Sides x47).bind fun x49=>
 ifb (decide (x49.Peer<0)) (
 (Z87 x1 x35 x47 x48 x49) true) (
 ifb (decide ((ln Diner.row x1)≤x49.Peer)) (
 (Z87 x1 x35 x47 x48 x49) true) (
 ifb (decide (x49.Peer=x35)) (
 (Z87 x1 x35 x47 x48 x49) true) (
 ifb (decide (0<x47)) (
 (at_ x37.Sides (wr (x47-1))).bind fun x50=>
 (Z87 x1 x35 x47 x48 x49) (decide (x49.Peer≤x50.Peer))) (
 (Z87 x1 x35 x47 x48 x49) false))))) (
 Option.map Sum.inr ((Z67 x35) x48))
noncomputable def Za7 (x1:(List Diner)):(Int×(List Edge))→Option ((Int×(List Edge)) ⊕ (Graph×Bool))
| (x35,x36)=>
 ifb (decide (x35<(ln Diner.row x1))) (
 (at_ x1 x35).bind fun x37=>
 ifb (!decide (x37.ID=x35)) (
 Option.map Sum.inr (some ((Graph.mk 0 (([]:(List Edge)))),false))) (
 loop (Z97 x1 x35 x37) (0,x36))) (
 Option.map Sum.inr ((Z57 x1) x36))
noncomputable def Zb7 (x1:(List Diner)):Option (Graph×Bool):=
 ifb (decide (64<(ln Diner.row x1))) (
 some ((Graph.mk 0 (([]:(List Edge)))),false)) (
 loop (Za7 x1) (0,([]:List Edge)))
theorem k_place_Graph (x1:(List Diner)) (r:(Graph×Bool)) (h:Zb7 x1=some r):Zu2 Try.prog 21 [.sl 3 (List.map Diner.row x1)] (.tup [.agg (Graph.row r.1),.bv r.2]):=by
 refine Zx2 ok21 rfl rfl fun w0 H0=>?_
 rw [Zb7] at h
 refine Zo2 12 ?_;dsimp only [go_sem];refine An ?_;refine Zb4 h rfl (fun _ h=>?_) fun _ h=>?_
 ·refine Zo2 6 ?_;dsimp only [go_sem];refine An ?_;exact Zi4 (res:=fun (r:(Graph×Bool))=>.tup [.agg (Graph.row r.1),.bv r.2]) ok21 h
 ·refine Zo2 16 ?_;dsimp only [go_sem];refine An ?_;refine Z94 (fun (x78:(List Edge))=>(⟨(.any :: .any :: .ptr 0 0 :: .any :: .ptr 1 0::an 99 []),[some ⟨24,[.iv 0,.nl]⟩,some ⟨24,[.iv (ln Diner.row x1),.osl 0]⟩],[some ⟨58,2,List.map Edge.row x78⟩]⟩:St)) (Z57 x1) r ?_ fun J1=>?_
  ·intro x78 h;rw [Z57] at h;(try dsimp only);refine Zo2 4 ?_;dsimp only [go_sem];refine An ?_;obtain ⟨x79,ex79,h⟩:=Bs h;refine Zm4 trivial ((Zl4.refl _).slice 0 rfl) (Zc6 ((Graph.mk (ln Diner.row x1) x78)) _ ex79) (h:=?_);refine Zo2 2 ?_;dsimp only [go_sem];refine An ?_;refine Zb4 h rfl (fun _ h=>?_) fun _ h=>?_
   ·refine Zo2 6 ?_;dsimp only [go_sem];refine An ?_;exact Zi4 (res:=fun (r:(Graph×Bool))=>.tup [.agg (Graph.row r.1),.bv r.2]) ok21 h
   ·refine Zo2 7 ?_;dsimp only [go_sem];refine An ?_;refine Za3 0 rfl ?_;dsimp only [go_sem];exact Zi4 (res:=fun (r:(Graph×Bool))=>.tup [.agg (Graph.row r.1),.bv r.2]) ok21 h
  ·refine Zo2 1 ?_;dsimp only [go_sem];refine An ?_;refine V_ownB 1 1 58 2 rfl rfl rfl ?_;dsimp only [go_sem];refine Za4 h (fun ((x35,x36):(Int×(List Edge)))=>(⟨(.sl 3 (List.map Diner.row x1) :: .any :: .ptr 0 0 :: .any :: .ptr 1 0::an 13 (.sl 3 (List.map Diner.row x1) :: .iv (ln Diner.row x1) :: .iv x35::an 83 [])),[some ⟨24,[.iv 0,.nl]⟩,some ⟨24,[.iv (ln Diner.row x1),.osl 0]⟩],[some ⟨58,2,List.map Edge.row x36⟩]⟩:St)) (by simp [go_sem]) (by rintro ⟨x35,x36⟩;first | rfl | simp [go_sem]) ?_;rintro n1 ⟨x35,x36⟩ y1 h hin1 hout1;rw [Za7] at h
   (try dsimp only);refine Zo2 5 ?_;dsimp only [go_sem];refine An ?_;refine Zb4 h rfl (fun _ h=>?_) fun _ h=>?_
   ·refine Zo2 6 ?_;dsimp only [go_sem];refine An ?_;obtain ⟨x37,ex37,h⟩:=Bs h;refine Ze4 Diner.row ex37 trivial rfl rfl rfl ?_;refine Zo2 13 ?_;dsimp only [go_sem];refine An ?_;refine Zb4 h rfl (fun _ h=>?_) fun _ h=>?_
    ·refine Zo2 6 ?_;dsimp only [go_sem];refine An ?_;exact Zi4 (res:=fun (r:(Graph×Bool))=>.tup [.agg (Graph.row r.1),.bv r.2]) ok21 (Z84 h hout1)
    ·refine Zo2 8 ?_;dsimp only [go_sem];refine An ?_;refine Z94 (fun (x69:(List Edge))=>(⟨(.sl 3 (List.map Diner.row x1) :: .any :: .ptr 0 0 :: .any :: .ptr 1 0::an 13 (.sl 3 (List.map Diner.row x1) :: .iv (ln Diner.row x1) :: .iv x35::an 83 [])),[some ⟨24,[.iv 0,.nl]⟩,some ⟨24,[.iv (ln Diner.row x1),.osl 0]⟩],[some ⟨58,2,List.map Edge.row x69⟩]⟩:St)) (Z67 x35) y1 ?_ fun J2=>?_
     ·intro x69 h;rw [Z67] at h;(try dsimp only);refine Zo2 5 ?_;dsimp only [go_sem];refine An ?_;exact Zj4 h hin1
     ·refine Zo2 1 ?_;dsimp only [go_sem];refine An ?_
      refine Za4 h (fun ((x47,x48):(Int×(List Edge)))=>(⟨(.sl 3 (List.map Diner.row x1) :: .any :: .ptr 0 0 :: .any :: .ptr 1 0 :: .iv x35 :: .ptr 2 0::an 11 (.sl 3 (List.map Diner.row x1) :: .iv (ln Diner.row x1) :: .iv x35::an 10 (.sl 8 (List.map Side.row x37.Sides) :: .iv (ln Side.row x37.Sides) :: .iv x47::an 70 []))),[some ⟨24,[.iv 0,.nl]⟩,some ⟨24,[.iv (ln Diner.row x1),.osl 0]⟩,some ⟨39,[.iv x37.ID,.iv x37.Phase,.sl 8 (List.map Side.row x37.Sides)]⟩],[some ⟨58,2,List.map Edge.row x48⟩]⟩:St)) (by simp [go_sem]) (by rintro ⟨x47,x48⟩;first | rfl | simp [go_sem]) ?_
      rintro n2 ⟨x47,x48⟩ y2 h hin2 hout2;rw [Z97] at h;(try dsimp only);refine Zo2 5 ?_;dsimp only [go_sem];refine An ?_;refine Zb4 h rfl (fun _ h=>?_) fun _ h=>?_
      ·refine Zo2 6 ?_;dsimp only [go_sem];refine An ?_;obtain ⟨x49,ex49,h⟩:=Bs h;refine Ze4 Side.row ex49 trivial rfl rfl rfl ?_;refine Zo2 7 ?_;dsimp only [go_sem];refine An ?_
       refine Z94 (fun (x51:Bool)=>(⟨(.sl 3 (List.map Diner.row x1) :: .any :: .ptr 0 0 :: .any :: .ptr 1 0 :: .iv x35 :: .ptr 2 0 :: .any :: .ptr 3 0::an 9 (.sl 3 (List.map Diner.row x1) :: .iv (ln Diner.row x1) :: .iv x35::an 10 (.sl 8 (List.map Side.row x37.Sides) :: .iv (ln Side.row x37.Sides) :: .iv x47::an 35 (.bv x51::an 34 [])))),[some ⟨24,[.iv 0,.nl]⟩,some ⟨24,[.iv (ln Diner.row x1),.osl 0]⟩,some ⟨39,[.iv x37.ID,.iv x37.Phase,.sl 8 (List.map Side.row x37.Sides)]⟩,some ⟨49,[.iv x49.Peer,.iv x49.Epoch,.iv x49.State,.bv x49.Fork,.bv x49.Dirty,.bv x49.Token,.bv x49.Bottle,.bv x49.Ask]⟩],[some ⟨58,2,List.map Edge.row x48⟩]⟩:St)) (Z87 x1 x35 x47 x48 x49) y2 ?_ fun J3=>?_
       ·intro x51 h;rw [Z87] at h;(try dsimp only);refine Zb4 h rfl (fun _ h=>?_) fun _ h=>?_
        ·refine Zo2 6 ?_;dsimp only [go_sem];refine An ?_;exact Zi4 (res:=fun (r:(Graph×Bool))=>.tup [.agg (Graph.row r.1),.bv r.2]) ok21 (Z84 (Z84 h hout2) hout1)
        ·refine Zo2 7 ?_;dsimp only [go_sem];refine An ?_;obtain ⟨x52,ex52,h⟩:=Bs h;refine Ze4 Diner.row ex52 trivial rfl rfl rfl ?_;refine Zo2 2 ?_;dsimp only [go_sem];refine An ?_;obtain ⟨x53,ex53,h⟩:=Bs h;refine Z23 trivial (Zt6 x52 x35 _ ex53) (h:=?_);refine Zo2 12 ?_;dsimp only [go_sem];refine An ?_;refine Zb4 h rfl (fun _ h=>?_) fun _ h=>?_
         ·refine Zo2 6 ?_;dsimp only [go_sem];refine An ?_;exact Zi4 (res:=fun (r:(Graph×Bool))=>.tup [.agg (Graph.row r.1),.bv r.2]) ok21 (Z84 (Z84 h hout2) hout1)
         ·refine Zo2 8 ?_;dsimp only [go_sem];refine An ?_
          refine Z94 (fun (x55:(List Edge))=>(⟨(.sl 3 (List.map Diner.row x1) :: .any :: .ptr 0 0 :: .any :: .ptr 1 0 :: .iv x35 :: .ptr 2 0::an 11 (.sl 3 (List.map Diner.row x1) :: .iv (ln Diner.row x1) :: .iv x35::an 10 (.sl 8 (List.map Side.row x37.Sides) :: .iv (ln Side.row x37.Sides) :: .iv x47::an 70 []))),[some ⟨24,[.iv 0,.nl]⟩,some ⟨24,[.iv (ln Diner.row x1),.osl 0]⟩,some ⟨39,[.iv x37.ID,.iv x37.Phase,.sl 8 (List.map Side.row x37.Sides)]⟩],[some ⟨58,2,List.map Edge.row x55⟩]⟩:St)) (Z77 x47) y2 ?_ fun J4=>?_
          ·intro x55 h;rw [Z77] at h;(try dsimp only);refine Zo2 5 ?_;dsimp only [go_sem];refine An ?_;exact Zj4 h hin2
          ·refine Zb4 h rfl (fun _ h=>?_) fun _ h=>?_
           ·refine Zo2 8 ?_;dsimp only [go_sem];refine An ?_;obtain ⟨x54,ex54,h⟩:=Bs h;refine Zg4 Edge.row ex54 trivial rfl rfl rfl ?_;refine Zo2 3 ?_;dsimp only [go_sem];refine An ?_;refine V_ren 2 0 rfl rfl rfl ?_;dsimp only [go_sem];exact Zk4 J4 (s:=x54) h
           ·refine Zo2 1 ?_;dsimp only [go_sem];refine An ?_;exact Zk4 J4 (s:=x48) h
       ·refine Zi3 (by kernel_rfl) fun all hall hs hnap haf=>?_;dsimp only [go_sem];refine Zw4 hall hs haf hnap 4 28 [4,28] [(38,[.ptr 3 0,.iv x49.Peer,.bv (decide (x49.Peer<0)),.bv (decide (x49.Peer<0))])] (by kernel_rfl) ?_;dsimp only [go_sem];refine Zr4 41 h rfl (fun _ h=>?_) fun _ h=>?_
        ·dsimp only [go_sem];refine Zw4 hall hs haf hnap 28 0 [32] [(42,[.un,.un,.un,.un,.un,.tt,.tt,.un,.un,.un,.un,.tt,.tt,.un,.un,.un,.un,.un,.un,.un,.un,.un,.un,.un,.un,.un,.un,.tt])] (by kernel_rfl) ?_;dsimp only [go_sem];refine Zs3 rfl ?_ _;exact Zk4 J3 (s:=true) h
        ·dsimp only [go_sem];refine Zw4 hall hs haf hnap 7 21 [11,21] [(42,[.ptr 3 0,.iv x49.Peer,.sl 3 (List.map Diner.row x1),.iv (ln Diner.row x1),.bv (decide ((ln Diner.row x1)≤x49.Peer)),.bv (decide ((ln Diner.row x1)≤x49.Peer)),.bv (decide ((ln Diner.row x1)≤x49.Peer))])] (by kernel_rfl) ?_;dsimp only [go_sem];refine Zr4 48 h rfl (fun _ h=>?_) fun _ h=>?_
         ·dsimp only [go_sem];refine Zw4 hall hs haf hnap 21 0 [32] [(49,[.un,.un,.un,.un,.tt,.tt,.un,.un,.un,.un,.un,.un,.un,.un,.un,.un,.un,.un,.un,.un,.tt])] (by kernel_rfl) ?_;dsimp only [go_sem];refine Zs3 rfl ?_ _;exact Zk4 J3 (s:=true) h
         ·dsimp only [go_sem];refine Zw4 hall hs haf hnap 6 15 [17,15] [(49,[.ptr 3 0,.iv x49.Peer,.iv x35,.bv (decide (x49.Peer=x35)),.bv (decide (x49.Peer=x35)),.bv (decide (x49.Peer=x35))])] (by kernel_rfl) ?_;dsimp only [go_sem];refine Zr4 54 h rfl (fun _ h=>?_) fun _ h=>?_
          ·dsimp only [go_sem];refine Zw4 hall hs haf hnap 15 0 [32] [(55,[.un,.un,.un,.un,.un,.un,.un,.un,.un,.un,.un,.un,.un,.un,.tt])] (by kernel_rfl) ?_;dsimp only [go_sem];refine Zs3 rfl ?_ _;exact Zk4 J3 (s:=true) h
          ·dsimp only [go_sem];refine Zw4 hall hs haf hnap 3 12 [20,12] [(55,[.iv x47,.bv (decide (0<x47)),.bv (decide (0<x47))])] (by kernel_rfl) ?_;dsimp only [go_sem];refine Zr4 57 h rfl (fun _ h=>?_) fun _ h=>?_
           ·dsimp only [go_sem];refine Zw4 hall hs haf hnap 6 6 [24,3,2,3] [(58,[.ptr 2 2,.sl 8 (List.map Side.row x37.Sides),.iv x47,.iv (wr (x47-1))]),(3,[.ptr 3 0,.iv x49.Peer])] (by kernel_rfl) ?_;dsimp only [go_sem];obtain ⟨x50,ex50,h⟩:=Bs h;refine Zf4 hall hs haf hnap 24 Side.row ex50 rfl rfl trivial rfl rfl rfl rfl ?_
            refine Zw4 hall hs haf hnap 5 0 [32] [(63,[.elt [.iv x50.Peer,.iv x50.Epoch,.iv x50.State,.bv x50.Fork,.bv x50.Dirty,.bv x50.Token,.bv x50.Bottle,.bv x50.Ask] 0,.iv x50.Peer]),(2,[.bv (decide (x49.Peer≤x50.Peer)),.bv (decide (x49.Peer≤x50.Peer)),.bv (decide (x49.Peer≤x50.Peer))])] (by kernel_rfl) ?_;dsimp only [go_sem];refine Zs3 rfl ?_ _;exact Zk4 J3 (s:=decide (x49.Peer≤x50.Peer)) h
           ·dsimp only [go_sem];refine Zw4 hall hs haf hnap 12 0 [32] [(58,[.un,.un,.un,.un,.un,.un,.un,.un,.un,.un,.ff,.ff])] (by kernel_rfl) ?_;dsimp only [go_sem];refine Zs3 rfl ?_ _;exact Zk4 J3 (s:=false) h
      ·refine Zo2 1 ?_;dsimp only [go_sem];refine An ?_;exact Zk4 J2 (s:=x48) (Z84 h hout2)
   ·refine Zo2 1 ?_;dsimp only [go_sem];refine An ?_;exact Zk4 J1 (s:=x36) (Z84 h hout1)
def Zc7 (l:List Diner) (i:Nat) (x:Side):Bool:=
 decide (0≤x.Peer)&&(decide (x.Peer<l.length)&&(!decide (x.Peer=i)&&(match l[x.Peer.toNat]? with | some e=>(Z47 e i).isSome | none=>false)))
def lastP (pre:List Side):Option Int:=pre.getLast?.map (·.Peer)
def riseB (p:Option Int) (x:Side):Bool:=match p with | none=>true | some q=>decide (q<x.Peer)
def Zd7 (l:List Diner) (i:Nat):Option Int→List Side→Bool
 | _,[]=>true
 | p,x::r=>riseB p x&&(Zc7 l i x&&Zd7 l i (some x.Peer) r)
def Ze7 (i:Nat) (xs:List Side):List Edge:=(xs.filter fun x=>decide ((i:Int)<x.Peer)).map fun x=>⟨i,x.Peer⟩
def Zf7 (l:List Diner):Nat→List Diner→Bool
 | _,[]=>true
 | i,d::r=>decide (d.ID=i)&&(Zd7 l i none d.Sides&&Zf7 l (i+1) r)
def Zg7:Nat→List Diner→List Edge
 | _,[]=>[]
 | i,d::r=>Ze7 i d.Sides++Zg7 (i+1) r
def Zh7:Graph:=⟨0,[]⟩
def Zi7 (l:List Diner):Graph×Bool:=if Zf7 l 0 l&&okG ⟨l.length,Zg7 0 l⟩ then (⟨l.length,Zg7 0 l⟩,true) else (Zh7,false)
theorem Zj7 (pre:List Side) (x:Side):lastP (pre++[x])=some x.Peer:=by simp [lastP]
theorem edgesD_snoc (i:Nat) (pre:List Side) (x:Side):Ze7 i (pre++[x])=if decide ((i:Int)<x.Peer) then Ze7 i pre++[⟨i,x.Peer⟩] else Ze7 i pre:=by
 unfold Ze7
 by_cases h:(i:Int)<x.Peer<;>simp [h]
theorem Zk7 (i:Nat) (xs:List Side):(Ze7 i xs).length≤xs.length:=by simp [Ze7,List.length_filter_le]
theorem Zl7:∀(a b:List Diner) (i:Nat),Zg7 i (a++b)=Zg7 i a++Zg7 (i+a.length) b
 | [],b,i=>by simp [Zg7]
 | d::a,b,i=>by simp [Zg7,Zl7 a b (i+1),Nat.add_comm,Nat.add_left_comm]
theorem Zm7:∀(l:List Diner) (i:Nat),(∀d∈l,d.Sides.length≤5000)→(Zg7 i l).length≤l.length*5000
 | [],_,_=>by simp [Zg7]
 | d::l,i,h=>by
   have h1:=Zm7 l (i+1) fun e he=>h e (by simp [he])
   have h2:=h d (by simp)
   have h3:=Zk7 i d.Sides
   simp only [Zg7,List.length_append,List.length_cons]
   omega
theorem prev_step {γ:Type} {l pre post:List Side} {x:Side} (h:l=pre++x::post) (hl:l.length≤5000) (A:Bool→Option γ):
  ifb (decide (0<(pre.length:Int))) ((at_ l (wr ((pre.length:Int)-1))).bind fun y=>A (decide (x.Peer≤y.Peer))) (A false)=A (!riseB (lastP pre) x):=by
 rcases List.eq_nil_or_concat pre with rfl | ⟨q,y,rfl⟩
 ·simp [lastP,riseB]
 ·rw [List.concat_eq_append] at h ⊢
  have hy:l[q.length]?=some y:=by subst h;simp
  have hm:=Zz6 h
  have e:decide (0<(((q++[y]).length:Nat):Int))=true:=decide_eq_true (by simp only [Z17];omega)
  rw [e,Z85,Z17,wr_pred (by simp at hm;omega),Zb5 hy,Option.bind_some,Zj7,riseB,←decide_not]
  congr 2
  simp
theorem inner_len {l:List Diner} {pre post:List Diner} {d:Diner} (hl:fewD l) (h:l=pre++d::post):(Zg7 0 pre).length≤25000000:=by
 have h1:=Zm7 pre 0 fun e he=>hl.2 e (by subst h;simp [he])
 have h2:=Zz6 h
 have:=hl.1
 omega
theorem s_Graph2 (l:List Diner) (hl:fewD l) (i:Nat) (d:Diner) (hd:d∈l) (hi:i≤5000) (E:List Edge) (hE:E.length≤25000000):
  loop (Z97 l i d) (0,E)=some (if Zd7 l i none d.Sides then .inl (((i+1:Nat):Int),E++Ze7 i d.Sides) else .inr (Zh7,false)):=by
 have hdl:=hl.2 d hd
 have key:=(Zw6 d.Sides (Z97 l i d) (fun pre=>((pre.length:Int),E++Ze7 i pre)) (fun pre post=>some (if Zd7 l i (lastP pre) post then .inl (((i+1:Nat):Int),E++Ze7 i (pre++post)) else .inr (Zh7,false))) ?_ ?_)
 ·rw [show Ze7 i []=[] from rfl,List.append_nil] at key;exact key
 ·intro pre x post h
  have hx:=Zy6 h
  have hm:=Zz6 h
  dsimp only [Z97]
  rw [Zd5 hx,Z85,Zb5 hx,Option.bind_some,prev_step h hdl (Z87 l i pre.length (E++Ze7 i pre) x)]
  have bad:Z87 l (i:Int) pre.length (E++Ze7 i pre) x true=some (.inr (.inr (Zh7,false))):=rfl
  by_cases h1:x.Peer<0
  ·right
   refine ⟨_,by rw [decide_eq_true h1,Z85,bad],?_⟩
   have:Zc7 l i x=false:=by simp [Zc7];omega
   simp [Zd7,this]
  by_cases h2:(l.length:Int)≤x.Peer
  ·right
   refine ⟨_,by rw [decide_eq_false h1,Z95,Zq4,decide_eq_true h2,Z85,bad],?_⟩
   have:Zc7 l i x=false:=by simp [Zc7];omega
   simp [Zd7,this]
  by_cases h3:x.Peer=i
  ·right
   refine ⟨_,by rw [decide_eq_false h1,Z95,Zq4,decide_eq_false h2,Z95,decide_eq_true h3,Z85,bad],?_⟩
   have:Zc7 l i x=false:=by simp [Zc7,h3]
   simp [Zd7,this]
  rw [decide_eq_false h1,Z95,Zq4,decide_eq_false h2,Z95,decide_eq_false h3,Z95]
  cases h4:riseB (lastP pre) x with
  | false=>
    right
    exact ⟨_,by rw [Bool.not_false,bad],by simp [Zd7,h4]⟩
  | true=>
    obtain ⟨e,he1,he2⟩:=at_lt (l:=l) (i:=x.Peer) (by omega) (by omega)
    have hes:=hl.2 e (List.mem_iff_getElem?.2 ⟨_,he2⟩)
    have hsb:Zc7 l i x=(Z47 e i).isSome:=by
     rw [Zc7,decide_eq_true (show 0≤x.Peer by omega),decide_eq_true (show x.Peer<l.length by omega),decide_eq_false h3,he2];simp
    rw [Bool.not_true]
    dsimp only [Z87]
    rw [Z95,he1,Option.bind_some,s_Side e i (by omega),Option.bind_some]
    cases ho:Z47 e i with
    | none=>
      right
      exact ⟨(.inr (Zh7,false)),rfl,by rw [ho] at hsb;simp [Zd7,hsb]⟩
    | some y=>
      left
      rw [ho] at hsb
      refine ⟨?_,by simp [Zd7,hsb,h4,Zj7]⟩
      simp only [sideP,Bool.not_true,Z95,Z77]
      rw [edgesD_snoc,Z17,Zf5 (by omega)]
      have:=Zk7 i pre
      by_cases h5:(i:Int)<x.Peer
      ·rw [decide_eq_true h5,Z85,Zc5 _ _ (by omega) (by simp;omega),Option.bind_some]
       simp
      ·rw [decide_eq_false h5,Z95];simp
 ·dsimp only [Z97]
  rw [Ze5,Z95,Z67,Zf5 (by omega)]
  simp [Zd7]
theorem s_Graph (l:List Diner) (hl:fewD l):Zb7 l=some (Zi7 l):=by
 unfold Zb7
 by_cases h64:64<l.length
 ·have:okG ⟨l.length,Zg7 0 l⟩=false:=by simp [okG];omega
  rw [Zq4,decide_eq_true (by omega),Z85]
  simp [Zi7,this,Zh7]
 rw [Zq4,decide_eq_false (by omega),Z95]
 refine (Zw6 l (Za7 l) (fun pre=>((pre.length:Int),Zg7 0 pre)) (fun pre post=>some (if Zf7 l pre.length post&&okG ⟨l.length,Zg7 0 (pre++post)⟩ then (⟨l.length,Zg7 0 (pre++post)⟩,true) else (Zh7,false))) ?_ ?_).trans rfl
 ·intro pre d post h
  have hx:=Zy6 h
  have hm:=Zz6 h
  have hd:=Z07 h
  dsimp only [Za7]
  rw [Zd5 hx,Z85,Zb5 hx,Option.bind_some,Za5]
  by_cases h1:d.ID=pre.length
  ·rw [decide_eq_true h1,Z85,s_Graph2 l hl pre.length d hd (by omega) _ (inner_len hl h)]
   cases h2:Zd7 l pre.length none d.Sides with
   | true=>left;exact ⟨by rw [if_pos rfl,Z17,Zl7];simp [Zg7],by simp [Zf7,h1,h2]⟩
   | false=>right;exact ⟨_,rfl,by simp [Zf7,h2]⟩
  ·right
   exact ⟨_,by rw [decide_eq_false h1,Z95];rfl,by simp [Zf7,h1,Zh7]⟩
 ·dsimp only [Za7]
  rw [Ze5,Z95,Z57,Zq4,Zo6,Option.bind_some]
  simp only [Zf7,List.append_nil,Bool.true_and]
  cases okG ⟨l.length,Zg7 0 l⟩<;>rfl
theorem Zn7 (l:List Diner) (i:Nat):∀(xs:List Side) (p:Option Int),Zd7 l i p xs=true↔(∀x∈xs,Zc7 l i x=true)∧xs.Pairwise (fun x y=>x.Peer<y.Peer)∧∀q,p=some q→∀x∈xs,q<x.Peer
 | [],p=>by simp [Zd7]
 | x::r,p=>by
   simp only [Zd7,Bool.and_eq_true,Zn7 l i r (some x.Peer)]
   constructor
   ·rintro ⟨h1,h2,h3,h4,h5⟩
    refine ⟨fun y hy=>?_,List.pairwise_cons.2 ⟨fun y hy=>h5 _ rfl y hy,h4⟩,?_⟩
    ·rcases List.mem_cons.1 hy with rfl | hy
     ·exact h2
     ·exact h3 y hy
    ·rintro q rfl y hy
     have hq:q<x.Peer:=by simpa [riseB] using h1
     rcases List.mem_cons.1 hy with rfl | hy
     ·exact hq
     ·have:=h5 _ rfl y hy;omega
   ·rintro ⟨h1,h2,h3⟩
    rw [List.pairwise_cons] at h2
    refine ⟨?_,h1 x (by simp),fun y hy=>h1 y (by simp [hy]),h2.2,?_⟩
    ·cases p with
     | none=>rfl
     | some q=>simpa [riseB] using h3 q rfl x (by simp)
    ·rintro q e y hy
     simp at e;subst e;exact h2.1 y hy
theorem okAll_iff (l:List Diner):∀(r:List Diner) (i:Nat),Zf7 l i r=true↔∀k d,r[k]?=some d→d.ID=((i+k:Nat):Int)∧Zd7 l (i+k) none d.Sides=true
 | [],i=>by simp [Zf7]
 | d::r,i=>by
   simp only [Zf7,Bool.and_eq_true,decide_eq_true_eq,okAll_iff l r (i+1)]
   constructor
   ·rintro ⟨h1,h2,h3⟩ k e he
    cases k with
    | zero=>simp at he;subst he;exact ⟨by simpa using h1,by simpa using h2⟩
    | succ k=>
      have:=h3 k e (by simpa using he)
      rw [show i+(k+1)=i+1+k by omega];exact this
   ·intro h
    refine ⟨by simpa using (h 0 d (by simp)).1,by simpa using (h 0 d (by simp)).2,fun k e he=>?_⟩
    have:=h (k+1) e (by simpa using he)
    rw [show i+1+k=i+(k+1) by omega];exact this
theorem Zo7 {i:Nat} {xs:List Side} {e:Edge}:e∈Ze7 i xs↔e.A=i∧(i:Int)<e.B∧∃x∈xs,x.Peer=e.B:=by
 unfold Ze7
 simp only [List.mem_map,List.mem_filter,decide_eq_true_eq]
 constructor
 ·rintro ⟨x,⟨h1,h2⟩,rfl⟩;exact ⟨rfl,h2,x,h1,rfl⟩
 ·rintro ⟨h1,h2,x,h3,h4⟩
  obtain ⟨a,b⟩:=e
  dsimp only at *
  subst h1;subst h4;exact ⟨x,⟨h3,h2⟩,rfl⟩
theorem Zp7:∀ {r:List Diner} {i:Nat} {e:Edge},e∈Zg7 i r↔∃k d,r[k]?=some d∧e∈Ze7 (i+k) d.Sides
 | [],i,e=>by simp [Zg7]
 | d::r,i,e=>by
   simp only [Zg7,List.mem_append,Zp7 (r:=r)]
   constructor
   ·rintro (h | ⟨k,f,h1,h2⟩)
    ·exact ⟨0,d,by simp,by simpa using h⟩
    ·exact ⟨k+1,f,by simpa using h1,by rw [show i+(k+1)=i+1+k by omega];exact h2⟩
   ·rintro ⟨k,f,h1,h2⟩
    cases k with
    | zero=>simp at h1;subst h1;exact .inl (by simpa using h2)
    | succ k=>exact .inr ⟨k,f,by simpa using h1,by rw [show i+1+k=i+(k+1) by omega];exact h2⟩
theorem edgesD_pw {i:Nat} {xs:List Side} (h:xs.Pairwise fun x y=>x.Peer<y.Peer):(Ze7 i xs).Pairwise fun x y=>x.lt y=true:=by
 unfold Ze7
 rw [List.pairwise_map]
 refine (List.Pairwise.filter _ h).imp fun hxy=>?_
 simp [Edge.lt,hxy]
theorem edgesL_pw:∀ {r:List Diner} {i:Nat},(∀d∈r,d.Sides.Pairwise fun x y=>x.Peer<y.Peer)→(Zg7 i r).Pairwise fun x y=>x.lt y=true
 | [],_,_=>List.Pairwise.nil
 | d::r,i,h=>by
   simp only [Zg7]
   rw [List.pairwise_append]
   refine ⟨edgesD_pw (h d (by simp)),edgesL_pw fun e he=>h e (by simp [he]),fun x hx y hy=>?_⟩
   obtain ⟨h1,_,_⟩:=Zo7.1 hx
   obtain ⟨k,e,_,hy⟩:=Zp7.1 hy
   obtain ⟨h2,_,_⟩:=Zo7.1 hy
   have:x.A<y.A:=by rw [h1,h2];omega
   simp [Edge.lt,this]
set_option maxRecDepth 100000
set_option maxHeartbeats 4000000
@[go_sem] def e83:EC:=.seq (.reg [(Qa 2 (.mv (.c .ff)))]) (.seq (.reg [(Qm 3 0),(Qa 4 (.bin .lss (.t 3) (.c (.iv 1)))),(Qm 2 4)]) (.ret))
theorem ok83:FnOK Try.prog 83 Try.f83 e83 [.t 2] 1 4:=⟨by kernel_rfl,⟨_,rfl,by kernel_rfl⟩,by kernel_rfl,by kernel_rfl⟩
noncomputable def Zq7 (x1:Int):Option Bool:=
 some (decide (x1<1))
theorem Zr7 (x1:Int) (r:Bool) (h:Zq7 x1=some r):Zu2 Try.prog 83 [.iv x1] (.bv r):=by
 refine Zx2 ok83 rfl rfl fun w0 H0=>?_
 rw [Zq7] at h
 refine Zo2 10 ?_;dsimp only [go_sem];refine An ?_;exact Zi4 (res:=fun (r:Bool)=>.bv r) ok83 h
set_option maxRecDepth 100000
set_option maxHeartbeats 4000000
@[go_sem] def e84:EC:=.seq (.reg [(Qx 2 58 2 0),(Qa 3 (.mv (.c .ff)))]) (.seq (.drw [(Ql 4 1),(Qf 5 0 2),(Ql 6 5),(Qk 7 1 4 6),(Ql 8 7),(Ql 9 1),(Qf 10 1 2),(Ql 11 10),(Qk 12 1 9 11),(Ql 13 12),(Qa 14 (.bin .eql (.t 8) (.t 13))),(Qm 3 14)] [[],[],[1],[0,2],[3],[],[],[6],[5,7],[8],[4,9],[10,0,1,2,3,4,5,6,7,8,9,10]] [[3],[2],[1,3],[0,2,4],[3,10],[8],[7],[6,8],[5,7,9],[8,10],[4,9,11],[10]]) (.ret))
theorem ok84:FnOK Try.prog 84 Try.f84 e84 [.t 3] 2 13:=⟨by kernel_rfl,⟨_,rfl,by kernel_rfl⟩,by kernel_rfl,by kernel_rfl⟩
noncomputable def Zs7 (x1:Edge) (x2:(List Int)):Option Bool:=
 (at_ x2 x1.A).bind fun x3=>
 (at_ x2 x1.B).bind fun x4=>
 some (decide (x3=x4))
theorem Zt7 (x1:Edge) (x2:(List Int)) (r:Bool) (h:Zs7 x1 x2=some r):Zu2 Try.prog 84 [.agg (Edge.row x1),.elt ((slRow 1 Zo4) x2) 0] (.bv r):=by
 refine Zx2 ok84 rfl rfl fun w0 H0=>?_
 rw [Zs7] at h
 refine Zo2 6 ?_;dsimp only [go_sem];refine An ?_;refine Zi3 (by kernel_rfl) fun all hall hs hnap haf=>?_;dsimp only [go_sem];refine Zw4 hall hs haf hnap 6 6 [3,2,3,4] [(4,[.sl 1 (List.map Zo4 x2),.ptr 0 0,.iv x1.A]),(2,[.sl 1 (List.map Zo4 x2),.ptr 0 1,.iv x1.B])] (by kernel_rfl) ?_;dsimp only [go_sem];obtain ⟨x3,ex3,h⟩:=Bs h;refine Zf4 hall hs haf hnap 3 Zo4 ex3 rfl rfl trivial rfl rfl rfl rfl ?_;refine Zv4 hall hs haf hnap 1 4 ?_;dsimp only [go_sem];refine An ?_;obtain ⟨x4,ex4,h⟩:=Bs h
 refine Zf4 hall hs haf hnap 8 Zo4 ex4 rfl rfl trivial rfl rfl rfl rfl ?_;refine Zv4 hall hs haf hnap 3 0 ?_;dsimp only [go_sem];refine An ?_;refine Zs3 rfl ?_ _;exact Zi4 (res:=fun (r:Bool)=>.bv r) ok84 h
set_option maxRecDepth 100000
set_option maxHeartbeats 4000000
@[go_sem] def e50:EC:=.seq (.reg [(Qx 2 24 2 0),(Qx 3 25 1 1),(Qa 4 (.mv (.c .ff)))]) (.seq (.seq (.reg [(Qe 5 2 2),(Qa 6 (.call 49 [(.t 5)])),(Qa 7 (.bin .neq (.t 6) (.c (.iv 0)))),(Qm 8 7),(Qn 9 8 false 3),(Qg 10 8 false (.len (.t 9))),(Qh 11 8 false 0 2),(Qn 12 8 false 11),(Qg 13 8 false (.bin .neq (.t 10) (.t 12))),(Qq 14 8 13),(Qm 15 14),(Qn 16 15 false 3),(Qg 17 15 false (.call 82 [(.t 16),(.c (.clo 83 []))])),(Qq 18 15 17)]) (.ite (.t 18) (.seq (.reg [(Qa 4 (.mv (.c .ff)))]) (.ret)) (.skip))) (.seq (.reg [(Qf 19 1 2),(Ql 20 19),(Qa 21 (.mkf 84 [(.t 3)])),(Qa 22 (.call 80 [(.t 20),(.t 21)])),(Qa 23 (.not (.t 22))),(Qm 4 23)]) (.ret)))
theorem ok50:FnOK Try.prog 50 Try.f50 e50 [.t 4] 2 22:=⟨by kernel_rfl,⟨_,rfl,by kernel_rfl⟩,by kernel_rfl,by kernel_rfl⟩
noncomputable def Zu7 (x1:Graph) (x2:(List Int)):Bool→Option Bool
| x5=>
 ifb x5 (
 some false) (
 (Zq5 x1.Edges ((fun z=>Zs7 z x2))).bind fun x6=>
 some (!x6))
noncomputable def Zv7 (x1:Graph) (x2:(List Int)):Option Bool:=
 (Zb6 x1).bind fun x3=>
 ifb (!decide (x3=0)) (
 (Zu7 x1 x2) true) (
 ifb (!decide ((ln Zo4 x2)=x1.N)) (
 (Zu7 x1 x2) true) (
 (Zh6 x2 ((fun z=>Zq7 z))).bind fun x4=>
 (Zu7 x1 x2) x4))
theorem Zw7 (x1:Graph) (x2:(List Int)) (r:Bool) (h:Zv7 x1 x2=some r):Zu2 Try.prog 50 [.agg (Graph.row x1),.sl 1 (List.map Zo4 x2)] (.bv r):=by
 refine Zx2 ok50 rfl rfl fun w0 H0=>?_
 rw [Zv7] at h
 refine Zo2 10 ?_;dsimp only [go_sem];refine An ?_;obtain ⟨x3,ex3,h⟩:=Bs h;refine Z23 trivial (Zc6 x1 _ ex3) (h:=?_);refine Zo2 2 ?_;dsimp only [go_sem];refine An ?_;refine Z94 (fun (x5:Bool)=>(⟨(.any :: .any :: .ptr 0 0 :: .ptr 1 0::an 14 (.bv x5::an 5 [])),[some ⟨24,[.iv x1.N,.sl 2 (List.map Edge.row x1.Edges)]⟩,some ⟨25,[.sl 1 (List.map Zo4 x2)]⟩],[]⟩:St)) (Zu7 x1 x2) r ?_ fun J1=>?_
 ·intro x5 h;rw [Zu7] at h;(try dsimp only);refine Zb4 h rfl (fun _ h=>?_) fun _ h=>?_
  ·refine Zo2 4 ?_;dsimp only [go_sem];refine An ?_;exact Zi4 (res:=fun (r:Bool)=>.bv r) ok50 h
  ·refine Zo2 6 ?_;dsimp only [go_sem];refine An ?_;obtain ⟨x6,ex6,h⟩:=Bs h;refine Zm4 trivial ((Zl4.refl _).block 1 rfl rfl) (Zr5 x1.Edges _ _ ((fun z=>Zs7 z x2)) ⟨by kernel_rfl,rfl,fun z r hz=>Zt7 z x2 r hz⟩ _ ex6) (h:=?_);refine Zo2 3 ?_;dsimp only [go_sem];refine An ?_;exact Zi4 (res:=fun (r:Bool)=>.bv r) ok50 h
 ·refine Zh4 8 h rfl (fun _ h=>?_) fun _ h=>?_
  ·dsimp only [go_sem];refine Zo2 11 ?_;dsimp only [go_sem];refine An ?_;exact Zk4 J1 (s:=true) h
  ·dsimp only [go_sem];refine Zo2 7 ?_;dsimp only [go_sem];refine An ?_;refine Zh4 15 h rfl (fun _ h=>?_) fun _ h=>?_
   ·dsimp only [go_sem];refine Zo2 4 ?_;dsimp only [go_sem];refine An ?_;exact Zk4 J1 (s:=true) h
   ·dsimp only [go_sem];refine Zo2 1 ?_;dsimp only [go_sem];refine An ?_;obtain ⟨x4,ex4,h⟩:=Bs h;refine Z23 trivial (Zi6 x2 _ _ ((fun z=>Zq7 z)) ⟨by kernel_rfl,rfl,fun z r hz=>Zr7 z r hz⟩ _ ex4) (h:=?_);refine Zo2 2 ?_;dsimp only [go_sem];refine An ?_;exact Zk4 J1 (s:=x4) h
set_option maxRecDepth 100000
set_option maxHeartbeats 4000000
set_option maxRecDepth 100000
set_option maxHeartbeats 4000000
set_option maxRecDepth 100000
set_option maxHeartbeats 4000000
@[go_sem] def e32_L0:EC:=.seq (.seq (.reg [(Qm 9 7),(Qf 10 1 3),(Ql 11 10),(Qa 12 (.len (.t 11))),(Qa 13 (.bin .lss (.t 9) (.t 12)))]) (.ite (.t 13) (.skip) (.exit 0))) (.seq (.blk 1 (.seq (.reg [(Qf 16 1 3),(Ql 17 16),(Qm 18 7),(Qk 19 2 17 18),(Qe 20 2 19),(Qa 8 (.alloc 58 [.iv 0,.iv 0])),(Qs 2 8 20)]) (.seq (.reg [(Qf 21 0 8),(Ql 22 21),(Qm 23 1),(Qa 24 (.bin .eql (.t 22) (.t 23))),(Qm 25 24),(Qh 26 25 true 1 8),(Qn 27 25 true 26),(Qg 28 25 true (.mv (.t 2))),(Qg 29 25 true (.bin .eql (.t 27) (.t 28))),(Qp 30 25 29),(Qm 31 30),(Qg 32 31 true (.mv (.t 1))),(Qg 33 31 true (.mv (.t 2))),(Qg 34 31 true (.bin .leq (.t 32) (.t 33))),(Qp 35 31 34),(Qm 36 35),(Qh 37 36 false 0 8),(Qn 38 36 false 37),(Qg 39 36 false (.mv (.t 2))),(Qg 40 36 false (.bin .eql (.t 38) (.t 39))),(Qg 41 36 false (.mv (.t 40))),(Qh 42 41 true 1 8),(Qn 43 41 true 42),(Qg 44 41 true (.mv (.t 1))),(Qg 45 41 true (.bin .eql (.t 43) (.t 44))),(Qg 46 36 false (.pick (.t 41) (.t 45) (.c .ff))),(Qg 47 36 false (.mv (.t 46))),(Qg 48 47 true (.mv (.t 2))),(Qg 49 47 true (.mv (.t 1))),(Qg 50 47 true (.bin .lss (.t 48) (.t 49))),(Qg 51 36 false (.pick (.t 47) (.t 50) (.c .ff))),(Qq 52 36 51)]) (.ite (.t 52) (.seq (.reg [(Qa 6 (.mv (.c .tt)))]) (.ret)) (.skip))))) (.reg [(Qm 14 7),(Qv 15 14 1),(Qm 7 15)]))
@[go_sem] def e32:EC:=.seq (.reg [(Qx 3 24 2 0),(Qa 6 (.mv (.c .ff)))]) (.seq (.seq (.reg [(Qi 7 0)]) (.blk 0 (.loop e32_L0))) (.seq (.reg [(Qa 6 (.mv (.c .ff)))]) (.ret)))
theorem ok32:FnOK Try.prog 32 Try.f32 e32 [.t 6] 3 50:=⟨by kernel_rfl,⟨_,rfl,by kernel_rfl⟩,by kernel_rfl,by kernel_rfl⟩
noncomputable def Zx7:Unit→Option Bool
| ()=>
 some false
noncomputable def Zy7 (x7:Int):Bool→Option (Int ⊕ Bool)
| x9=>
 ifb x9 (
 Option.map Sum.inr (some true)) (
 some (.inl (wr (x7+1))))
noncomputable def Zz7 (x1:Graph) (x2:Int) (x3:Int):Int→Option (Int ⊕ Bool)
| x7=>
 ifb (decide (x7<(ln Edge.row x1.Edges))) (
 (at_ x1.Edges x7).bind fun x8=>
 ifb (decide (x8.A=x2)) (
 ifb (decide (x8.B=x3)) (
 ifb (decide (x2≤x3)) (
 (Zy7 x7) true) (
 ifb (decide (x8.A=x3)) (
 ifb (decide (x8.B=x2)) (
 (Zy7 x7) (decide (x3<x2))) (
 (Zy7 x7) false)) (
 (Zy7 x7) false))) (
 ifb (decide (x8.A=x3)) (
 ifb (decide (x8.B=x2)) (
 (Zy7 x7) (decide (x3<x2))) (
 (Zy7 x7) false)) (
 (Zy7 x7) false))) (
 ifb (decide (x8.A=x3)) (
 ifb (decide (x8.B=x2)) (
 (Zy7 x7) (decide (x3<x2))) (
 (Zy7 x7) false)) (
 (Zy7 x7) false))) (
 Option.map Sum.inr (Zx7 ()))
noncomputable def Z08 (x1:Graph) (x2:Int) (x3:Int):Option Bool:=
 loop (Zz7 x1 x2 x3) 0
theorem Z18 (x1:Graph) (x2:Int) (x3:Int) (r:Bool) (h:Z08 x1 x2 x3=some r):Zu2 Try.prog 32 [.agg (Graph.row x1),.iv x2,.iv x3] (.bv r):=by
 refine Zx2 ok32 rfl rfl fun w0 H0=>?_
 rw [Z08] at h
 refine Zo2 10 ?_;dsimp only [go_sem];refine An ?_;refine Z94 (fun (_:Unit)=>(⟨(an 53 []),[],[]⟩:St)) Zx7 r ?_ fun J1=>?_
 ·rintro ⟨⟩ h;rw [Zx7] at h;(try dsimp only);refine Zo2 4 ?_;dsimp only [go_sem];refine An ?_;exact Zi4 (res:=fun (r:Bool)=>.bv r) ok32 h
 ·refine Zo2 1 ?_;dsimp only [go_sem];refine An ?_;refine Za4 h (fun (x7:Int)=>(⟨(.any :: .iv x2 :: .iv x3 :: .ptr 0 0::an 3 (.iv x7::an 45 [])),[some ⟨24,[.iv x1.N,.sl 2 (List.map Edge.row x1.Edges)]⟩],[]⟩:St)) (by simp [go_sem]) (by intro x7;first | rfl | simp [go_sem]) ?_;rintro n1 x7 y1 h hin1 hout1;rw [Zz7] at h;(try dsimp only);refine Zo2 9 ?_;dsimp only [go_sem];refine An ?_;refine Zb4 h rfl (fun _ h=>?_) fun _ h=>?_
  ·refine Zo2 8 ?_;dsimp only [go_sem];refine An ?_;obtain ⟨x8,ex8,h⟩:=Bs h;refine Ze4 Edge.row ex8 trivial rfl rfl rfl ?_;refine Zo2 11 ?_;dsimp only [go_sem];refine An ?_;refine Z94 (fun (x9:Bool)=>(⟨(.any :: .iv x2 :: .iv x3 :: .ptr 0 0::an 3 (.iv x7::an 44 [.bv x9])),[some ⟨24,[.iv x1.N,.sl 2 (List.map Edge.row x1.Edges)]⟩],[]⟩:St)) (Zy7 x7) y1 ?_ fun J2=>?_
   ·intro x9 h;rw [Zy7] at h;(try dsimp only);refine Zb4 h rfl (fun _ h=>?_) fun _ h=>?_
    ·refine Zo2 4 ?_;dsimp only [go_sem];refine An ?_;exact Zi4 (res:=fun (r:Bool)=>.bv r) ok32 (Z84 h hout1)
    ·refine Zo2 7 ?_;dsimp only [go_sem];refine An ?_;exact Zj4 h hin1
   ·refine Zh4 25 h rfl (fun _ h=>?_) fun _ h=>?_
    ·dsimp only [go_sem];refine Zo2 6 ?_;dsimp only [go_sem];refine An ?_;refine Zh4 31 h rfl (fun _ h=>?_) fun _ h=>?_
     ·dsimp only [go_sem];refine Zo2 5 ?_;dsimp only [go_sem];refine An ?_;refine Zh4 36 h rfl (fun _ h=>?_) fun _ h=>?_
      ·dsimp only [go_sem];refine Zo2 17 ?_;dsimp only [go_sem];refine An ?_;exact Zk4 J2 (s:=true) h
      ·dsimp only [go_sem];refine Zo2 5 ?_;dsimp only [go_sem];refine An ?_;refine Zh4 41 h rfl (fun _ h=>?_) fun _ h=>?_
       ·dsimp only [go_sem];refine Zo2 6 ?_;dsimp only [go_sem];refine An ?_;refine Zh4 47 h rfl (fun _ h=>?_) fun _ h=>?_
        ·dsimp only [go_sem];refine Zo2 6 ?_;dsimp only [go_sem];refine An ?_;exact Zk4 J2 (s:=decide (x3<x2)) h
        ·dsimp only [go_sem];refine Zo2 6 ?_;dsimp only [go_sem];refine An ?_;exact Zk4 J2 (s:=false) h
       ·dsimp only [go_sem];refine Zo2 12 ?_;dsimp only [go_sem];refine An ?_;exact Zk4 J2 (s:=false) h
     ·dsimp only [go_sem];refine Zo2 10 ?_;dsimp only [go_sem];refine An ?_;refine Zh4 41 h rfl (fun _ h=>?_) fun _ h=>?_
      ·dsimp only [go_sem];refine Zo2 6 ?_;dsimp only [go_sem];refine An ?_;refine Zh4 47 h rfl (fun _ h=>?_) fun _ h=>?_
       ·dsimp only [go_sem];refine Zo2 6 ?_;dsimp only [go_sem];refine An ?_;exact Zk4 J2 (s:=decide (x3<x2)) h
       ·dsimp only [go_sem];refine Zo2 6 ?_;dsimp only [go_sem];refine An ?_;exact Zk4 J2 (s:=false) h
      ·dsimp only [go_sem];refine Zo2 12 ?_;dsimp only [go_sem];refine An ?_;exact Zk4 J2 (s:=false) h
    ·dsimp only [go_sem];refine Zo2 16 ?_;dsimp only [go_sem];refine An ?_;refine Zh4 41 h rfl (fun _ h=>?_) fun _ h=>?_
     ·dsimp only [go_sem];refine Zo2 6 ?_;dsimp only [go_sem];refine An ?_;refine Zh4 47 h rfl (fun _ h=>?_) fun _ h=>?_
      ·dsimp only [go_sem];refine Zo2 6 ?_;dsimp only [go_sem];refine An ?_;exact Zk4 J2 (s:=decide (x3<x2)) h
      ·dsimp only [go_sem];refine Zo2 6 ?_;dsimp only [go_sem];refine An ?_;exact Zk4 J2 (s:=false) h
     ·dsimp only [go_sem];refine Zo2 12 ?_;dsimp only [go_sem];refine An ?_;exact Zk4 J2 (s:=false) h
  ·refine Zo2 1 ?_;dsimp only [go_sem];refine An ?_;exact Zk4 J1 (s:=()) (Z84 h hout1)
set_option maxRecDepth 100000
set_option maxHeartbeats 4000000
def cg (c:List Int) (i:Int):Int:=(c[i.toNat]?).getD 0
theorem at_cg {c:List Int} {i:Int} (h0:0≤i) (h:i<c.length):at_ c i=some (cg c i):=by
 obtain ⟨x,h1,h2⟩:=at_lt h0 h
 rw [h1,cg,h2];rfl
def Z28 (g:Graph) (c:List Int):Bool:=decide ((c.length:Int)=g.N)&&(c.all (fun x=>decide (1≤x))&&g.Edges.all (fun e=>!decide (cg c e.A=cg c e.B)))
theorem s_Right (g:Graph) (c:List Int) (_:c.length≤1000000):Zv7 g c=some (okG g&&Z28 g c):=by
 simp only [Zv7,Zo6,Option.bind_some,Za5]
 cases hg:okG g with
 | false=>simp [Zu7]
 | true=>
   obtain ⟨g1,g2,g3,g4,g5⟩:=Zp6 hg
   simp only [if_true,decide_true,Z85,Bool.true_and,Zq4]
   by_cases hl:(c.length:Int)=g.N
   ·rw [Zn6 c (fun z=>Zq7 z) (fun x=>decide (x<1)) (by omega) (fun x _=>rfl)]
    simp only [hl,decide_true,Z85,Option.bind_some,Z28,Bool.true_and]
    have e1:c.any (fun x=>decide (x<1))=!c.all (fun x=>decide (1≤x)):=any_not_all _ _ _ (fun x=>by
     by_cases h:x<1
     ·have:¬1≤x:=by omega
      simp [h,this]
     ·have:1≤x:=by omega
      simp [h,this])
    rw [e1]
    cases hp:c.all (fun x=>decide (1≤x)) with
    | false=>simp [Zu7]
    | true=>
      simp only [Bool.not_true,Zu7,Z95]
      rw [Zm6 g.Edges _ (fun e=>decide (cg c e.A=cg c e.B)) (by omega) (fun e he=>by
       obtain ⟨k1,k2,k3⟩:=g4 e he
       simp only [Zs7,at_cg (c:=c) k1 (by omega),at_cg (c:=c) (show 0≤e.B by omega) (by omega),Option.bind_some])]
      simp [all_not_any]
   ·simp [hl,Z28,Zu7]
def hasB (g:Graph) (a b:Int):Bool:=g.Edges.any fun e=>(decide (e.A=a)&&(decide (e.B=b)&&decide (a≤b)))||(decide (e.A=b)&&(decide (e.B=a)&&decide (b<a)))
theorem s_r03Has (g:Graph) (a b:Int) (hl:g.Edges.length≤1000000):Z08 g a b=some (hasB g a b):=by
 unfold Z08 hasB
 rw [loop_any g.Edges (Zz7 g a b) (fun e=>(decide (e.A=a)&&(decide (e.B=b)&&decide (a≤b)))||(decide (e.A=b)&&(decide (e.B=a)&&decide (b<a)))) true false (by omega) (fun k e he=>by
  have hw:wr ((k:Int)+1)=((k+1:Nat):Int):=Zg5 he (by omega)
  simp only [Zz7,Zd5 he,Z85,Zb5 he,Option.bind_some,Zy7,hw]
  generalize decide (e.A=a)=p1;generalize decide (e.B=b)=p2;generalize decide (a≤b)=p3;generalize decide (e.A=b)=p4;generalize decide (e.B=a)=p5;generalize decide (b<a)=p6
  cases p1<;>cases p2<;>cases p3<;>cases p4<;>cases p5<;>cases p6<;>rfl)
  (by simp only [Zz7,Ze5,Z95,Zx7,Option.map_some])]
 generalize List.any _ _=p
 cases p<;>rfl
end NX
end Go.Proofs.Ytadebhbiglmodaa
namespace Go.Proofs.Ytadebhbiglmodaa
namespace NX
open Go Go.RowKit
section
variable {c:Ctx} {M:Mem} {S S':St} {a:Act} {w:World} {fn:Func} {K:AV→List (Option Blk)→List (Option Sl)→Prop} {k:List It} {bs:List (Option Blk)} {ss:List (Option Sl)}
theorem isLL_ints {M:Mem} {zs:List Int} {vss:List (List Value)} (h:AV.isLL M 1 (zs.map Zo4) vss):vss.flatten=zs.map (Value.int .i64):=by
 induction zs generalizing vss with
 | nil=>simp [AV.isLL] at h;subst h;rfl
 | cons z zs ih=>
   obtain ⟨v,r,rfl,h1,h2,h3⟩:=h
   obtain ⟨u,q,rfl,h4,h5⟩:=h2
   simp only [AV.isL] at h5
   simp only [AV.is] at h4
   subst h5;subst h4
   simp [ih h3]
theorem Z38 {M:Mem}:∀(zs:List Int),∃vss,AV.isLL M 1 (zs.map Zo4) vss∧vss.flatten=zs.map (Value.int .i64)
 | []=>⟨[],rfl,rfl⟩
 | z::zs=>by
   obtain ⟨vss,h1,h2⟩:=Z38 (M:=M) zs
   exact ⟨[.int .i64 z]::vss,⟨_,_,rfl,rfl,⟨_,_,rfl,rfl,rfl⟩,h1⟩,by simp [h2]⟩
theorem sem_sort {ρ:Shelf.Ren} (Ly:Lays.n189 c.P ρ) {j T:Nat} {x:X} {zs:List Int} (hx:S.x x = .osl j) (hj:Zf S.ss j=some ⟨T,1,zs.map Zo4⟩) (hlen:zs.length<4611686018427387904):
  Zy2 c S (.call (ρ.f 189) [x]) (.tup []) ⟨S.tm,S.bs,Zg S.ss j (some ⟨T,1,(zs.mergeSort fun x y=>decide (x≤y)).map Zo4⟩)⟩:=by
 intro ro ho M a w hT next Q hn
 obtain ⟨dst,op,ty,pos,af,gd⟩:=ro
 dsimp only at ho
 obtain ⟨cargs,argTypes,rfl,hfn,hxs⟩:=Z13 ho
 obtain ⟨q,rfl⟩:∃q,cargs = #[q]:=by
  have:cargs.toList.length=1:=by have:=congrArg List.length hxs;simpa using this
  obtain ⟨l⟩:=cargs
  match l,this with
  | [q],_=>exact ⟨q,rfl⟩
 have hqx:cX q=x:=by simpa using hxs
 have hq:=Zy1 hT q
 rw [hqx,hx] at hq
 obtain ⟨hjn,hq⟩:=hq
 obtain ⟨g0,vss,h1,h2,h3,h4⟩:=hT.st.slc j _ hj
 dsimp only at h1 h3 g0
 have hfl:=isLL_ints h1
 have hrun:(execOp a.eval ⟨dst,.call ⟨.value (.func (ρ.f 189)), #[q],argTypes⟩,ty,pos,af,gd⟩).run c.P w = .ok (.enter (ρ.f 189) (#[q].map a.eval)) w:=by
  have he:a.eval (.func (ρ.f 189)) = .func (.func (ρ.f 189)) #[] #[]:=rfl
  generalize a.eval=ρ' at *
  simp [execOp,resolve,Deferred.ofValue,invoke,he,Z03 hfn]
 have e1:(#[q].map a.eval) = #[M.σ j]:=by
  apply Array.ext';simp;exact hq
 rw [e1] at hrun
 unfold Oper.wp
 rw [hrun]
 show Calls c.P (ρ.f 189) #[M.σ j] w _
 obtain ⟨rs,hr1,hr2⟩:=Z38 (M:=M.pure) (zs.mergeSort fun x y=>decide (x≤y))
 have hone:∀v∈rs.flatten,v.oneCell'=true:=by
  rw [hr2];intro v hv
  obtain ⟨z,_,rfl⟩:=List.mem_map.1 hv;rfl
 have hl2:(zs.mergeSort fun x y=>decide (x≤y)).length=zs.length:=by simp
 rcases h3.2 with ⟨e2,e3⟩ | ⟨g,cap,cur,e2,hb,e3,e4,e5,e6,e7⟩
 ·have hz:zs=[]:=by simpa using e3
  subst hz
  rw [e2]
  refine (Any.slices_Sort_int_none Ly none 0 w).mono ?_
  rintro e w' ⟨rfl,rfl⟩
  refine hn M _ _ (.refl M) ?_ ⟨[],rfl,rfl⟩
  have:Zg S.ss j (some (⟨T,1,([].mergeSort fun (x y:Int)=>decide (x≤y)).map Zo4⟩:Sl))=S.ss:=by
   have hj':=hj
   simp only [List.map_nil] at hj'
   have:∀(l:List (Option Sl)) (j:Nat) (L:Sl),Zf l j=some L→Zg l j (some L)=l:=by
    intro l
    induction l with
    | nil=>intro j L h;simp [Zf] at h
    | cons x l ih=>intro j L h;cases j with
      | zero=>simp [Zf] at h;subst h;rfl
      | succ j=>simp only [Zg];rw [ih j L (by simpa [Zf] using h)]
   simpa using this _ _ _ hj'
  rw [this];exact hT.st
 ·have e4':zs.length≤cap:=by simpa using e4
  rw [e2]
  simp only [List.length_map]
  rw [Nat.mul_one,List.length_map] at e7
  rw [hfl] at e7
  refine (Any.slices_Sort_int Ly g 0 cap zs w (holds_of_blockI e3 e7) (Array.getElem?_eq_some_iff.1 e3).1 hlen).mono ?_
  rintro e w' ⟨rfl,n,os,rfl⟩
  refine hn M _ _ (.refl M) ?_ ⟨[],rfl,rfl⟩
  refine hT.st.rewrite hj (g:=g) (by rw [e2];rfl) (grownBy_sortedI _) (vss':=rs) hr1 hone ?_
  rw [hr2,List.length_map,hl2,e2,List.length_map]
  exact ownsRow_sortedI (ss:=zs) hl2 hb e3 e4' e5 e6
theorem V_sort {ρ:Shelf.Ren} (Ly:Lays.n189 c.P ρ) {d:Option Nat} {g:Option (Nat×Bool)} {l:List EOp} {j T f:Nat} {x:X} (zs:List Int) (hg:gm S g) (hf:f=ρ.f 189) (hx:S.x x = .osl j) (hj:Zf S.ss j=some ⟨T,1,zs.map Zo4⟩) (hlen:zs.length<4611686018427387904)
  (h:V c fn K (.ops l::k) ((⟨S.tm,S.bs,Zg S.ss j (some ⟨T,1,(zs.mergeSort fun x y=>decide (x≤y)).map Zo4⟩)⟩:St).put d (.tup []))):V c fn K (.ops (⟨d,g,.call f [x]⟩::l)::k) S:=by
 subst hf
 exact Zz2 hg (sem_sort Ly hx hj hlen) rfl h
theorem sem_compact {ρ:Shelf.Ren} (Ly:Lays2.n20 c.P ρ) {j T:Nat} {x:X} {zs:List Int} (hx:S.x x = .osl j) (hj:Zf S.ss j=some ⟨T,1,zs.map Zo4⟩) (hlen:zs.length<4611686018427387904):
  Zy2 c S (.call (ρ.f 20) [x]) (.osl (Zj S.ss)) ⟨S.tm,S.bs,Zg S.ss j none++[some ⟨T,1,(Lib.compact zs).map Zo4⟩]⟩:=by
 intro ro ho M a w hT next Q hn
 obtain ⟨dst,op,ty,pos,af,gd⟩:=ro
 dsimp only at ho
 obtain ⟨cargs,argTypes,rfl,hfn,hxs⟩:=Z13 ho
 obtain ⟨q,rfl⟩:∃q,cargs = #[q]:=by
  have:cargs.toList.length=1:=by have:=congrArg List.length hxs;simpa using this
  obtain ⟨l⟩:=cargs
  match l,this with
  | [q],_=>exact ⟨q,rfl⟩
 have hqx:cX q=x:=by simpa using hxs
 have hq:=Zy1 hT q
 rw [hqx,hx] at hq
 obtain ⟨hjn,hq⟩:=hq
 have hS:=hT.st
 obtain ⟨g0,vss,h1,h2,h3,h4⟩:=hS.slc j _ hj
 dsimp only at h1 h3 g0
 have hfl:=isLL_ints h1
 have hrun:(execOp a.eval ⟨dst,.call ⟨.value (.func (ρ.f 20)), #[q],argTypes⟩,ty,pos,af,gd⟩).run c.P w = .ok (.enter (ρ.f 20) (#[q].map a.eval)) w:=by
  have he:a.eval (.func (ρ.f 20)) = .func (.func (ρ.f 20)) #[] #[]:=rfl
  generalize a.eval=ρ' at *
  simp [execOp,resolve,Deferred.ofValue,invoke,he,Z03 hfn]
 have e1:(#[q].map a.eval) = #[M.σ j]:=by
  apply Array.ext';simp;exact hq
 rw [e1] at hrun
 unfold Oper.wp
 rw [hrun]
 show Calls c.P (ρ.f 20) #[M.σ j] w _
 obtain ⟨rs,hr1,hr2⟩:=Z38 (M:=M.pure) (Lib.compact zs)
 have hone:∀v∈rs.flatten,v.oneCell'=true:=by
  rw [hr2];intro v hv
  obtain ⟨z,_,rfl⟩:=List.mem_map.1 hv;rfl
 have hcl:=Lib.compact_length_le zs
 have hsub:∀i N,Zf (Zg S.ss j none) i=some N→Zf S.ss i=some N∧∀g,(M.σ j).ownBlock=some g→(M.σ i).ownBlock≠some g:=by
  intro i N hi
  rw [Zb1] at hi
  split at hi
  ·simp at hi
  ·rename_i e
   refine ⟨hi,fun g hg e2=>e ⟨?_,Zd1 hj⟩⟩
   exact hS.d3 i j N _ g hi hj e2 hg
 have fin:∀v' w',w.grownBy w' (M.σ j).ownBlock→v'.ownBlock=(M.σ j).ownBlock→w'.ownsRow 0 T 1 v' (Lib.compact zs).length rs.flatten→next (a.put dst v') w':=fun v' w' hg hv hrow=>by
  have hr:RelS c (M.addS v') S.bs (Zg S.ss j none++[some (⟨T,1,(Lib.compact zs).map Zo4⟩:Sl)]) w':=
   RelS.grown (v:=M.σ j) (vss:=rs) hS (Zc1 _ _ _) hsub (.inr fun i B hi=>hS.d2 i j B _ hi hj) h4 hg (.inl hv) g0 hr1 hone (by simpa using hrow)
  refine hn (M.addS v') w' v' (Mem.le_addS M v') hr ?_
  rw [Z71,←hS.ns]
  exact ⟨Nat.lt_succ_self _,by simp [Mem.addS]⟩
 rcases h3.2 with ⟨e2,e3⟩ | ⟨g,cap,cur,e2,hb,e3,e4,e5,e6,e7⟩
 ·have hz:zs=[]:=by simpa using e3
  subst hz
  rw [e2] at fin ⊢
  refine (Any.slices_Compact_int_empty Ly none 0 w).mono ?_
  rintro e w' ⟨rfl,rfl⟩
  refine fin _ _ ⟨rfl,rfl,rfl,Nat.le_refl _,fun _ _ _=>rfl⟩ rfl ?_
  rw [hr2]
  exact World.ownsRow_nil _ _ _ _
 ·have e4':zs.length≤cap:=by simpa using e4
  rw [e2] at fin ⊢
  simp only [List.length_map]
  rw [Nat.mul_one,List.length_map] at e7
  rw [hfl] at e7
  refine (Any.slices_Compact_int Ly g 0 cap zs w (holds_of_blockI e3 e7) (by omega) e4').mono ?_
  rintro e w' ⟨rfl,n,rfl⟩
  have hgr:=grownBy_sortedI (w:=w) (g:=g) (n:=n) (os:= #[]) (Lib.compact zs++List.replicate (zs.length-(Lib.compact zs).length) 0).toArray
  have hhp:=heap_sortedI (w:=w) (g:=g) (n:=n) (os:= #[]) (Lib.compact zs++List.replicate (zs.length-(Lib.compact zs).length) 0).toArray e3
  rw [Sort.grow_empty] at hgr hhp
  refine fin _ _ hgr rfl ⟨by rw [hr2];simp,.inr ⟨g,cap,_,rfl,hb,hhp,by omega,e5,by simp [Sort.putCells,e6],?_⟩⟩
  have htk:=take_putCellsI cur (Lib.compact zs++List.replicate (zs.length-(Lib.compact zs).length) 0) (by simp;omega)
  rw [hr2,Nat.mul_one]
  have:=congrArg (List.take (Lib.compact zs).length) htk
  rw [List.take_take,List.map_append,List.take_append_of_le_length (by simp)] at this
  rw [Nat.min_eq_left (by simp)] at this
  rw [this,List.take_of_length_le (by simp)]
theorem V_compact {ρ:Shelf.Ren} (Ly:Lays2.n20 c.P ρ) {d:Option Nat} {g:Option (Nat×Bool)} {l:List EOp} {j T f:Nat} {x:X} (zs:List Int) (hg:gm S g) (hf:f=ρ.f 20) (hx:S.x x = .osl j) (hj:Zf S.ss j=some ⟨T,1,zs.map Zo4⟩) (hlen:zs.length<4611686018427387904)
  (h:V c fn K (.ops l::k) ((⟨S.tm,S.bs,Zg S.ss j none++[some ⟨T,1,(Lib.compact zs).map Zo4⟩]⟩:St).put d (.osl (Zj S.ss)))):V c fn K (.ops (⟨d,g,.call f [x]⟩::l)::k) S:=by
 subst hf
 exact Zz2 hg (sem_compact Ly hx hj hlen) rfl h
end
end NX
end Go.Proofs.Ytadebhbiglmodaa
/-
  The function slices.Clone[[]int,int]: its code compiled, a model, and that the code answers as the model. Written by a program of ours (lb.py). No statement of the seat is proved here.
-/
namespace Go.Proofs.Ytadebhbiglmodaa
namespace NX
open Go
set_option maxRecDepth 100000
set_option maxHeartbeats 4000000
@[go_sem] def e89:EC:=.seq (.reg [(Qa 2 (.mv (.c .nl)))]) (.seq (.seq (.reg [(Qm 3 0),(Qa 4 (.isnil false (.t 3)))]) (.ite (.t 4) (.seq (.reg [(Qa 2 (.mv (.c .nl)))]) (.ret)) (.skip))) (.seq (.reg [(Qa 5 (.bsl 3 1 0 [.iv 0] [])),(Qm 6 0),(Qa 7 (.app 3 1 8 (.t 5) (.t 6))),(Qm 2 7)]) (.ret)))
theorem ok89:FnOK Try.prog 89 Try.f89 e89 [.t 2] 1 7:=⟨by kernel_rfl,⟨_,rfl,by kernel_rfl⟩,by kernel_rfl,by kernel_rfl⟩
noncomputable def Z48 (x1:(List Int)):Option (List Int):=app_ 8 [] x1
theorem Z58 (x1:(List Int)) (r:(List Int)) (h:Z48 x1=some r):FunO Try.prog 89 [.sl 1 (List.map Zo4 x1)] 3 1 (List.map Zo4 r):=by
 refine Zu4 ok89 rfl fun w0 H0=>?_
 rw [Z48] at h
 refine Zo2 100 ?_
 dsimp only [e89,go_sem]
 refine ⟨by simp,?_⟩
 refine V_isnil trivial rfl (fun hn=>?_) ?_
 ·refine Zo2 100 ?_
  dsimp only [go_sem]
  refine ⟨by simp,?_⟩
  refine V_own 2 3 1 rfl rfl ?_
  dsimp only [go_sem]
  have hn:x1=[]:=by simpa using hn
  subst hn
  exact O_doneM Zo4 (e:=[]) ok89 (by simpa [app_] using h) rfl rfl
 ·refine Zo2 100 ?_
  dsimp only [go_sem]
  refine ⟨by simp,?_⟩
  refine Zg4 Zo4 h trivial rfl rfl rfl ?_
  refine Zo2 100 ?_
  dsimp only [go_sem]
  refine ⟨by simp,?_⟩
  exact O_doneM Zo4 ok89 (rfl:some r=some r) rfl rfl
set_option maxRecDepth 100000
def laysSort_ren:Go.Shelf.Ren:=⟨(fun | 189=>112 | 125=>128 | 257=>127 | 128=>142 | 129=>143 | 294=>133 | 295=>134 | 296=>135 | 297=>136 | 298=>137 | 299=>138 | 216=>139 | 300=>140 | 301=>141 | 328=>146 | 329=>147 | 330=>148 | 331=>149 | 332=>150 | 215=>126 | 343=>151 | n=>n),(fun | 28=>25 | 3=>3 | 46=>151 | 0=>0 | 51=>167 | 53=>169 | 4=>4 | 183=>159 | 182=>158 | 131=>164 | 5=>5 | 9=>9 | 218=>174 | 222=>178 | 228=>180 | 229=>181 | n=>n),(fun | n=>n)⟩
theorem laysSort:Lays.n189 Try.prog laysSort_ren where
 mixed:=by kernel_rfl
 f125:=Try.func128.trans (congrArg some (by kernel_rfl))
 f128:=Try.func142.trans (congrArg some (by kernel_rfl))
 f129:=Try.func143.trans (congrArg some (by kernel_rfl))
 f189:=Try.func112.trans (congrArg some (by kernel_rfl))
 f215:=Try.func126.trans (congrArg some (by kernel_rfl))
 f216:=Try.func139.trans (congrArg some (by kernel_rfl))
 f257:=Try.func127.trans (congrArg some (by kernel_rfl))
 f294:=Try.func133.trans (congrArg some (by kernel_rfl))
 f295:=Try.func134.trans (congrArg some (by kernel_rfl))
 f296:=Try.func135.trans (congrArg some (by kernel_rfl))
 f297:=Try.func136.trans (congrArg some (by kernel_rfl))
 f298:=Try.func137.trans (congrArg some (by kernel_rfl))
 f299:=Try.func138.trans (congrArg some (by kernel_rfl))
 f300:=Try.func140.trans (congrArg some (by kernel_rfl))
 f301:=Try.func141.trans (congrArg some (by kernel_rfl))
 f328:=Try.func146.trans (congrArg some (by kernel_rfl))
 f329:=Try.func147.trans (congrArg some (by kernel_rfl))
 f330:=Try.func148.trans (congrArg some (by kernel_rfl))
 f331:=Try.func149.trans (congrArg some (by kernel_rfl))
 f332:=Try.func150.trans (congrArg some (by kernel_rfl))
 f343:=Try.func151.trans (congrArg some (by kernel_rfl))
 t0:=Try.underlying0
 a0:=Try.isAgg0
 z0:=Try.sizeOf0
 v0:=Try.zeroValue0
 t3:=Try.underlying3
 a3:=Try.isAgg3
 z3:=Try.sizeOf3
 v3:=Try.zeroValue3
 t4:=Try.underlying4
 a4:=Try.isAgg4
 z4:=Try.sizeOf4
 v4:=Try.zeroValue4
 t5:=Try.underlying5
 a5:=Try.isAgg5
 z5:=Try.sizeOf5
 v5:=Try.zeroValue5
 t9:=Try.underlying9
 a9:=Try.isAgg9
 z9:=Try.sizeOf9
 v9:=Try.zeroValue9
 t28:=Try.underlying25
 a28:=Try.isAgg25
 z28:=Try.sizeOf25
 v28:=Try.zeroValue25
 t46:=Try.underlying151
 a46:=Try.isAgg151
 z46:=Try.sizeOf151
 v46:=Try.zeroValue151
 t51:=Try.underlying167
 a51:=Try.isAgg167
 z51:=Try.sizeOf167
 v51:=Try.zeroValue167
 t53:=Try.underlying169
 a53:=Try.isAgg169
 z53:=Try.sizeOf169
 v53:=Try.zeroValue169
 t131:=Try.underlying164
 a131:=Try.isAgg164
 z131:=Try.sizeOf164
 v131:=Try.zeroValue164
 t182:=Try.underlying158
 a182:=Try.isAgg158
 z182:=Try.sizeOf158
 v182:=Try.zeroValue158
 t183:=Try.underlying159
 a183:=Try.isAgg159
 z183:=Try.sizeOf159
 v183:=Try.zeroValue159
 t218:=Try.underlying174
 a218:=Try.isAgg174
 z218:=Try.sizeOf174
 v218:=Try.zeroValue174
 t222:=Try.underlying178
 a222:=Try.isAgg178
 z222:=Try.sizeOf178
 v222:=Try.zeroValue178
 t228:=Try.underlying180
 a228:=Try.isAgg180
 z228:=Try.sizeOf180
 v228:=Try.zeroValue180
 t229:=Try.underlying181
 a229:=Try.isAgg181
 z229:=Try.sizeOf181
 v229:=Try.zeroValue181
def Z68:Go.Shelf.Ren:=⟨(fun | 20=>113 | n=>n),(fun | 22=>25 | 3=>3 | 4=>4 | 0=>0 | n=>n),(fun | n=>n)⟩
theorem laysCompact:Lays2.n20 Try.prog Z68 where
 mixed:=by kernel_rfl
 f20:=Try.func113.trans (congrArg some (by kernel_rfl))
 t0:=Try.underlying0
 a0:=Try.isAgg0
 z0:=Try.sizeOf0
 v0:=Try.zeroValue0
 t3:=Try.underlying3
 a3:=Try.isAgg3
 z3:=Try.sizeOf3
 v3:=Try.zeroValue3
 t4:=Try.underlying4
 a4:=Try.isAgg4
 z4:=Try.sizeOf4
 v4:=Try.zeroValue4
 t22:=Try.underlying25
 a22:=Try.isAgg25
 z22:=Try.sizeOf25
 v22:=Try.zeroValue25
 i3:=by kernel_rfl
@[go_sem] def e85:EC:=.seq (.reg [(Qa 2 (.mv (.c .nl)))]) (.seq (.reg [(Qm 4 0),(Qa 5 (.call 89 [(.t 4)])),(Qm 3 5)]) (.seq (.reg [(Qm 6 3),(Qa 7 (.call 112 [(.t 6)]))]) (.seq (.reg [(Qm 8 3),(Qa 9 (.call 113 [(.t 8)])),(Qm 2 9)]) (.ret))))
theorem ok85:FnOK Try.prog 85 Try.f85 e85 [.t 2] 1 9:=⟨by kernel_rfl,⟨_,rfl,by kernel_rfl⟩,by kernel_rfl,by kernel_rfl⟩
noncomputable def Z78 (x1:List Int):Option (List Int):=
 (Z48 x1).bind fun x2=>
 ifb (decide (x2.length<4611686018427387904)) (
 some (Lib.compact (x2.mergeSort fun x y=>decide (x≤y)))) none
theorem k_set_Of (x1:List Int) (r:List Int) (h:Z78 x1=some r):Zu2 Try.prog 85 [.sl 1 (List.map Zo4 x1)] (.sl 1 (List.map Zo4 r)):=by
 refine Zx2 ok85 rfl rfl fun w0 H0=>?_
 rw [Z78] at h
 refine Zo2 100 ?_
 dsimp only [e85,go_sem]
 refine ⟨by simp,?_⟩
 obtain ⟨x2,ex2,h⟩:=Option.bind_eq_some_iff.1 h
 refine V_callO trivial (Z58 x1 _ ex2) (by first | exact Z34 _ | simp [go_sem]) (by first | rfl | simp [go_sem]) ?_
 refine Zo2 100 ?_
 dsimp only [e85,go_sem]
 refine ⟨by simp,?_⟩
 by_cases hl:x2.length<4611686018427387904
 ·rw [show decide (x2.length<4611686018427387904)=true from decide_eq_true hl] at h
  have h:some (Lib.compact (x2.mergeSort fun x y=>decide (x≤y)))=some r:=h
  refine V_sort laysSort x2 trivial (by kernel_rfl) rfl rfl hl ?_
  refine Zo2 100 ?_
  dsimp only [e85,go_sem]
  refine ⟨by simp,?_⟩
  refine V_compact laysCompact (x2.mergeSort fun x y=>decide (x≤y)) trivial (by kernel_rfl) rfl rfl (by simpa using hl) ?_
  refine Zo2 100 ?_
  dsimp only [e85,go_sem]
  refine ⟨by simp,?_⟩
  refine Za3 1 rfl ?_
  dsimp only [go_sem]
  exact Zi4 (res:=fun (r:List Int)=>.sl 1 (List.map Zo4 r)) ok85 h (by first | exact le_refl _ | simp [go_sem])
 ·rw [show decide (x2.length<4611686018427387904)=false from decide_eq_false hl] at h
  cases h
set_option maxRecDepth 100000
set_option maxHeartbeats 4000000
@[go_sem] def e51_L0:EC:=.seq (.reg [(Qa 15 (.bin .lss (.t 14) (.t 13)))]) (.seq (.ite (.t 15) (.skip) (.exit 0)) (.seq (.blk 1 (.seq (.reg [(Qk 16 2 12 14),(Qe 17 2 16),(Qa 7 (.alloc 58 [.iv 0,.iv 0])),(Qs 2 7 17)]) (.seq (.reg [(Qm 18 1)]) (.blk 2 (.seq (.reg [(Qf 20 0 7),(Ql 21 20),(Qa 22 (.bin .eql (.t 18) (.t 21))),(Qm 19 22)]) (.ite (.t 19) (.reg [(Qm 23 5),(Qf 24 1 7),(Ql 25 24),(Qa 26 (.bsl 3 1 1 [.iv 0] [(0,(.t 25))])),(Qa 27 (.app 3 1 8 (.t 23) (.t 26))),(Qm 5 27)]) (.seq (.reg [(Qf 29 1 7),(Ql 30 29),(Qa 31 (.bin .eql (.t 18) (.t 30))),(Qm 28 31)]) (.ite (.t 28) (.reg [(Qm 32 5),(Qf 33 0 7),(Ql 34 33),(Qa 35 (.bsl 3 1 1 [.iv 0] [(0,(.t 34))])),(Qa 36 (.app 3 1 8 (.t 32) (.t 35))),(Qm 5 36)]) (.skip))))))))) (.reg [(Qv 37 14 1),(Qm 14 37)])))
@[go_sem] def e51:EC:=.seq (.reg [(Qx 2 24 2 0),(Qa 4 (.mv (.c .nl)))]) (.seq (.seq (.reg [(Qe 8 2 2),(Qa 9 (.call 49 [(.t 8)])),(Qa 10 (.bin .neq (.t 9) (.c (.iv 0))))]) (.ite (.t 10) (.seq (.reg [(Qa 4 (.mv (.c .nl)))]) (.ret)) (.skip))) (.seq (.reg [(Qa 5 (.mv (.c .nl)))]) (.seq (.seq (.reg [(Qf 11 1 2),(Ql 12 11),(Qa 13 (.len (.t 12))),(Qi 14 0)]) (.blk 0 (.loop e51_L0))) (.seq (.reg [(Qm 38 5),(Qa 39 (.call 85 [(.t 38)])),(Qm 4 39)]) (.ret)))))
theorem ok51:FnOK Try.prog 51 Try.f51 e51 [.t 4] 2 38:=⟨by kernel_rfl,⟨_,rfl,by kernel_rfl⟩,by kernel_rfl,by kernel_rfl⟩
noncomputable def Z88:(List Int)→Option (List Int)
| x23=>
 (Z78 x23).bind fun x24=>
 some x24
noncomputable def Z98 (x10:Int):(List Int)→Option ((Int×(List Int)) ⊕ (List Int))
| x15=>
 some (.inl (wr (x10+1),x15))
noncomputable def Za8 (x1:Graph) (x2:Int):(Int×(List Int))→Option ((Int×(List Int)) ⊕ (List Int))
| (x10,x11)=>
 ifb (decide (x10<(ln Edge.row x1.Edges))) (
 (at_ x1.Edges x10).bind fun x12=>
 ifb (decide (x2=x12.A)) (
 (app_ 8 x11 ([x12.B])).bind fun x13=>
 (Z98 x10) x13) (
 ifb (decide (x2=x12.B)) (
 (app_ 8 x11 ([x12.A])).bind fun x14=>
 (Z98 x10) x14) (
 (Z98 x10) x11))) (
 Option.map Sum.inr (Z88 x11))
noncomputable def Zb8 (x1:Graph) (x2:Int):Option (List Int):=
 (Zb6 x1).bind fun x3=>
 ifb (!decide (x3=0)) (
 some ([]:(List Int))) (
 loop (Za8 x1 x2) (0,([]:List Int)))
theorem Zc8 (x1:Graph) (x2:Int) (r:(List Int)) (h:Zb8 x1 x2=some r):Zu2 Try.prog 51 [.agg (Graph.row x1),.iv x2] (.sl 1 (List.map Zo4 r)):=by
 refine Zx2 ok51 rfl rfl fun w0 H0=>?_
 rw [Zb8] at h
 refine Zo2 9 ?_;dsimp only [go_sem];refine An ?_;obtain ⟨x3,ex3,h⟩:=Bs h;refine Z23 trivial (Zc6 x1 _ ex3) (h:=?_);refine Zo2 2 ?_;dsimp only [go_sem];refine An ?_;refine Zb4 h rfl (fun _ h=>?_) fun _ h=>?_
 ·refine Zo2 4 ?_;dsimp only [go_sem];refine An ?_;exact Zi4 (res:=fun (r:(List Int))=>.sl 1 (List.map Zo4 r)) ok51 h
 ·refine Zo2 13 ?_;dsimp only [go_sem];refine An ?_;refine Z94 (fun (x23:(List Int))=>(⟨(an 5 (.osl 0::an 34 [])),[],[some ⟨3,1,List.map Zo4 x23⟩]⟩:St)) Z88 r ?_ fun J1=>?_
  ·intro x23 h;rw [Z88] at h;(try dsimp only);refine Zo2 3 ?_;dsimp only [go_sem];refine An ?_;refine Za3 0 rfl ?_;dsimp only [go_sem];obtain ⟨x24,ex24,h⟩:=Bs h;refine Z23 trivial (k_set_Of x23 _ ex24) (h:=?_);refine Zo2 2 ?_;dsimp only [go_sem];refine An ?_;exact Zi4 (res:=fun (r:(List Int))=>.sl 1 (List.map Zo4 r)) ok51 h
  ·refine Zo2 1 ?_;dsimp only [go_sem];refine An ?_;refine V_own 5 3 1 rfl rfl ?_;dsimp only [go_sem];refine Za4 h (fun ((x10,x11):(Int×(List Int)))=>(⟨(.any :: .iv x2::an 3 (.osl 0::an 6 (.sl 2 (List.map Edge.row x1.Edges) :: .iv (ln Edge.row x1.Edges) :: .iv x10::an 25 []))),[],[some ⟨3,1,List.map Zo4 x11⟩]⟩:St)) (by simp [go_sem]) (by rintro ⟨x10,x11⟩;first | rfl | simp [go_sem]) ?_;rintro n1 ⟨x10,x11⟩ y1 h hin1 hout1;rw [Za8] at h;(try dsimp only);refine Zo2 5 ?_;dsimp only [go_sem];refine An ?_
   refine Zb4 h rfl (fun _ h=>?_) fun _ h=>?_
   ·refine Zo2 5 ?_;dsimp only [go_sem];refine An ?_;obtain ⟨x12,ex12,h⟩:=Bs h;refine Ze4 Edge.row ex12 trivial rfl rfl rfl ?_;refine Zo2 16 ?_;dsimp only [go_sem];refine An ?_;refine Z94 (fun (x15:(List Int))=>(⟨(.any :: .iv x2::an 3 (.osl 0::an 6 (.sl 2 (List.map Edge.row x1.Edges) :: .iv (ln Edge.row x1.Edges) :: .iv x10::an 25 []))),[],[some ⟨3,1,List.map Zo4 x15⟩]⟩:St)) (Z98 x10) y1 ?_ fun J2=>?_
    ·intro x15 h;rw [Z98] at h;(try dsimp only);refine Zo2 6 ?_;dsimp only [go_sem];refine An ?_;exact Zj4 h hin1
    ·refine Zb4 h rfl (fun _ h=>?_) fun _ h=>?_
     ·refine Zo2 5 ?_;dsimp only [go_sem];refine An ?_;obtain ⟨x13,ex13,h⟩:=Bs h;refine Zg4 Zo4 ex13 trivial rfl rfl rfl ?_;refine Zo2 2 ?_;dsimp only [go_sem];refine An ?_;refine V_ren 2 0 rfl rfl rfl ?_;dsimp only [go_sem];exact Zk4 J2 (s:=x13) h
     ·refine Zo2 7 ?_;dsimp only [go_sem];refine An ?_;refine Zb4 h rfl (fun _ h=>?_) fun _ h=>?_
      ·refine Zo2 5 ?_;dsimp only [go_sem];refine An ?_;obtain ⟨x14,ex14,h⟩:=Bs h;refine Zg4 Zo4 ex14 trivial rfl rfl rfl ?_;refine Zo2 2 ?_;dsimp only [go_sem];refine An ?_;refine V_ren 2 0 rfl rfl rfl ?_;dsimp only [go_sem];exact Zk4 J2 (s:=x14) h
      ·refine Zo2 1 ?_;dsimp only [go_sem];refine An ?_;exact Zk4 J2 (s:=x11) h
   ·refine Zo2 1 ?_;dsimp only [go_sem];refine An ?_;exact Zk4 J1 (s:=x11) (Z84 h hout1)
set_option maxRecDepth 100000
set_option maxHeartbeats 4000000
@[go_sem] def e14_L1:EC:=.seq (.reg [(Qa 34 (.bin .lss (.t 33) (.t 32)))]) (.seq (.ite (.t 34) (.skip) (.exit 2)) (.seq (.blk 3 (.seq (.reg [(Qk 35 1 31 33),(Ql 36 35),(Qm 11 36)]) (.seq (.drw [(Qm 37 1),(Qm 38 8),(Qk 39 1 37 38),(Ql 40 39),(Qm 41 1),(Qm 42 11),(Qk 43 1 41 42),(Ql 44 43),(Qa 45 (.bin .gtr (.t 40) (.t 44))),(Qm 12 45)] [[],[],[0,1],[2],[],[],[4,5],[6],[3,7],[8,0,1,2,3,4,5,6,7,8]] [[2],[2],[0,1,3],[2,8],[6],[6],[4,5,7],[6,8],[3,7,9],[8]]) (.reg [(Qf 46 2 9),(Ql 47 46),(Qm 48 11),(Qm 49 12),(Qm 50 12),(Qm 51 12),(Qm 52 12),(Qa 53 (.not (.t 52))),(Qm 54 12),(Qa 55 (.not (.t 54))),(Qa 56 (.build [.iv 0,.iv 0,.iv 0,.ff,.ff,.ff,.ff,.ff] [(0,1,(.t 48)),(1,1,(.c (.iv 1))),(3,1,(.t 49)),(4,1,(.t 50)),(6,1,(.t 51)),(5,1,(.t 53)),(7,1,(.t 55))])),(Qa 57 (.bsl 49 8 1 [.iv 0,.iv 0,.iv 0,.ff,.ff,.ff,.ff,.ff] [(0,(.t 56))])),(Qa 58 (.app 49 8 32 (.t 47) (.t 57))),(Qf 59 2 9),(Qs 1 59 58)])))) (.reg [(Qv 60 33 1),(Qm 33 60)])))
@[go_sem] def e14_L0:EC:=.seq (.reg [(Qa 25 (.bin .lss (.t 24) (.t 23)))]) (.seq (.ite (.t 25) (.skip) (.exit 0)) (.seq (.blk 1 (.seq (.reg [(Qm 26 24),(Qm 8 26)]) (.seq (.reg [(Qm 27 8),(Qa 28 (.build [.iv 0,.iv 0,.nl] [(0,1,(.t 27))])),(Qa 9 (.alloc 39 [.iv 0,.iv 0,.nl])),(Qs 3 9 28)]) (.seq (.seq (.reg [(Qe 29 2 2),(Qm 30 8),(Qa 31 (.call 51 [(.t 29),(.t 30)])),(Qa 32 (.len (.t 31))),(Qi 33 0)]) (.blk 2 (.loop e14_L1))) (.reg [(Qm 61 7),(Qe 62 3 9),(Qa 63 (.bsl 39 3 1 [.iv 0,.iv 0,.nl] [(0,(.t 62))])),(Qa 64 (.app 39 3 40 (.t 61) (.t 63))),(Qm 7 64)]))))) (.reg [(Qv 65 24 1),(Qm 24 65)])))
@[go_sem] def e14:EC:=.seq (.reg [(Qx 2 24 2 0),(Qa 4 (.mv (.c .nl))),(Qi 5 0)]) (.seq (.seq (.reg [(Qe 13 2 2),(Qa 14 (.call 49 [(.t 13)])),(Qm 6 14)]) (.seq (.reg [(Qm 15 6),(Qa 16 (.bin .neq (.t 15) (.c (.iv 0))))]) (.ite (.t 16) (.seq (.reg [(Qm 17 6),(Qa 4 (.mv (.c .nl))),(Qm 5 17)]) (.ret)) (.skip)))) (.seq (.seq (.reg [(Qe 18 2 2),(Qm 19 1),(Qa 20 (.call 50 [(.t 18),(.t 19)])),(Qa 21 (.not (.t 20)))]) (.ite (.t 21) (.seq (.reg [(Qa 4 (.mv (.c .nl))),(Qi 5 120)]) (.ret)) (.skip))) (.seq (.reg [(Qa 7 (.mv (.c .nl)))]) (.seq (.seq (.reg [(Qf 22 0 2),(Ql 23 22),(Qi 24 0)]) (.blk 0 (.loop e14_L0))) (.seq (.reg [(Qm 66 7),(Qm 4 66),(Qi 5 0)]) (.ret))))))
theorem ok14:FnOK Try.prog 14 Try.f14 e14 [.t 4,.t 5] 2 65:=⟨by kernel_rfl,⟨_,rfl,by kernel_rfl⟩,by kernel_rfl,by kernel_rfl⟩
noncomputable def Zd8:(List Diner)→Option ((List Diner)×Int)
| x68=>
 some (x68,0)
noncomputable def Ze8 (x31:Int) (x32:(List Diner)):(List Side)→Option ((Int×(List Diner)) ⊕ ((List Diner)×Int))
| x59=>
 (app_ 40 x32 ([(Diner.mk x31 0 x59)])).bind fun x60=>
 some (.inl (wr (x31+1),x60))
noncomputable def Zf8 (x2:(List Int)) (x31:Int) (x32:(List Diner)) (x33:(List Int)):(Int×(List Side))→Option ((Int×(List Side)) ⊕ ((Int×(List Diner)) ⊕ ((List Diner)×Int)))
| (x40,x41)=>
 ifb (decide (x40<(ln Zo4 x33))) (
 (at_ x33 x40).bind fun x42=>
 (at_ x2 x31).bind fun x43=>
 (at_ x2 x42).bind fun x44=>
 (app_ 32 x41 ([(Side.mk x42 1 0 (decide (x44<x43)) (decide (x44<x43)) (!(decide (x44<x43))) (decide (x44<x43)) (!(decide (x44<x43))))])).bind fun x45=>
 some (.inl (wr (x40+1),x45))) (
 Option.map Sum.inr ((Ze8 x31 x32) x41))
noncomputable def Zg8 (x1:Graph) (x2:(List Int)):(Int×(List Diner))→Option ((Int×(List Diner)) ⊕ ((List Diner)×Int))
| (x31,x32)=>
 ifb (decide (x31<x1.N)) (
 (Zb8 x1 x31).bind fun x33=>
 loop (Zf8 x2 x31 x32 x33) (0,([]:List Side))) (
 Option.map Sum.inr (Zd8 x32))
noncomputable def Zh8 (x1:Graph) (x2:(List Int)):Option ((List Diner)×Int):=
 (Zb6 x1).bind fun x3=>
 ifb (!decide (x3=0)) (
 some (([]:(List Diner)),x3)) (
 (Zv7 x1 x2).bind fun x4=>
 ifb (!x4) (
 some (([]:(List Diner)),120)) (
 loop (Zg8 x1 x2) (0,([]:List Diner))))
theorem Zi8 (x1:Graph) (x2:(List Int)) (r:((List Diner)×Int)) (h:Zh8 x1 x2=some r):Zu2 Try.prog 14 [.agg (Graph.row x1),.sl 1 (List.map Zo4 x2)] (.tup [.sl 3 (List.map Diner.row r.1),.iv r.2]):=by
 refine Zx2 ok14 rfl rfl fun w0 H0=>?_
 rw [Zh8] at h
 refine Zo2 10 ?_;dsimp only [go_sem];refine An ?_;obtain ⟨x3,ex3,h⟩:=Bs h;refine Z23 trivial (Zc6 x1 _ ex3) (h:=?_);refine Zo2 7 ?_;dsimp only [go_sem];refine An ?_;refine Zb4 h rfl (fun _ h=>?_) fun _ h=>?_
 ·refine Zo2 6 ?_;dsimp only [go_sem];refine An ?_;exact Zi4 (res:=fun (r:((List Diner)×Int))=>.tup [.sl 3 (List.map Diner.row r.1),.iv r.2]) ok14 h
 ·refine Zo2 6 ?_;dsimp only [go_sem];refine An ?_;obtain ⟨x4,ex4,h⟩:=Bs h;refine Z23 trivial (Zw7 x1 x2 _ ex4) (h:=?_);refine Zo2 2 ?_;dsimp only [go_sem];refine An ?_;refine Zb4 h rfl (fun _ h=>?_) fun _ h=>?_
  ·refine Zo2 5 ?_;dsimp only [go_sem];refine An ?_;exact Zi4 (res:=fun (r:((List Diner)×Int))=>.tup [.sl 3 (List.map Diner.row r.1),.iv r.2]) ok14 h
  ·refine Zo2 12 ?_;dsimp only [go_sem];refine An ?_;refine Z94 (fun (x68:(List Diner))=>(⟨(an 7 (.osl 0::an 59 [])),[],[some ⟨39,3,List.map Diner.row x68⟩]⟩:St)) Zd8 r ?_ fun J1=>?_
   ·intro x68 h;rw [Zd8] at h;(try dsimp only);refine Zo2 6 ?_;dsimp only [go_sem];refine An ?_;refine Za3 0 rfl ?_;dsimp only [go_sem];exact Zi4 (res:=fun (r:((List Diner)×Int))=>.tup [.sl 3 (List.map Diner.row r.1),.iv r.2]) ok14 h
   ·refine Zo2 1 ?_;dsimp only [go_sem];refine An ?_;refine V_own 7 39 3 rfl rfl ?_;dsimp only [go_sem];refine Za4 h (fun ((x31,x32):(Int×(List Diner)))=>(⟨(.any :: .sl 1 (List.map Zo4 x2) :: .ptr 0 0::an 4 (.osl 0::an 15 (.iv x1.N :: .iv x31::an 42 []))),[some ⟨24,[.iv x1.N,.sl 2 (List.map Edge.row x1.Edges)]⟩],[some ⟨39,3,List.map Diner.row x32⟩]⟩:St)) (by simp [go_sem]) (by rintro ⟨x31,x32⟩;first | rfl | simp [go_sem]) ?_;rintro n1 ⟨x31,x32⟩ y1 h hin1 hout1;rw [Zg8] at h;(try dsimp only);refine Zo2 5 ?_;dsimp only [go_sem]
    refine An ?_;refine Zb4 h rfl (fun _ h=>?_) fun _ h=>?_
    ·refine Zo2 20 ?_;dsimp only [go_sem];refine An ?_;obtain ⟨x33,ex33,h⟩:=Bs h;refine Z23 trivial (Zc8 x1 x31 _ ex33) (h:=?_);refine Zo2 3 ?_;dsimp only [go_sem];refine An ?_
     refine Z94 (fun (x59:(List Side))=>(⟨(.any :: .sl 1 (List.map Zo4 x2) :: .ptr 0 0::an 4 (.osl 0 :: .any :: .ptr 1 0::an 13 (.iv x1.N :: .iv x31::an 42 []))),[some ⟨24,[.iv x1.N,.sl 2 (List.map Edge.row x1.Edges)]⟩,some ⟨39,[.iv x31,.iv 0,.osl 1]⟩],[some ⟨39,3,List.map Diner.row x32⟩,some ⟨49,8,List.map Side.row x59⟩]⟩:St)) (Ze8 x31 x32) y1 ?_ fun J2=>?_
     ·intro x59 h;rw [Ze8] at h;(try dsimp only);refine Zo2 3 ?_;dsimp only [go_sem];refine An ?_;refine Za3 1 rfl ?_;dsimp only [go_sem];refine Zo2 1 ?_;dsimp only [go_sem];refine An ?_;obtain ⟨x60,ex60,h⟩:=Bs h;refine Zg4 Diner.row ex60 trivial rfl rfl rfl ?_;refine Zo2 7 ?_;dsimp only [go_sem];refine An ?_;refine V_ren 3 0 rfl rfl rfl ?_;dsimp only [go_sem];exact Zj4 h hin1
     ·refine Zo2 1 ?_;dsimp only [go_sem];refine An ?_;refine V_ownB 1 2 49 8 rfl rfl rfl ?_;dsimp only [go_sem]
      refine Za4 h (fun ((x40,x41):(Int×(List Side)))=>(⟨(.any :: .sl 1 (List.map Zo4 x2) :: .ptr 0 0::an 4 (.osl 0 :: .iv x31 :: .ptr 1 0::an 13 (.iv x1.N :: .iv x31::an 6 (.sl 1 (List.map Zo4 x33) :: .iv (ln Zo4 x33) :: .iv x40::an 33 [])))),[some ⟨24,[.iv x1.N,.sl 2 (List.map Edge.row x1.Edges)]⟩,some ⟨39,[.iv x31,.iv 0,.osl 1]⟩],[some ⟨39,3,List.map Diner.row x32⟩,some ⟨49,8,List.map Side.row x41⟩]⟩:St)) (by simp [go_sem]) (by rintro ⟨x40,x41⟩;first | rfl | simp [go_sem]) ?_;rintro n2 ⟨x40,x41⟩ y2 h hin2 hout2;rw [Zf8] at h
      (try dsimp only);refine Zo2 5 ?_;dsimp only [go_sem];refine An ?_;refine Zb4 h rfl (fun _ h=>?_) fun _ h=>?_
      ·refine Zo2 5 ?_;dsimp only [go_sem];refine An ?_;obtain ⟨x42,ex42,h⟩:=Bs h;refine Ze4 Zo4 ex42 trivial rfl rfl rfl ?_;refine Zo2 4 ?_;dsimp only [go_sem];refine An ?_;refine Zi3 (by kernel_rfl) fun all hall hs hnap haf=>?_;dsimp only [go_sem];refine Zv4 hall hs haf hnap 4 6 ?_;dsimp only [go_sem];refine An ?_;obtain ⟨x43,ex43,h⟩:=Bs h;refine Zf4 hall hs haf hnap 2 Zo4 ex43 rfl rfl trivial rfl rfl rfl rfl ?_;refine Zv4 hall hs haf hnap 1 4 ?_;dsimp only [go_sem];refine An ?_;obtain ⟨x44,ex44,h⟩:=Bs h
       refine Zf4 hall hs haf hnap 6 Zo4 ex44 rfl rfl trivial rfl rfl rfl rfl ?_;refine Zv4 hall hs haf hnap 3 0 ?_;dsimp only [go_sem];refine An ?_;refine Zs3 rfl ?_ _;refine Zo2 13 ?_;dsimp only [go_sem];refine An ?_;obtain ⟨x45,ex45,h⟩:=Bs h;refine Zg4 Side.row ex45 trivial rfl rfl rfl ?_;refine Zo2 8 ?_;dsimp only [go_sem];refine An ?_;refine V_ren 3 1 rfl rfl rfl ?_;dsimp only [go_sem];exact Zj4 h hin2
      ·refine Zo2 1 ?_;dsimp only [go_sem];refine An ?_;exact Zk4 J2 (s:=x41) (Z84 h hout2)
    ·refine Zo2 1 ?_;dsimp only [go_sem];refine An ?_;exact Zk4 J1 (s:=x32) (Z84 h hout1)
set_option maxRecDepth 100000
set_option maxHeartbeats 4000000
theorem pw_ext {α:Type} {R:α→α→Prop} (irr:∀x,¬R x x) (asy:∀x y,R x y→¬R y x):∀ {l m:List α},l.Pairwise R→m.Pairwise R→(∀x,x∈l↔x∈m)→l=m
 | [],[],_,_,_=>rfl
 | [],y::m,_,_,h=>absurd ((h y).2 (by simp)) (by simp)
 | x::l,[],_,_,h=>absurd ((h x).1 (by simp)) (by simp)
 | x::l,y::m,hl,hm,h=>by
   rw [List.pairwise_cons] at hl hm
   have hxy:x=y:=by
    rcases List.mem_cons.1 ((h x).1 (by simp)) with e | e
    ·exact e
    ·rcases List.mem_cons.1 ((h y).2 (by simp)) with e2 | e2
     ·exact e2.symm
     ·exact absurd (hl.1 y e2) (asy _ _ (hm.1 x e))
   subst hxy
   rw [pw_ext irr asy hl.2 hm.2 fun z=>?_]
   constructor
   ·intro hz
    rcases List.mem_cons.1 ((h z).1 (List.mem_cons_of_mem _ hz)) with e | e
    ·subst e;exact absurd (hl.1 z hz) (irr z)
    ·exact e
   ·intro hz
    rcases List.mem_cons.1 ((h z).2 (List.mem_cons_of_mem _ hz)) with e | e
    ·subst e;exact absurd (hm.1 z hz) (irr z)
    ·exact e
theorem Edge.lt_trans {x y z:Edge} (h:x.lt y=true) (k:y.lt z=true):x.lt z=true:=by
 simp only [Edge.lt,Bool.or_eq_true,Bool.and_eq_true,decide_eq_true_eq] at *
 omega
theorem Edge.lt_irr (x:Edge):¬x.lt x=true:=by
 simp only [Edge.lt,Bool.or_eq_true,Bool.and_eq_true,decide_eq_true_eq]
 omega
theorem Zj8:∀ {l:List Edge},risB l=true→l.Pairwise fun x y=>x.lt y=true
 | [],_=>List.Pairwise.nil
 | [x],_=>by simp
 | x::y::l,h=>by
   simp only [risB,Bool.and_eq_true] at h
   have ih:=Zj8 h.2
   refine List.pairwise_cons.2 ⟨?_,ih⟩
   intro z hz
   rcases List.mem_cons.1 hz with rfl | hz
   ·exact h.1
   ·exact Edge.lt_trans h.1 ((List.pairwise_cons.1 ih).1 z hz)
theorem okG_pw {g:Graph} (h:okG g=true):g.Edges.Pairwise fun x y=>x.lt y=true:=Zj8 (Zp6 h).2.2.2.2
def Zk8 (a:Int) (e:Edge):Option Int:=if a=e.A then some e.B else if a=e.B then some e.A else none
def Zl8 (g:Graph) (a:Int):List Int:=g.Edges.filterMap (Zk8 a)
theorem Zm8 {g:Graph} (h:okG g=true) (a:Int):(Zl8 g a).Pairwise (· < ·):=by
 unfold Zl8
 rw [List.pairwise_filterMap]
 obtain ⟨_,_,_,h4,_⟩:=Zp6 h
 refine List.Pairwise.imp_of_mem ?_ (okG_pw h)
 intro x y hx hy hxy b hb b' hb'
 have k1:=h4 x hx
 have k2:=h4 y hy
 simp only [Edge.lt,Bool.or_eq_true,Bool.and_eq_true,decide_eq_true_eq] at hxy
 unfold Zk8 at hb hb'
 split at hb<;>split at hb'
 ·simp at hb hb';omega
 ·split at hb'
  ·simp at hb hb';omega
  ·simp at hb'
 ·split at hb
  ·simp at hb hb';omega
  ·simp at hb
 ·split at hb<;>split at hb'
  ·simp at hb hb';omega
  ·simp at hb'
  ·simp at hb
  ·simp at hb
theorem pw_chain {l:List Int} (h:l.Pairwise (· < ·)) {k:Nat} {x y:Int} (hx:l[k]?=some x) (hy:l[k+1]?=some y):x<y:=by
 rw [List.pairwise_iff_getElem] at h
 obtain ⟨h1,rfl⟩:=List.getElem?_eq_some_iff.1 hx
 obtain ⟨h2,rfl⟩:=List.getElem?_eq_some_iff.1 hy
 exact h k (k+1) h1 h2 (by omega)
theorem compact_pw {l:List Int} (h:l.Pairwise (· < ·)):Lib.compact l=l:=by
 refine Lib.compact_all l fun j hj=>?_
 cases j with
 | zero=>exact Lib.keeps_lt_one _ 0 (by omega)
 | succ j=>
   have hx:l[j+1]?=some l[j+1]:=List.getElem?_eq_getElem hj
   have hy:l[j]?=some l[j]:=List.getElem?_eq_getElem (by omega)
   have:=pw_chain h hy hx
   refine Lib.keeps_pos ?_
   simp only [Nat.add_sub_cancel]
   rw [getElem!_pos _ _ (by simpa using hj),getElem!_pos _ _ (by simp;omega)]
   simp only [List.getElem_toArray]
   omega
def setL (l:List Int):List Int:=Lib.compact (l.mergeSort fun x y=>decide (x≤y))
theorem s_setL (l:List Int) (hl:l.length≤1000000):Z78 l=some (setL l):=by
 simp only [Z78,Z48]
 rw [Zc5 _ _ (by omega) (by simp;omega),Option.bind_some,List.nil_append,decide_eq_true (by omega),Z85]
 rfl
theorem s_setOf (l:List Int) (hl:l.length≤1000000) (h:l.Pairwise (· < ·)):Z78 l=some l:=by
 rw [s_setL l hl]
 unfold setL
 rw [List.mergeSort_of_pairwise (h.imp fun hxy=>decide_eq_true (by omega)),compact_pw h]
theorem Zn8 (g:Graph) (a:Int):(Zl8 g a).length≤g.Edges.length:=List.length_filterMap_le _ _
theorem s_Near (g:Graph) (a:Int):Zb8 g a=some (if okG g then Zl8 g a else []):=by
 simp only [Zb8,Zo6,Option.bind_some]
 cases hg:okG g with
 | false=>rfl
 | true=>
   have h400:=(Zp6 hg).2.2.1
   simp only [if_true,decide_true,Bool.not_true,Z95]
   refine Zx6 g.Edges _ (fun pre=>((pre.length:Int),pre.filterMap (Zk8 a))) (Zl8 g a) (fun pre e post h=>?_) ?_
   ·have hx:=Zy6 h
    have hm:=Zz6 h
    have hl:(pre.filterMap (Zk8 a)).length≤pre.length:=List.length_filterMap_le _ _
    dsimp only [Za8]
    rw [Zd5 hx,Z85,Zb5 hx,Option.bind_some,Z17,List.filterMap_append]
    by_cases h1:a=e.A
    ·rw [decide_eq_true h1,Z85,Zc5 _ _ (by omega) (by simp only [List.length_singleton];omega),Option.bind_some,Z98,Zf5 (by omega)]
     simp [Zk8,h1]
    ·by_cases h2:a=e.B
     ·rw [decide_eq_false h1,Z95,decide_eq_true h2,Z85,Zc5 _ _ (by omega) (by simp only [List.length_singleton];omega),Option.bind_some,Z98,Zf5 (by omega)]
      have:¬e.B=e.A:=fun e'=>h1 (h2.trans e')
      simp [Zk8,h2,this]
     ·rw [decide_eq_false h1,Z95,decide_eq_false h2,Z95,Z98,Zf5 (by omega)]
      simp [Zk8,h1,h2]
   ·dsimp only [Za8]
    rw [Ze5,Z95,Z88]
    have:(g.Edges.filterMap (Zk8 a))=Zl8 g a:=rfl
    rw [this,s_setOf _ (by have:=Zn8 g a;omega) (Zm8 hg a)]
    rfl
theorem Zo8 {g:Graph} (h:okG g=true) {a b:Int}:b∈Zl8 g a↔(⟨a,b⟩:Edge)∈g.Edges∨(⟨b,a⟩:Edge)∈g.Edges:=by
 obtain ⟨_,_,_,h4,_⟩:=Zp6 h
 unfold Zl8
 rw [List.mem_filterMap]
 constructor
 ·rintro ⟨e,he,hb⟩
  unfold Zk8 at hb
  split at hb
  ·rename_i h1
   simp at hb;subst hb;subst h1;exact .inl he
  ·split at hb
   ·rename_i h2
    simp at hb;subst hb;subst h2;exact .inr he
   ·simp at hb
 ·rintro (he | he)
  ·exact ⟨_,he,by simp [Zk8]⟩
  ·have:=h4 _ he
   dsimp only at this
   exact ⟨_,he,by unfold Zk8;rw [if_neg (by dsimp only;omega),if_pos rfl]⟩
theorem hasB_iff {g:Graph} (h:okG g=true) {a b:Int}:hasB g a b=true↔b∈Zl8 g a:=by
 rw [Zo8 h]
 obtain ⟨_,_,_,h4,_⟩:=Zp6 h
 simp only [hasB,List.any_eq_true,Bool.or_eq_true,Bool.and_eq_true,decide_eq_true_eq]
 constructor
 ·rintro ⟨e,he,(⟨rfl,rfl,_⟩ | ⟨rfl,rfl,_⟩)⟩
  ·exact .inl he
  ·exact .inr he
 ·rintro (he | he)
  ·have:=h4 _ he;dsimp only at this
   exact ⟨_,he,.inl ⟨rfl,rfl,by omega⟩⟩
  ·have:=h4 _ he;dsimp only at this
   exact ⟨_,he,.inr ⟨rfl,rfl,by omega⟩⟩
theorem Zp8 {g:Graph} (h:okG g=true) {a b:Int} (hb:b∈Zl8 g a):0≤b∧b<g.N∧b≠a∧0≤a∧a<g.N:=by
 obtain ⟨_,_,_,h4,_⟩:=Zp6 h
 rcases (Zo8 h).1 hb with he | he
 ·have:=h4 _ he;dsimp only at this;omega
 ·have:=h4 _ he;dsimp only at this;omega
def Zq8 (c:List Int) (a b:Int):Side:=⟨b,1,0,decide (cg c b<cg c a),decide (cg c b<cg c a),!decide (cg c b<cg c a),decide (cg c b<cg c a),!decide (cg c b<cg c a)⟩
def Zr8 (g:Graph) (c:List Int) (a:Nat):Diner:=⟨a,0,(Zl8 g a).map (Zq8 c a)⟩
def Zs8 (g:Graph) (c:List Int):List Diner:=(List.range g.N.toNat).map (Zr8 g c)
theorem Zt8 {α:Type} (f:Nat→α) (k:Nat):(List.range (k+1)).map f=(List.range k).map f++[f k]:=by simp [List.range_succ]
theorem s_Table2 (g:Graph) (hg:okG g=true) (c:List Int) (hc:(c.length:Int)=g.N) (a:Nat) (ha:(a:Int)<g.N) (L:List Diner) (hL:L.length≤1000):
  loop (Zf8 c a L (Zl8 g a)) (0,[])=some (.inl (((a+1:Nat):Int),L++[Zr8 g c a])):=by
 obtain ⟨g1,g2,g3,_,_⟩:=Zp6 hg
 have hnl:=Zn8 g a
 refine Zx6 (Zl8 g a) _ (fun pre=>((pre.length:Int),pre.map (Zq8 c a))) _ (fun pre b post h=>?_) ?_
 ·have hx:=Zy6 h
  have hm:=Zz6 h
  obtain ⟨b1,b2,_,_,_⟩:=Zp8 hg (Z07 h)
  dsimp only [Zf8]
  rw [Zd5 hx,Z85,Zb5 hx,Option.bind_some,at_cg (c:=c) (Int.natCast_nonneg a) (by omega),Option.bind_some,at_cg (c:=c) b1 (by omega),Option.bind_some,Zc5 _ _ (by omega) (by simp;omega),Option.bind_some,Z17,Zf5 (by omega),List.map_append]
  rfl
 ·dsimp only [Zf8]
  rw [Ze5,Z95,Ze8,Zc5 _ _ (by omega) (by simp;omega),Option.bind_some,Zf5 (by omega)]
  rfl
theorem rightB_len {g:Graph} {c:List Int} (h:Z28 g c=true):(c.length:Int)=g.N:=by
 simp only [Z28,Bool.and_eq_true,decide_eq_true_eq] at h;exact h.1
theorem s_Table (g:Graph) (c:List Int) (hc:c.length≤1000000):Zh8 g c=some (if okG g then (if Z28 g c then (Zs8 g c,0) else ([],120)) else ([],30)):=by
 simp only [Zh8,Zo6,Option.bind_some]
 cases hg:okG g with
 | false=>rfl
 | true=>
   obtain ⟨g1,g2,_,_,_⟩:=Zp6 hg
   simp only [if_true,decide_true,Bool.not_true,Z95,s_Right g c hc,hg,Bool.true_and,Option.bind_some]
   cases hr:Z28 g c with
   | false=>rfl
   | true=>
     simp only [Bool.not_true,Z95,if_true]
     refine loop_nat g.N.toNat (Zg8 g c) (fun k=>((k:Int),(List.range k).map (Zr8 g c))) _ (fun k hk=>?_) ?_
     ·dsimp only [Zg8]
      rw [decide_eq_true (by omega),Z85,s_Near,hg,if_pos rfl,Option.bind_some,s_Table2 g hg c (rightB_len hr) k (by omega) _ (by simp;omega),Zt8]
     ·dsimp only [Zg8]
      rw [decide_eq_false (by omega),Z95]
      rfl
theorem rightB_ne {g:Graph} (hg:okG g=true) {c:List Int} (h:Z28 g c=true) {a b:Int} (hb:b∈Zl8 g a):cg c a≠cg c b:=by
 simp only [Z28,Bool.and_eq_true,List.all_eq_true,Bool.not_eq_true',decide_eq_false_iff_not] at h
 rcases (Zo8 hg).1 hb with he | he
 ·exact h.2.2 _ he
 ·exact fun e=>h.2.2 _ he e.symm
theorem tableT_few {g:Graph} (hg:okG g=true) (c:List Int):fewD (Zs8 g c):=by
 obtain ⟨g1,g2,g3,_,_⟩:=Zp6 hg
 refine ⟨by simp [Zs8];omega,fun d hd=>?_⟩
 obtain ⟨a,_,rfl⟩:=List.mem_map.1 hd
 have:=Zn8 g a
 simp only [Zr8,List.length_map];omega
theorem Zu8 {g:Graph} {c:List Int} {a:Int} (h0:0≤a) (h:a<g.N):(Zs8 g c)[a.toNat]?=some (Zr8 g c a.toNat):=by
 unfold Zs8
 rw [List.getElem?_map,List.getElem?_range (by omega)];rfl
theorem Zv8 {g:Graph} (hg:okG g=true) (c:List Int):((Zs8 g c).length:Int)=g.N:=by
 have:=(Zp6 hg).1
 simp [Zs8];omega
theorem sideO_T (g:Graph) (c:List Int) (a:Nat) (b:Int):Z47 (Zr8 g c a) b=if b∈Zl8 g a then some (Zq8 c a b) else none:=by
 unfold Z47 Zr8
 dsimp only
 rw [List.find?_map]
 have e:((fun x:Side=>decide (x.Peer=b))∘Zq8 c a)=fun z=>decide (z=b):=rfl
 rw [e]
 by_cases h:b∈Zl8 g a
 ·rw [if_pos h]
  have:(Zl8 g a).find? (fun z=>decide (z=b))=some b:=by
   cases hf:(Zl8 g a).find? (fun z=>decide (z=b)) with
   | none=>rw [List.find?_eq_none] at hf;exact absurd (by simp) (hf b h)
   | some z=>have:=List.find?_some hf;simp at this;rw [this]
  rw [this];rfl
 ·rw [if_neg h]
  have:(Zl8 g a).find? (fun z=>decide (z=b))=none:=by
   rw [List.find?_eq_none];intro z hz;simp;rintro rfl;exact h hz
  rw [this];rfl
theorem Zw8 {g:Graph} (hg:okG g=true) {a b:Int} (h:b∈Zl8 g a):a∈Zl8 g b:=by
 rw [Zo8 hg] at *;exact h.symm
theorem tableT_pw {g:Graph} (hg:okG g=true) (c:List Int) (d:Diner) (hd:d∈Zs8 g c):d.Sides.Pairwise fun x y=>x.Peer<y.Peer:=by
 obtain ⟨a,_,rfl⟩:=List.mem_map.1 hd
 simp only [Zr8,List.pairwise_map]
 exact Zm8 hg a
theorem graphP_T {g:Graph} (hg:okG g=true) (c:List Int):Zi7 (Zs8 g c)=(g,true):=by
 obtain ⟨g1,g2,g3,g4,g5⟩:=Zp6 hg
 have hlen:=Zv8 hg c
 have hall:Zf7 (Zs8 g c) 0 (Zs8 g c)=true:=by
  rw [okAll_iff]
  intro k d hd
  have hk:=(List.getElem?_eq_some_iff.1 hd).1
  have e:=Zu8 (g:=g) (c:=c) (a:=(k:Int)) (by omega) (by omega)
  rw [Int.toNat_natCast,hd] at e
  simp at e;subst e
  refine ⟨by simp [Zr8],?_⟩
  rw [Nat.zero_add,Zn7]
  refine ⟨fun x hx=>?_,tableT_pw hg c _ (List.mem_iff_getElem?.2 ⟨_,hd⟩),by simp⟩
  obtain ⟨b,hb,rfl⟩:=List.mem_map.1 hx
  obtain ⟨b1,b2,b3,_,_⟩:=Zp8 hg hb
  have hs:Z47 (Zr8 g c b.toNat) k=some (Zq8 c b.toNat k):=by
   rw [sideO_T,if_pos]
   rw [Int.toNat_of_nonneg b1];exact Zw8 hg hb
  have hs':(Z47 (Zr8 g c b.toNat) (k:Int)).isSome=true:=by rw [hs];rfl
  show (decide (0≤b)&&(decide (b<((Zs8 g c).length:Int))&&(!decide (b=(k:Int))&&(match (Zs8 g c)[b.toNat]? with | some e=>(Z47 e k).isSome | none=>false))))=true
  rw [decide_eq_true b1,decide_eq_true (by omega),decide_eq_false b3,Zu8 (c:=c) b1 b2]
  simpa using hs'
 have hedges:Zg7 0 (Zs8 g c)=g.Edges:=by
  refine pw_ext (R:=fun x y=>x.lt y=true) Edge.lt_irr (fun x y h1 h2=>Edge.lt_irr x (Edge.lt_trans h1 h2)) (edgesL_pw (tableT_pw hg c)) (okG_pw hg) fun e=>?_
  rw [Zp7]
  constructor
  ·rintro ⟨k,d,hd,he⟩
   have hk:=(List.getElem?_eq_some_iff.1 hd).1
   have e':=Zu8 (g:=g) (c:=c) (a:=(k:Int)) (by omega) (by omega)
   rw [Int.toNat_natCast,hd] at e'
   simp at e';subst e'
   obtain ⟨h1,h2,x,hx,h3⟩:=Zo7.1 he
   obtain ⟨b,hb,rfl⟩:=List.mem_map.1 hx
   simp only [Zq8] at h3
   subst h3
   rw [Nat.zero_add] at h1 h2
   rcases (Zo8 hg).1 hb with hb | hb
   ·obtain ⟨e1,e2⟩:=e;dsimp only at h1 hb;rw [h1];exact hb
   ·have:=g4 _ hb;dsimp only at this;omega
  ·intro he
   have h:=g4 e he
   refine ⟨e.A.toNat,Zr8 g c e.A.toNat,Zu8 h.1 (by omega),Zo7.2 ⟨by omega,by omega,Zq8 c e.A.toNat e.B,?_,rfl⟩⟩
   simp only [Zr8]
   refine List.mem_map_of_mem ?_
   rw [Zo8 hg,Int.toNat_of_nonneg h.1]
   exact .inl he
 have hG:(⟨(Zs8 g c).length,Zg7 0 (Zs8 g c)⟩:Graph)=g:=by
  rw [hedges,hlen]
 unfold Zi7
 rw [hG,hall,hg];rfl
set_option maxRecDepth 100000
set_option maxHeartbeats 4000000
set_option maxRecDepth 100000
set_option maxHeartbeats 4000000
set_option maxRecDepth 100000
set_option maxHeartbeats 4000000
set_option maxRecDepth 100000
set_option maxHeartbeats 4000000
set_option maxRecDepth 100000
set_option maxHeartbeats 4000000
set_option maxRecDepth 100000
set_option maxHeartbeats 4000000
def sideD (id q:Int) (x:Side):Bool:=decide (q<x.Peer)&&(!decide (x.Peer=id)&&(decide (0≤x.Epoch)&&(decide (x.Epoch≤65535)&&(decide (0≤x.State)&&(decide (x.State≤3)&&!(x.Dirty&&!x.Fork))))))
def okSides (id:Int):Int→List Side→Bool
 | _,[]=>true
 | q,x::r=>sideD id q x&&okSides id x.Peer r
def okD (d:Diner):Bool:=decide (0≤d.ID)&&(decide (0≤d.Phase)&&(decide (d.Phase≤2)&&(decide (d.Sides.length<64)&&okSides d.ID (-1) d.Sides)))
def dirtyS (x:Side):Side:= {x with Dirty:=true}
def key (d:Diner):Int×List Int:=(d.ID,d.Sides.map (·.Peer))
def sideK (K:List (Int×List Int)) (i:Nat) (p:Int):Bool:=decide (0≤p)&&(decide (p<K.length)&&(!decide (p=i)&&(match K[p.toNat]? with | some e=>decide ((i:Int)∈e.2) | none=>false)))
def okFromK (K:List (Int×List Int)) (i:Nat):Option Int→List Int→Bool
 | _,[]=>true
 | p,x::r=>(match p with | none=>true | some q=>decide (q<x))&&(sideK K i x&&okFromK K i (some x) r)
def okAllK (K:List (Int×List Int)):Nat→List (Int×List Int)→Bool
 | _,[]=>true
 | i,d::r=>decide (d.1=i)&&(okFromK K i none d.2&&okAllK K (i+1) r)
def edgesK:Nat→List (Int×List Int)→List Edge
 | _,[]=>[]
 | i,d::r=>((d.2.filter fun x=>decide ((i:Int)<x)).map fun x=>⟨i,x⟩)++edgesK (i+1) r
theorem Zx8 (d:Diner) (i:Int):(Z47 d i).isSome=decide (i∈d.Sides.map (·.Peer)):=by
 unfold Z47
 rw [Bool.eq_iff_iff,List.find?_isSome,decide_eq_true_iff,List.mem_map]
 simp
theorem sideB_key (l:List Diner) (i:Nat) (x:Side):Zc7 l i x=sideK (l.map key) i x.Peer:=by
 unfold Zc7 sideK
 rw [List.length_map,List.getElem?_map]
 cases l[x.Peer.toNat]? with
 | none=>rfl
 | some e=>simp only [Option.map_some,key,Zx8]
theorem Zy8 (l:List Diner) (i:Nat):∀(xs:List Side) (p:Option Int),Zd7 l i p xs=okFromK (l.map key) i p (xs.map (·.Peer))
 | [],_=>rfl
 | x::r,p=>by
   simp only [Zd7,List.map_cons,okFromK,Zy8 l i r,sideB_key]
   cases p<;>rfl
theorem Zz8 (l:List Diner):∀(r:List Diner) (i:Nat),Zf7 l i r=okAllK (l.map key) i (r.map key)
 | [],_=>rfl
 | d::r,i=>by
   simp only [Zf7,List.map_cons,okAllK,Zz8 l r,Zy8]
   rfl
theorem Z09:∀(r:List Diner) (i:Nat),Zg7 i r=edgesK i (r.map key)
 | [],_=>rfl
 | d::r,i=>by
   simp only [Zg7,List.map_cons,edgesK,Z09 r,Ze7,key,List.filter_map,List.map_map]
   rfl
theorem graphP_key {l m:List Diner} (h:l.map key=m.map key):Zi7 l=Zi7 m:=by
 have hl:l.length=m.length:=by have:=congrArg List.length h;simpa using this
 unfold Zi7
 rw [Zz8,Zz8,Z09,Z09,h,hl]
theorem pw_len:∀(l:List Int) (q n:Int),l.Pairwise (· < ·)→(∀x∈l,q≤x∧x<n)→l=[]∨(l.length:Int)≤n-q
 | [],_,_,_,_=>.inl rfl
 | x::l,q,n,h,hb=>by
   rw [List.pairwise_cons] at h
   have h1:=hb x (by simp)
   right
   rcases pw_len l (x+1) n h.2 (fun y hy=>⟨by have:=h.1 y hy;omega,(hb y (by simp [hy])).2⟩) with rfl | h2
   ·simp only [List.length_cons,List.length_nil];omega
   ·simp only [List.length_cons];omega
theorem near_few {g:Graph} (hg:okG g=true) (a:Int):((Zl8 g a).length:Int)≤g.N:=by
 rcases pw_len (Zl8 g a) 0 g.N (Zm8 hg a) (fun x hx=>by have:=Zp8 hg hx;omega) with h | h
 ·rw [h];exact (Zp6 hg).1
 ·omega
def has (x:Side) (k:Int):Bool:=if k=1 then x.Fork else x.Token
def bn (b:Bool):Nat:=if b then 1 else 0
def hasD (d:Diner) (k b:Int):Nat:=match Z47 d b with | some x=>bn (has x k) | none=>0
def cnt (M:List Mail) (k a b:Int):Nat:=M.count ⟨a,b,⟨k,1,0⟩⟩
structure LocD (d:Diner):Prop where
 lo:0≤d.Phase
 hi:d.Phase≤2
 side:∀x∈d.Sides,x.Epoch=1∧x.State=0∧(x.Dirty=true→x.Fork=true)
 eat:d.Phase=2→∀x∈d.Sides,x.Fork=true∧x.Dirty=true
def mailG (g:Graph) (m:Mail):Prop:=(m.Msg.Kind=1∨m.Msg.Kind=2)∧m.Msg.Epoch=1∧m.Msg.Num=0∧m.To∈Zl8 g m.From
structure Inv (g:Graph) (s:Scene):Prop where
 len:(s.Diners.length:Int)=g.N
 shp:∀(a:Nat) d,s.Diners[a]?=some d→d.ID=a∧d.Sides.map (·.Peer)=Zl8 g a
 loc:∀d∈s.Diners,LocD d
 mail:∀m∈s.Mail,mailG g m
 one:∀(a b:Nat) da db,s.Diners[a]?=some da→s.Diners[b]?=some db→(b:Int)∈Zl8 g a→∀k,(k=1∨k=2)→hasD da k b+hasD db k a+cnt s.Mail k a b+cnt s.Mail k b a=1
theorem Inv.set {g:Graph} {s:Scene} (hg:okG g=true) (h:Inv g s) {a:Nat} {d d':Diner} (hd:s.Diners[a]?=some d) (hid:d'.ID=d.ID) (hp:d'.Sides.map (·.Peer)=d.Sides.map (·.Peer)) (hl:LocD d')
  {M:List Mail} (hm:∀m∈M,mailG g m) (ho:∀k p q:Int,p≠a→q≠a→cnt M k p q=cnt s.Mail k p q)
  (hc:∀b∈Zl8 g a,∀k,(k=1∨k=2)→hasD d' k b+cnt M k a b+cnt M k b a=hasD d k b+cnt s.Mail k a b+cnt s.Mail k b a):Inv g ⟨s.Diners.set a d',M⟩:=by
 have hlt:=(List.getElem?_eq_some_iff.1 hd).1
 have get:∀(k:Nat) e,(s.Diners.set a d')[k]?=some e→(k=a∧e=d')∨(k≠a∧s.Diners[k]?=some e):=fun k e he=>by
  rw [List.getElem?_set] at he
  split at he
  ·rename_i hk
   simp at he
   exact .inl ⟨hk.symm,he.symm⟩
  ·rename_i hk
   exact .inr ⟨fun e=>hk e.symm,he⟩
 refine ⟨by simpa using h.len,fun k e he=>?_,fun e he=>?_,hm,fun x y dx dy hx hy hxy k hk=>?_⟩
 ·rcases get k e he with ⟨rfl,rfl⟩ | ⟨_,he⟩
  ·rw [hid,hp];exact h.shp k d hd
  ·exact h.shp k e he
 ·obtain ⟨k,hk⟩:=List.mem_iff_getElem?.1 he
  rcases get k e hk with ⟨_,rfl⟩ | ⟨_,he⟩
  ·exact hl
  ·exact h.loc e (List.mem_iff_getElem?.2 ⟨_,he⟩)
 ·dsimp only at hx hy ⊢
  have hne:=(Zp8 hg hxy).2.2.1
  have hyx:=Zw8 hg hxy
  rcases get x dx hx with ⟨rfl,rfl⟩ | ⟨x1,hx'⟩<;>rcases get y dy hy with ⟨rfl,rfl⟩ | ⟨y1,hy'⟩
  ·exact absurd rfl hne
  ·have:=hc y hxy k hk
   have:=h.one x y d dy hd hy' hxy k hk
   omega
  ·have:=hc x hyx k hk
   have:=h.one x y dx d hx' hd hxy k hk
   omega
  ·rw [ho k x y (by omega) (by omega),ho k y x (by omega) (by omega)]
   exact h.one x y dx dy hx' hy' hxy k hk
theorem sideO_some {d:Diner} {b:Int} {x:Side} (h:Z47 d b=some x):x∈d.Sides∧x.Peer=b:=by
 unfold Z47 at h
 exact ⟨List.mem_of_find?_eq_some h,by simpa using List.find?_some h⟩
set_option maxRecDepth 100000
set_option maxHeartbeats 4000000
set_option maxRecDepth 100000
set_option maxHeartbeats 4000000
set_option maxRecDepth 100000
set_option maxHeartbeats 4000000
set_option maxRecDepth 100000
set_option maxHeartbeats 4000000
set_option maxRecDepth 100000
set_option maxHeartbeats 4000000
set_option maxRecDepth 100000
set_option maxHeartbeats 4000000
set_option maxRecDepth 100000
set_option maxHeartbeats 4000000
set_option maxRecDepth 100000
set_option maxHeartbeats 4000000
set_option maxRecDepth 100000
set_option maxHeartbeats 4000000
set_option maxRecDepth 100000
set_option maxHeartbeats 4000000
set_option maxRecDepth 100000
set_option maxHeartbeats 4000000
set_option maxRecDepth 100000
set_option maxHeartbeats 4000000
def okMail (n:Nat) (m:Mail):Bool:=!(decide (min m.From m.To<0)||(decide ((n:Int)≤max m.From m.To)||decide (m.From=m.To)))
def okS (s:Scene):Bool:=(Zi7 s.Diners).2&&(s.Diners.all okD&&s.Mail.all (okMail s.Diners.length))
set_option maxRecDepth 100000
set_option maxHeartbeats 4000000
@[go_sem] def e87_L0:EC:=.seq (.reg [(Qa 9 (.bin .lss (.t 8) (.t 7)))]) (.seq (.ite (.t 9) (.skip) (.exit 0)) (.seq (.blk 1 (.seq (.reg [(Qm 10 8),(Qm 5 10)]) (.seq (.reg [(Qm 11 1),(Qm 12 0),(Qm 13 5),(Qk 14 1 12 13),(Ql 15 14),(Qa 16 (.bin .eql (.t 11) (.t 15)))]) (.ite (.t 16) (.seq (.reg [(Qm 17 5),(Qm 4 17)]) (.ret)) (.skip))))) (.reg [(Qv 18 8 1),(Qm 8 18)])))
@[go_sem] def e87:EC:=.seq (.reg [(Qi 4 0)]) (.seq (.seq (.reg [(Qm 6 0),(Qa 7 (.len (.t 6))),(Qi 8 0)]) (.blk 0 (.loop e87_L0))) (.seq (.reg [(Qa 4 (.mv (.c (.iv (-1)))))]) (.ret)))
theorem ok87:FnOK Try.prog 87 Try.f87 e87 [.t 4] 2 17:=⟨by kernel_rfl,⟨_,rfl,by kernel_rfl⟩,by kernel_rfl,by kernel_rfl⟩
noncomputable def Z19:Unit→Option Int
| ()=>
 some (-1)
noncomputable def Z29 (x1:(List Int)) (x2:Int):Int→Option (Int ⊕ Int)
| x5=>
 ifb (decide (x5<(ln Zo4 x1))) (
 (at_ x1 x5).bind fun x6=>
 ifb (decide (x2=x6)) (
 Option.map Sum.inr (some x5)) (
 some (.inl (wr (x5+1))))) (
 Option.map Sum.inr (Z19 ()))
noncomputable def Z39 (x1:(List Int)) (x2:Int):Option Int:=
 loop (Z29 x1 x2) 0
theorem Z49 (x1:(List Int)) (x2:Int) (r:Int) (h:Z39 x1 x2=some r):Zu2 Try.prog 87 [.sl 1 (List.map Zo4 x1),.iv x2] (.iv r):=by
 refine Zx2 ok87 rfl rfl fun w0 H0=>?_
 rw [Z39] at h
 refine Zo2 11 ?_;dsimp only [go_sem];refine An ?_;refine Z94 (fun (_:Unit)=>(⟨(an 19 []),[],[]⟩:St)) Z19 r ?_ fun J1=>?_
 ·rintro ⟨⟩ h;rw [Z19] at h;(try dsimp only);refine Zo2 4 ?_;dsimp only [go_sem];refine An ?_;exact Zi4 (res:=fun (r:Int)=>.iv r) ok87 h
 ·refine Zo2 1 ?_;dsimp only [go_sem];refine An ?_;refine Za4 h (fun (x5:Int)=>(⟨(.sl 1 (List.map Zo4 x1) :: .iv x2::an 5 (.iv (ln Zo4 x1) :: .iv x5::an 10 [])),[],[]⟩:St)) (by simp [go_sem]) (by intro x5;first | rfl | simp [go_sem]) ?_;rintro n1 x5 y1 h hin1 hout1;rw [Z29] at h;(try dsimp only);refine Zo2 5 ?_;dsimp only [go_sem];refine An ?_;refine Zb4 h rfl (fun _ h=>?_) fun _ h=>?_
  ·refine Zo2 13 ?_;dsimp only [go_sem];refine An ?_;obtain ⟨x6,ex6,h⟩:=Bs h;refine Ze4 Zo4 ex6 trivial rfl rfl rfl ?_;refine Zo2 3 ?_;dsimp only [go_sem];refine An ?_;refine Zb4 h rfl (fun _ h=>?_) fun _ h=>?_
   ·refine Zo2 5 ?_;dsimp only [go_sem];refine An ?_;exact Zi4 (res:=fun (r:Int)=>.iv r) ok87 (Z84 h hout1)
   ·refine Zo2 6 ?_;dsimp only [go_sem];refine An ?_;exact Zj4 h hin1
  ·refine Zo2 1 ?_;dsimp only [go_sem];refine An ?_;exact Zk4 J1 (s:=()) (Z84 h hout1)
set_option maxRecDepth 100000
set_option maxHeartbeats 4000000
@[go_sem] def e64:EC:=.seq (.reg [(Qa 4 (.mv (.c .ff)))]) (.seq (.reg [(Qm 5 0),(Qm 6 1),(Qa 7 (.call 87 [(.t 5),(.t 6)])),(Qa 8 (.bin .geq (.t 7) (.c (.iv 0)))),(Qm 4 8)]) (.ret))
theorem ok64:FnOK Try.prog 64 Try.f64 e64 [.t 4] 2 7:=⟨by kernel_rfl,⟨_,rfl,by kernel_rfl⟩,by kernel_rfl,by kernel_rfl⟩
noncomputable def Z59 (x1:(List Int)) (x2:Int):Option Bool:=
 (Z39 x1 x2).bind fun x3=>
 some (decide (0≤x3))
theorem Z69 (x1:(List Int)) (x2:Int) (r:Bool) (h:Z59 x1 x2=some r):Zu2 Try.prog 64 [.sl 1 (List.map Zo4 x1),.iv x2] (.bv r):=by
 refine Zx2 ok64 rfl rfl fun w0 H0=>?_
 rw [Z59] at h
 refine Zo2 8 ?_;dsimp only [go_sem];refine An ?_;obtain ⟨x3,ex3,h⟩:=Bs h;refine Z23 trivial (Z49 x1 x2 _ ex3) (h:=?_);refine Zo2 3 ?_;dsimp only [go_sem];refine An ?_;exact Zi4 (res:=fun (r:Bool)=>.bv r) ok64 h
set_option maxRecDepth 100000
set_option maxHeartbeats 4000000
@[go_sem] def e88:EC:=.seq (.reg [(Qa 2 (.mv (.c .ff)))]) (.seq (.reg [(Qm 3 0),(Qa 4 (.bin .lss (.t 3) (.c (.iv 0)))),(Qm 2 4)]) (.ret))
theorem ok88:FnOK Try.prog 88 Try.f88 e88 [.t 2] 1 4:=⟨by kernel_rfl,⟨_,rfl,by kernel_rfl⟩,by kernel_rfl,by kernel_rfl⟩
noncomputable def Z79 (x1:Int):Option Bool:=
 some (decide (x1<0))
theorem Z89 (x1:Int) (r:Bool) (h:Z79 x1=some r):Zu2 Try.prog 88 [.iv x1] (.bv r):=by
 refine Zx2 ok88 rfl rfl fun w0 H0=>?_
 rw [Z79] at h
 refine Zo2 10 ?_;dsimp only [go_sem];refine An ?_;exact Zi4 (res:=fun (r:Bool)=>.bv r) ok88 h
set_option maxRecDepth 100000
set_option maxHeartbeats 4000000
@[go_sem] def e90:EC:=.seq (.reg [(Qa 4 (.mv (.c .ff)))]) (.seq (.reg [(Ql 5 1),(Qm 6 0),(Qk 7 1 5 6),(Ql 8 7),(Qa 9 (.bin .eql (.t 8) (.c (.iv 0)))),(Qm 10 9),(Qg 11 10 true (.mv (.t 0))),(Qn 12 10 true 2),(Qg 13 10 true (.bin .gtr (.t 11) (.t 12))),(Qp 14 10 13),(Qm 4 14)]) (.ret))
theorem ok90:FnOK Try.prog 90 Try.f90 e90 [.t 4] 3 12:=⟨by kernel_rfl,⟨_,rfl,by kernel_rfl⟩,by kernel_rfl,by kernel_rfl⟩
noncomputable def Z99:Bool→Option Bool
| x5=>
 some x5
noncomputable def Za9 (x1:Int) (x2:(List Int)) (x3:Int):Option Bool:=
 (at_ x2 x1).bind fun x4=>
 ifb (decide (x4=0)) (
 Z99 (decide (x3<x1))) (
 Z99 false)
theorem Zb9 (x1:Int) (x2:(List Int)) (x3:Int) (r:Bool) (h:Za9 x1 x2 x3=some r):Zu2 Try.prog 90 [.iv x1,.elt ((slRow 1 Zo4) x2) 0,.elt (Zo4 x3) 0] (.bv r):=by
 refine Zx2 ok90 rfl rfl fun w0 H0=>?_
 rw [Za9] at h
 refine Zo2 8 ?_;dsimp only [go_sem];refine An ?_;obtain ⟨x4,ex4,h⟩:=Bs h;refine Ze4 Zo4 ex4 trivial rfl rfl rfl ?_;refine Zo2 3 ?_;dsimp only [go_sem];refine An ?_;refine Z94 (fun (x5:Bool)=>(⟨(an 4 (.bv x5::an 10 [])),[],[]⟩:St)) Z99 r ?_ fun J1=>?_
 ·intro x5 h;rw [Z99] at h;(try dsimp only);exact Zi4 (res:=fun (r:Bool)=>.bv r) ok90 h
 ·refine Zh4 10 h rfl (fun _ h=>?_) fun _ h=>?_
  ·dsimp only [go_sem];refine Zo2 6 ?_;dsimp only [go_sem];refine An ?_;exact Zk4 J1 (s:=decide (x3<x1)) h
  ·dsimp only [go_sem];refine Zo2 6 ?_;dsimp only [go_sem];refine An ?_;exact Zk4 J1 (s:=false) h
set_option maxRecDepth 100000
set_option maxHeartbeats 4000000
@[go_sem] def e91:EC:=.seq (.reg [(Qa 5 (.mv (.c .ff)))]) (.seq (.drw [(Ql 6 1),(Qm 7 0),(Qk 8 1 6 7),(Ql 9 8),(Ql 10 2),(Ql 11 3),(Qk 12 1 10 11),(Ql 13 12),(Qa 14 (.bin .eql (.t 9) (.t 13))),(Qm 5 14)] [[],[],[0,1],[2],[],[],[4,5],[6],[3,7],[8,0,1,2,3,4,5,6,7,8]] [[2],[2],[0,1,3],[2,8],[6],[6],[4,5,7],[6,8],[3,7,9],[8]]) (.ret))
theorem ok91:FnOK Try.prog 91 Try.f91 e91 [.t 5] 4 11:=⟨by kernel_rfl,⟨_,rfl,by kernel_rfl⟩,by kernel_rfl,by kernel_rfl⟩
noncomputable def Zc9 (x1:Int) (x2:(List Int)) (x3:(List Int)) (x4:Int):Option Bool:=
 (at_ x2 x1).bind fun x5=>
 (at_ x3 x4).bind fun x6=>
 some (decide (x5=x6))
theorem Zd9 (x1:Int) (x2:(List Int)) (x3:(List Int)) (x4:Int) (r:Bool) (h:Zc9 x1 x2 x3 x4=some r):Zu2 Try.prog 91 [.iv x1,.elt ((slRow 1 Zo4) x2) 0,.elt ((slRow 1 Zo4) x3) 0,.elt (Zo4 x4) 0] (.bv r):=by
 refine Zx2 ok91 rfl rfl fun w0 H0=>?_
 rw [Zc9] at h
 refine Zo2 5 ?_;dsimp only [go_sem];refine An ?_;refine Zi3 (by kernel_rfl) fun all hall hs hnap haf=>?_;dsimp only [go_sem];refine Zv4 hall hs haf hnap 4 6 ?_;dsimp only [go_sem];refine An ?_;obtain ⟨x5,ex5,h⟩:=Bs h;refine Zf4 hall hs haf hnap 2 Zo4 ex5 rfl rfl trivial rfl rfl rfl rfl ?_;refine Zv4 hall hs haf hnap 1 4 ?_;dsimp only [go_sem];refine An ?_;obtain ⟨x6,ex6,h⟩:=Bs h;refine Zf4 hall hs haf hnap 6 Zo4 ex6 rfl rfl trivial rfl rfl rfl rfl ?_;refine Zv4 hall hs haf hnap 3 0 ?_;dsimp only [go_sem];refine An ?_;refine Zs3 rfl ?_ _
 exact Zi4 (res:=fun (r:Bool)=>.bv r) ok91 h
set_option maxRecDepth 100000
set_option maxHeartbeats 4000000
@[go_sem] def e65_L1:EC:=.seq (.seq (.reg [(Qm 47 9),(Qa 48 (.mkf 91 [(.t 3),(.t 7),(.t 8)])),(Qa 49 (.call 82 [(.t 47),(.t 48)]))]) (.ite (.t 49) (.skip) (.exit 2))) (.blk 3 (.reg [(Ql 50 7),(Ql 51 8),(Qk 52 1 50 51),(Ql 53 52),(Qv 54 53 1),(Qk 55 1 50 51),(Qs 1 55 54)]))
@[go_sem] def e65_L0:EC:=.seq (.reg [(Qa 29 (.bin .lss (.t 28) (.t 27)))]) (.seq (.ite (.t 29) (.skip) (.exit 0)) (.seq (.blk 1 (.seq (.reg [(Qm 30 28),(Qa 8 (.alloc 3 [.iv 0])),(Qs 1 8 30)]) (.seq (.reg [(Qe 31 2 2),(Ql 32 8),(Qa 33 (.call 51 [(.t 31),(.t 32)])),(Qm 9 33)]) (.seq (.seq (.reg [(Ql 34 3),(Ql 35 8),(Qk 36 1 34 35),(Ql 37 36),(Qa 38 (.bin .neq (.t 37) (.c (.iv 0)))),(Qm 39 38),(Qg 40 39 false (.mv (.t 9))),(Qg 41 39 false (.mkf 90 [(.t 3),(.t 8)])),(Qg 42 39 false (.call 82 [(.t 40),(.t 41)])),(Qq 43 39 42)]) (.ite (.t 43) (.exit 1) (.skip))) (.seq (.reg [(Ql 44 7),(Ql 45 8),(Qk 46 1 44 45),(Qb (.store 1 (.t 46) (.c (.iv 1))))]) (.blk 2 (.loop e65_L1))))))) (.reg [(Qv 56 28 1),(Qm 28 56)])))
@[go_sem] def e65:EC:=.seq (.reg [(Qx 2 24 2 0),(Qx 3 25 1 1),(Qa 4 (.mv (.c .nl))),(Qi 5 0)]) (.seq (.seq (.reg [(Qe 10 2 2),(Qa 11 (.call 49 [(.t 10)])),(Qm 6 11)]) (.seq (.reg [(Qm 12 6),(Qa 13 (.bin .neq (.t 12) (.c (.iv 0))))]) (.ite (.t 13) (.seq (.reg [(Qm 14 6),(Qa 4 (.mv (.c .nl))),(Qm 5 14)]) (.ret)) (.skip)))) (.seq (.seq (.reg [(Ql 15 3),(Qa 16 (.len (.t 15))),(Qf 17 0 2),(Ql 18 17),(Qa 19 (.bin .neq (.t 16) (.t 18))),(Qm 20 19),(Qn 21 20 false 3),(Qg 22 20 false (.call 82 [(.t 21),(.c (.clo 88 []))])),(Qq 23 20 22)]) (.ite (.t 23) (.seq (.reg [(Qa 4 (.mv (.c .nl))),(Qi 5 110)]) (.ret)) (.skip))) (.seq (.reg [(Ql 24 3),(Qa 25 (.call 89 [(.t 24)])),(Qa 7 (.alloc 25 [.nl])),(Qs 1 7 25)]) (.seq (.seq (.reg [(Qf 26 0 2),(Ql 27 26),(Qi 28 0)]) (.blk 0 (.loop e65_L0))) (.seq (.reg [(Ql 57 7),(Qm 4 57),(Qi 5 0)]) (.ret))))))
theorem ok65:FnOK Try.prog 65 Try.f65 e65 [.t 4,.t 5] 2 56:=⟨by kernel_rfl,⟨_,rfl,by kernel_rfl⟩,by kernel_rfl,by kernel_rfl⟩
noncomputable def Ze9:(List Int)→Option ((List Int)×Int)
| x54=>
 some (x54,0)
noncomputable def Zf9 (x26:Int):(List Int)→Option ((Int×(List Int)) ⊕ ((List Int)×Int))
| x46=>
 some (.inl (wr (x26+1),x46))
noncomputable def Zg9 (x2:(List Int)) (x26:Int) (x28:(List Int)):(List Int)→Option ((List Int) ⊕ ((Int×(List Int)) ⊕ ((List Int)×Int)))
| x35=>
 (Zh6 x28 ((fun z=>Zc9 z x2 x35 x26))).bind fun x36=>
 ifb x36 (
 (at_ x35 x26).bind fun x37=>
 some (.inl (x35.set (x26).toNat (wr (x37+1))))) (
 Option.map Sum.inr ((Zf9 x26) x35))
noncomputable def Zh9 (x2:(List Int)) (x26:Int) (x27:(List Int)) (x28:(List Int)):Bool→Option ((Int×(List Int)) ⊕ ((List Int)×Int))
| x31=>
 ifb x31 (
 (Zf9 x26) x27) (
 (at_ x27 x26).bind fun _=>
 loop (Zg9 x2 x26 x28) (x27.set (x26).toNat 1))
noncomputable def Zi9 (x1:Graph) (x2:(List Int)):(Int×(List Int))→Option ((Int×(List Int)) ⊕ ((List Int)×Int))
| (x26,x27)=>
 ifb (decide (x26<x1.N)) (
 (Zb8 x1 x26).bind fun x28=>
 (at_ x2 x26).bind fun x29=>
 ifb (!decide (x29=0)) (
 (Zh9 x2 x26 x27 x28) true) (
 (Zh6 x28 ((fun z=>Za9 z x2 x26))).bind fun x30=>
 (Zh9 x2 x26 x27 x28) x30)) (
 Option.map Sum.inr (Ze9 x27))
noncomputable def Zj9 (x1:Graph) (x2:(List Int)):Bool→Option ((List Int)×Int)
| x5=>
 ifb x5 (
 some (([]:(List Int)),110)) (
 (Z48 x2).bind fun x6=>
 loop (Zi9 x1 x2) (0,x6))
noncomputable def Zk9 (x1:Graph) (x2:(List Int)):Option ((List Int)×Int):=
 (Zb6 x1).bind fun x3=>
 ifb (!decide (x3=0)) (
 some (([]:(List Int)),x3)) (
 ifb (!decide ((ln Zo4 x2)=x1.N)) (
 (Zj9 x1 x2) true) (
 (Zh6 x2 ((fun z=>Z79 z))).bind fun x4=>
 (Zj9 x1 x2) x4))
theorem Zl9 (x1:Graph) (x2:(List Int)) (r:((List Int)×Int)) (h:Zk9 x1 x2=some r):Zu2 Try.prog 65 [.agg (Graph.row x1),.sl 1 (List.map Zo4 x2)] (.tup [.sl 1 (List.map Zo4 r.1),.iv r.2]):=by
 refine Zx2 ok65 rfl rfl fun w0 H0=>?_
 rw [Zk9] at h
 refine Zo2 11 ?_;dsimp only [go_sem];refine An ?_;obtain ⟨x3,ex3,h⟩:=Bs h;refine Z23 trivial (Zc6 x1 _ ex3) (h:=?_);refine Zo2 7 ?_;dsimp only [go_sem];refine An ?_;refine Zb4 h rfl (fun _ h=>?_) fun _ h=>?_
 ·refine Zo2 6 ?_;dsimp only [go_sem];refine An ?_;exact Zi4 (res:=fun (r:((List Int)×Int))=>.tup [.sl 1 (List.map Zo4 r.1),.iv r.2]) ok65 h
 ·refine Zo2 10 ?_;dsimp only [go_sem];refine An ?_;refine Z94 (fun (x5:Bool)=>(⟨(.any :: .any :: .ptr 0 0 :: .ptr 1 0::an 19 (.bv x5::an 34 [])),[some ⟨24,[.iv x1.N,.sl 2 (List.map Edge.row x1.Edges)]⟩,some ⟨25,[.sl 1 (List.map Zo4 x2)]⟩],[]⟩:St)) (Zj9 x1 x2) r ?_ fun J1=>?_
  ·intro x5 h;rw [Zj9] at h;(try dsimp only);refine Zb4 h rfl (fun _ h=>?_) fun _ h=>?_
   ·refine Zo2 5 ?_;dsimp only [go_sem];refine An ?_;exact Zi4 (res:=fun (r:((List Int)×Int))=>.tup [.sl 1 (List.map Zo4 r.1),.iv r.2]) ok65 h
   ·refine Zo2 4 ?_;dsimp only [go_sem];refine An ?_;obtain ⟨x6,ex6,h⟩:=Bs h;refine V_callO trivial (Z58 x2 _ ex6) (h:=?_);refine Zo2 10 ?_;dsimp only [go_sem];refine An ?_;refine Z94 (fun (x54:(List Int))=>(⟨(an 7 (.ptr 2 0::an 50 [])),[none,none,some ⟨25,[.osl 0]⟩],[some ⟨3,1,List.map Zo4 x54⟩]⟩:St)) Ze9 r ?_ fun J2=>?_
    ·intro x54 h;rw [Ze9] at h;(try dsimp only);refine Zo2 6 ?_;dsimp only [go_sem];refine An ?_;refine Za3 0 rfl ?_;dsimp only [go_sem];exact Zi4 (res:=fun (r:((List Int)×Int))=>.tup [.sl 1 (List.map Zo4 r.1),.iv r.2]) ok65 h
    ·refine Zo2 1 ?_;dsimp only [go_sem];refine An ?_;refine Za4 h (fun ((x26,x27):(Int×(List Int)))=>(⟨(.any :: .any :: .ptr 0 0 :: .ptr 1 0::an 3 (.ptr 2 0::an 19 (.iv x1.N :: .iv x26::an 29 []))),[some ⟨24,[.iv x1.N,.sl 2 (List.map Edge.row x1.Edges)]⟩,some ⟨25,[.sl 1 (List.map Zo4 x2)]⟩,some ⟨25,[.osl 0]⟩],[some ⟨3,1,List.map Zo4 x27⟩]⟩:St)) (by simp [go_sem]) (by rintro ⟨x26,x27⟩;first | rfl | simp [go_sem]) ?_;rintro n1 ⟨x26,x27⟩ y1 h hin1 hout1;rw [Zi9] at h;(try dsimp only);refine Zo2 5 ?_;dsimp only [go_sem];refine An ?_
     refine Zb4 h rfl (fun _ h=>?_) fun _ h=>?_
     ·refine Zo2 2 ?_;dsimp only [go_sem];refine An ?_;refine Z94 (fun (x46:(List Int))=>(⟨(.any :: .any :: .ptr 0 0 :: .ptr 1 0::an 3 (.ptr 2 0::an 19 (.iv x1.N :: .iv x26::an 29 []))),[some ⟨24,[.iv x1.N,.sl 2 (List.map Edge.row x1.Edges)]⟩,some ⟨25,[.sl 1 (List.map Zo4 x2)]⟩,some ⟨25,[.osl 0]⟩],[some ⟨3,1,List.map Zo4 x46⟩]⟩:St)) (Zf9 x26) y1 ?_ fun J3=>?_
      ·intro x46 h;rw [Zf9] at h;(try dsimp only);refine Zo2 4 ?_;dsimp only [go_sem];refine An ?_;exact Zj4 h hin1
      ·refine Zo2 11 ?_;dsimp only [go_sem];refine An ?_;obtain ⟨x28,ex28,h⟩:=Bs h;refine Z23 trivial (Zc8 x1 x26 _ ex28) (h:=?_);refine Zo2 7 ?_;dsimp only [go_sem];refine An ?_;obtain ⟨x29,ex29,h⟩:=Bs h;refine Ze4 Zo4 ex29 trivial rfl rfl rfl ?_;refine Zo2 3 ?_;dsimp only [go_sem];refine An ?_
       refine Z94 (fun (x31:Bool)=>(⟨(.any :: .any :: .ptr 0 0 :: .ptr 1 0::an 3 (.ptr 2 0 :: .ptr 3 0 :: .sl 1 (List.map Zo4 x28)::an 17 (.iv x1.N :: .iv x26::an 14 (.bv x31::an 14 [])))),[some ⟨24,[.iv x1.N,.sl 2 (List.map Edge.row x1.Edges)]⟩,some ⟨25,[.sl 1 (List.map Zo4 x2)]⟩,some ⟨25,[.osl 0]⟩,some ⟨3,[.iv x26]⟩],[some ⟨3,1,List.map Zo4 x27⟩]⟩:St)) (Zh9 x2 x26 x27 x28) y1 ?_ fun J4=>?_
       ·intro x31 h;rw [Zh9] at h;(try dsimp only);refine Zb4 h rfl (fun _ h=>?_) fun _ h=>?_
        ·refine Zo2 1 ?_;dsimp only [go_sem];refine An ?_;exact Zk4 J3 (s:=x27) h
        ·refine Zo2 5 ?_;dsimp only [go_sem];refine An ?_;obtain ⟨x32,ex32,h⟩:=Bs h;refine Zx4 Zo4 ex32 trivial rfl rfl rfl ?_;refine V_storeO [.iv 1] Zo4 (y':=1) ex32 trivial rfl rfl rfl (by first | exact Z34 _ | simp [go_sem]) rfl rfl rfl rfl ?_;refine Zo2 2 ?_;dsimp only [go_sem];refine An ?_
         refine Za4 h (fun (x35:(List Int))=>(⟨(.any :: .any :: .ptr 0 0 :: .ptr 1 0::an 3 (.ptr 2 0 :: .ptr 3 0 :: .sl 1 (List.map Zo4 x28)::an 17 (.iv x1.N :: .iv x26::an 29 []))),[some ⟨24,[.iv x1.N,.sl 2 (List.map Edge.row x1.Edges)]⟩,some ⟨25,[.sl 1 (List.map Zo4 x2)]⟩,some ⟨25,[.osl 0]⟩,some ⟨3,[.iv x26]⟩],[some ⟨3,1,List.map Zo4 x35⟩]⟩:St)) (by simp [go_sem]) (by intro x35;first | rfl | simp [go_sem]) ?_;rintro n2 x35 y2 h hin2 hout2;rw [Zg9] at h;(try dsimp only);refine Zo2 5 ?_;dsimp only [go_sem];refine An ?_
         obtain ⟨x36,ex36,h⟩:=Bs h;refine Zm4 trivial (((((Zl4.refl _).slice 0 rfl).block 1 rfl rfl).block 2 rfl rfl).block 3 rfl rfl) (Zi6 x28 _ _ ((fun z=>Zc9 z x2 x35 x26)) ⟨by kernel_rfl,rfl,fun z r hz=>Zd9 z x2 x35 x26 r hz⟩ _ ex36) (h:=?_);refine Zo2 1 ?_;dsimp only [go_sem];refine An ?_;refine Zb4 h rfl (fun _ h=>?_) fun _ h=>?_
         ·refine Zo2 5 ?_;dsimp only [go_sem];refine An ?_;obtain ⟨x37,ex37,h⟩:=Bs h;refine Zx4 Zo4 ex37 trivial rfl rfl rfl ?_;refine V_loadO Zo4 ex37 trivial rfl rfl rfl ?_;refine Zo2 1 ?_;dsimp only [go_sem];refine An ?_;refine Zx4 Zo4 ex37 trivial rfl rfl rfl ?_;refine V_storeO [.iv (wr (x37+1))] Zo4 (y':=wr (x37+1)) ex37 trivial rfl rfl rfl (by first | exact Z34 _ | simp [go_sem]) rfl rfl rfl rfl ?_;refine Zo2 2 ?_;dsimp only [go_sem];refine An ?_;exact Zj4 h hin2
         ·refine Zo2 2 ?_;dsimp only [go_sem];refine An ?_;exact Zk4 J3 (s:=x35) (Z84 h hout2)
       ·refine Zh4 39 h rfl (fun _ h=>?_) fun _ h=>?_
        ·dsimp only [go_sem];refine Zo2 5 ?_;dsimp only [go_sem];refine An ?_;exact Zk4 J4 (s:=true) h
        ·dsimp only [go_sem];refine Zo2 2 ?_;dsimp only [go_sem];refine An ?_;obtain ⟨x30,ex30,h⟩:=Bs h;refine Zm4 trivial (((Zl4.refl _).block 1 rfl rfl).block 3 rfl rfl) (Zi6 x28 _ _ ((fun z=>Za9 z x2 x26)) ⟨by kernel_rfl,rfl,fun z r hz=>Zb9 z x2 x26 r hz⟩ _ ex30) (h:=?_);refine Zo2 2 ?_;dsimp only [go_sem];refine An ?_;exact Zk4 J4 (s:=x30) h
     ·refine Zo2 1 ?_;dsimp only [go_sem];refine An ?_;exact Zk4 J2 (s:=x27) (Z84 h hout1)
  ·refine Zh4 20 h rfl (fun _ h=>?_) fun _ h=>?_
   ·dsimp only [go_sem];refine Zo2 4 ?_;dsimp only [go_sem];refine An ?_;exact Zk4 J1 (s:=true) h
   ·dsimp only [go_sem];refine Zo2 1 ?_;dsimp only [go_sem];refine An ?_;obtain ⟨x4,ex4,h⟩:=Bs h;refine Z23 trivial (Zi6 x2 _ _ ((fun z=>Z79 z)) ⟨by kernel_rfl,rfl,fun z r hz=>Z89 z r hz⟩ _ ex4) (h:=?_);refine Zo2 2 ?_;dsimp only [go_sem];refine An ?_;exact Zk4 J1 (s:=x4) h
set_option maxRecDepth 100000
set_option maxHeartbeats 4000000
@[go_sem] def e31_L0:EC:=.seq (.seq (.reg [(Qm 16 6),(Qa 17 (.call 64 [(.t 16),(.c (.iv 0))]))]) (.ite (.t 17) (.skip) (.exit 0))) (.blk 1 (.seq (.reg [(Qe 19 2 1),(Qm 20 6),(Qa 21 (.call 65 [(.t 19),(.t 20)])),(Qm 18 21),(Qa 22 (.ext (.t 18) 0)),(Qa 23 (.ext (.t 18) 1)),(Qm 6 22)]) (.reg [(Qm 24 7),(Qv 25 24 1),(Qm 7 25)])))
@[go_sem] def e31:EC:=.seq (.reg [(Qx 1 24 2 0),(Qa 2 (.mv (.c .nl))),(Qi 3 0),(Qi 4 0)]) (.seq (.seq (.reg [(Qe 8 2 1),(Qa 9 (.call 49 [(.t 8)])),(Qm 5 9)]) (.seq (.reg [(Qm 10 5),(Qa 11 (.bin .neq (.t 10) (.c (.iv 0))))]) (.ite (.t 11) (.seq (.reg [(Qm 12 5),(Qa 2 (.mv (.c .nl))),(Qi 3 0),(Qm 4 12)]) (.ret)) (.skip)))) (.seq (.reg [(Qf 13 0 1),(Ql 14 13),(Qa 15 (.mks 3 1 8 [.iv 0] (.t 14) (.t 14))),(Qm 6 15),(Qi 7 0)]) (.seq (.blk 0 (.loop e31_L0)) (.seq (.reg [(Qm 26 6),(Qm 27 7),(Qm 2 26),(Qm 3 27),(Qi 4 0)]) (.ret)))))
theorem ok31:FnOK Try.prog 31 Try.f31 e31 [.t 2,.t 3,.t 4] 1 27:=⟨by kernel_rfl,⟨_,rfl,by kernel_rfl⟩,by kernel_rfl,by kernel_rfl⟩
noncomputable def Zm9:((List Int)×Int)→Option ((List Int)×Int×Int)
| (x17,x18)=>
 some (x17,x18,0)
noncomputable def Zn9 (x1:Graph):((List Int)×Int)→Option (((List Int)×Int) ⊕ ((List Int)×Int×Int))
| (x8,x9)=>
 (Z59 x8 0).bind fun x10=>
 ifb x10 (
 (Zk9 x1 x8).bind fun x11=>
 some (.inl (x11.1,wr (x9+1)))) (
 Option.map Sum.inr (Zm9 (x8,x9)))
noncomputable def Zo9 (x1:Graph):Option ((List Int)×Int×Int):=
 (Zb6 x1).bind fun x2=>
 ifb (!decide (x2=0)) (
 some (([]:(List Int)),0,x2)) (
 (mk_ 8 x1.N 0).bind fun x3=>
 loop (Zn9 x1) (x3,0))
theorem k_colour_Run (x1:Graph) (r:((List Int)×Int×Int)) (h:Zo9 x1=some r):Zu2 Try.prog 31 [.agg (Graph.row x1)] (.tup [.sl 1 (List.map Zo4 r.1),.iv r.2.1,.iv r.2.2]):=by
 refine Zx2 ok31 rfl rfl fun w0 H0=>?_
 rw [Zo9] at h
 refine Zo2 11 ?_;dsimp only [go_sem];refine An ?_;obtain ⟨x2,ex2,h⟩:=Bs h;refine Z23 trivial (Zc6 x1 _ ex2) (h:=?_);refine Zo2 7 ?_;dsimp only [go_sem];refine An ?_;refine Zb4 h rfl (fun _ h=>?_) fun _ h=>?_
 ·refine Zo2 7 ?_;dsimp only [go_sem];refine An ?_;exact Zi4 (res:=fun (r:((List Int)×Int×Int))=>.tup [.sl 1 (List.map Zo4 r.1),.iv r.2.1,.iv r.2.2]) ok31 h
 ·refine Zo2 5 ?_;dsimp only [go_sem];refine An ?_;obtain ⟨x3,ex3,h⟩:=Bs h;refine V_mksM Zo4 ex3 trivial rfl rfl rfl rfl ?_;refine Zo2 4 ?_;dsimp only [go_sem];refine An ?_;refine Z94 (fun ((x17,x18):((List Int)×Int))=>(⟨(an 6 (.sl 1 (List.map Zo4 x17) :: .iv x18::an 20 [])),[],[]⟩:St)) Zm9 r ?_ fun J1=>?_
  ·rintro ⟨x17,x18⟩ h;rw [Zm9] at h;(try dsimp only);refine Zo2 8 ?_;dsimp only [go_sem];refine An ?_;exact Zi4 (res:=fun (r:((List Int)×Int×Int))=>.tup [.sl 1 (List.map Zo4 r.1),.iv r.2.1,.iv r.2.2]) ok31 h
  ·refine Zo2 1 ?_;dsimp only [go_sem];refine An ?_;refine Za3 0 rfl ?_;dsimp only [go_sem];refine Za4 h (fun ((x8,x9):((List Int)×Int))=>(⟨(.any :: .ptr 0 0::an 4 (.sl 1 (List.map Zo4 x8) :: .iv x9::an 20 [])),[some ⟨24,[.iv x1.N,.sl 2 (List.map Edge.row x1.Edges)]⟩],[]⟩:St)) (by simp [go_sem]) (by rintro ⟨x8,x9⟩;first | rfl | simp [go_sem]) ?_;rintro n1 ⟨x8,x9⟩ y1 h hin1 hout1;rw [Zn9] at h;(try dsimp only);refine Zo2 4 ?_;dsimp only [go_sem];refine An ?_;obtain ⟨x10,ex10,h⟩:=Bs h
   refine Z23 trivial (Z69 x8 0 _ ex10) (h:=?_);refine Zo2 1 ?_;dsimp only [go_sem];refine An ?_;refine Zb4 h rfl (fun _ h=>?_) fun _ h=>?_
   ·refine Zo2 6 ?_;dsimp only [go_sem];refine An ?_;obtain ⟨x11,ex11,h⟩:=Bs h;refine Z23 trivial (Zl9 x1 x8 _ ex11) (h:=?_);refine Zo2 11 ?_;dsimp only [go_sem];refine An ?_;exact Zj4 h hin1
   ·refine Zo2 1 ?_;dsimp only [go_sem];refine An ?_;exact Zk4 J1 (s:=(x8,x9)) (Z84 h hout1)
def lsf (p:Nat→Bool):Nat→Nat→Nat
 | 0,k=>k
 | f+1,k=>if p k then k else lsf p f (k+1)
theorem lsf_spec (p:Nat→Bool):∀(f k:Nat),p (k+f)=true→p (lsf p f k)=true∧k≤lsf p f k∧lsf p f k≤k+f
 | 0,k,h=>⟨h,Nat.le_refl _,Nat.le_refl _⟩
 | f+1,k,h=>by
   simp only [lsf]
   split
   ·rename_i h1;exact ⟨h1,Nat.le_refl _,by omega⟩
   ·obtain ⟨h1,h2,h3⟩:=lsf_spec p f (k+1) (by rw [show k+1+f=k+(f+1) by omega];exact h)
    exact ⟨h1,by omega,by omega⟩
def Zp9 (c:List Int) (near:List Int) (k:Nat):Bool:=near.any fun b=>decide (cg c b=(k:Int))
def Zq9 (c near:List Int):Nat:=lsf (fun k=>!Zp9 c near k) 200 1
def Zr9 (c near:List Int) (a:Int):Bool:=decide (cg c a=0)&&!near.any fun b=>decide (cg c b=0)&&decide (a<b)
def newC (g:Graph) (c:List Int) (a:Nat):Int:=if Zr9 c (Zl8 g a) a then (Zq9 c (Zl8 g a):Int) else cg c a
def Zs9 (g:Graph) (c:List Int):List Int:=(List.range g.N.toNat).map (newC g c)
structure ColI (g:Graph) (c:List Int):Prop where
 len:(c.length:Int)=g.N
 lo:∀x∈c,0≤x
 hi:∀x∈c,x≤100
theorem Zt9 {c:List Int} {a:Int} (h0:0≤a) (h:a<c.length):cg c a∈c:=by
 obtain ⟨x,h1,h2⟩:=at_lt h0 h
 unfold cg
 rw [h2]
 exact List.mem_iff_getElem?.2 ⟨_,h2⟩
theorem Zu9 {g:Graph} (hg:okG g=true) {c:List Int} (hc:ColI g c) (a:Int):Zp9 c (Zl8 g a) (Zq9 c (Zl8 g a))=false∧1≤Zq9 c (Zl8 g a)∧Zq9 c (Zl8 g a)≤201:=by
 have h:=lsf_spec (fun k=>!Zp9 c (Zl8 g a) k) 200 1 (by
  simp only [Bool.not_eq_true']
  unfold Zp9
  rw [List.any_eq_false]
  intro b hb
  obtain ⟨b1,b2,_⟩:=Zp8 hg hb
  have:=hc.hi _ (Zt9 (c:=c) b1 (by rw [hc.len];exact b2))
  simp;omega)
 have h1:=h.1
 simp only [Bool.not_eq_true'] at h1
 exact ⟨h1,h.2.1,h.2.2⟩
theorem Zv9 (l:List Int) (x:Int) (hl:l.length≤1000000):Z59 l x=some (decide (x∈l)):=by
 have h1:Z39 l x=some (plc (l.findIdx? fun y=>decide (x=y))):=by
  unfold Z39
  refine Zk5 l _ (fun y=>decide (x=y)) (by omega) (fun k y hy=>?_) ?_
  ·simp only [Z29,Zd5 hy,Z85,Zb5 hy,Option.bind_some,Zg5 hy (show l.length≤4000000000000000000 by omega)]
   cases decide (x=y)<;>rfl
  ·simp only [Z29,Ze5,Z95,Z19,Option.map_some]
 simp only [Z59,h1,Option.bind_some,Zi5,Zl5]
 congr 1
 rw [Bool.eq_iff_iff,List.any_eq_true,decide_eq_true_iff]
 constructor
 ·rintro ⟨y,hy,h⟩
  have:x=y:=by simpa using h
  exact this ▸ hy
 ·intro h;exact ⟨x,h,by simp⟩
theorem s_Round2 (g:Graph) (hg:okG g=true) (c:List Int) (hc:ColI g c) (a:Nat) (ha:(a:Int)<g.N) (A B:List Int) (hA:A.length=a):
  loop (Zg9 c a (Zl8 g a)) (A++1::B)=some (.inl (((a+1:Nat):Int),A++(Zq9 c (Zl8 g a):Int)::B)):=by
 obtain ⟨g1,g2,g3,_,_⟩:=Zp6 hg
 have hnl:=Zn8 g a
 have at1:∀y:Int,at_ (A++y::B) (a:Int)=some y:=fun y=>by rw [←hA];exact at_mid rfl
 have st1:∀y z:Int,(A++y::B).set ((a:Int)).toNat z=A++z::B:=fun y z=>by rw [←hA];exact set_mid _ _ _ _
 have step:∀k:Nat,Zh6 (Zl8 g a) (fun z=>Zc9 z c (A++(k:Int)::B) a)=some (Zp9 c (Zl8 g a) k):=fun k=>by
  refine Zn6 (Zl8 g a) _ (fun b=>decide (cg c b=(k:Int))) (by omega) (fun b hb=>?_)
  obtain ⟨b1,b2,_⟩:=Zp8 hg hb
  simp only [Zc9]
  rw [at_cg (c:=c) b1 (by rw [hc.len];exact b2),Option.bind_some,at1,Option.bind_some]
 have key:∀f k:Nat,k+f=201→1≤k→Zp9 c (Zl8 g a) 201=false→loop (Zg9 c a (Zl8 g a)) (A++(k:Int)::B)=some (.inl (((a+1:Nat):Int),A++(lsf (fun k=>!Zp9 c (Zl8 g a) k) f k:Int)::B)):=by
  intro f
  induction f with
  | zero=>
    intro k hk _ h201
    have:k=201:=by omega
    subst this
    rw [Z74]
    dsimp only [Zg9]
    rw [step,Option.bind_some,h201,Z95]
    dsimp only [Zf9]
    rw [Zf5 (by omega)]
    rfl
  | succ f ih=>
    intro k hk h1 h201
    rw [Z74]
    dsimp only [Zg9]
    rw [step,Option.bind_some]
    cases hu:Zp9 c (Zl8 g a) k with
    | true=>
      rw [Z85,at1,Option.bind_some,st1,Zf5 (by omega)]
      dsimp only
      rw [ih (k+1) (by omega) (by omega) h201]
      simp [lsf,hu]
    | false=>
      rw [Z95]
      dsimp only [Zf9]
      rw [Zf5 (by omega)]
      simp [lsf,hu]
 refine key 200 1 rfl (Nat.le_refl _) ?_
 unfold Zp9
 rw [List.any_eq_false]
 intro b hb
 obtain ⟨b1,b2,_⟩:=Zp8 hg hb
 have:=hc.hi _ (Zt9 (c:=c) b1 (by rw [hc.len];exact b2))
 simp;omega
theorem drop_cons {c:List Int} {k:Nat} (h:k<c.length):c.drop k=cg c k::c.drop (k+1):=by
 rw [List.drop_eq_getElem_cons h]
 congr 1
 unfold cg
 simp [h]
theorem s_Round (g:Graph) (hg:okG g=true) (c:List Int) (hc:ColI g c):Zk9 g c=some (Zs9 g c,0):=by
 obtain ⟨g1,g2,g3,_,_⟩:=Zp6 hg
 have hlen:=hc.len
 simp only [Zk9,Zo6,hg,if_true,decide_true,Bool.not_true,Z95,Option.bind_some,Zq4,hlen]
 rw [Zn6 c (fun z=>Z79 z) (fun x=>decide (x<0)) (by omega) (fun x _=>rfl),Option.bind_some]
 have e0:c.any (fun x=>decide (x<0))=false:=by
  rw [List.any_eq_false];intro x hx;have:=hc.lo x hx;simp;omega
 rw [e0]
 simp only [Zj9,Z95,Z48]
 rw [Zc5 _ _ (by omega) (by simp;omega),Option.bind_some,List.nil_append]
 refine (loop_nat g.N.toNat (Zi9 g c) (fun k=>((k:Int),(List.range k).map (newC g c)++c.drop k)) (Zs9 g c,0) (fun k hk=>?_) ?_)
 ·have hkl:k<c.length:=by omega
  obtain ⟨g1',_⟩:=Zp6 hg
  dsimp only [Zi9]
  rw [decide_eq_true (by omega),Z85,s_Near,hg,if_pos rfl,Option.bind_some,at_cg (c:=c) (Int.natCast_nonneg k) (by omega),Option.bind_some,drop_cons hkl,Zt8]
  have hA:((List.range k).map (newC g c)).length=k:=by simp
  have keep:newC g c k=cg c k→Zh9 c k ((List.range k).map (newC g c)++cg c k::c.drop (k+1)) (Zl8 g k) true=some (.inl (((k+1:Nat):Int),((List.range k).map (newC g c)++[newC g c k])++c.drop (k+1))):=fun e=>by
   dsimp only [Zh9,Zf9]
   rw [Z85,Zf5 (by omega),e];simp
  by_cases h0:cg c k=0
  ·rw [decide_eq_true h0,Bool.not_true,Z95]
   have hcf:Zh6 (Zl8 g k) (fun z=>Za9 z c k)=some ((Zl8 g k).any fun b=>decide (cg c b=0)&&decide ((k:Int)<b)):=by
    refine Zn6 (Zl8 g k) _ (fun b=>decide (cg c b=0)&&decide ((k:Int)<b)) (by have:=Zn8 g k;omega) (fun b hb=>?_)
    obtain ⟨b1,b2,_⟩:=Zp8 hg hb
    simp only [Za9,Z99]
    rw [at_cg (c:=c) b1 (by omega),Option.bind_some]
    cases decide (cg c b=0)<;>rfl
   rw [hcf,Option.bind_some]
   cases ht:(Zl8 g k).any fun b=>decide (cg c b=0)&&decide ((k:Int)<b) with
   | true=>
     refine keep ?_
     unfold newC Zr9
     rw [ht];simp
   | false=>
     have e:newC g c k=(Zq9 c (Zl8 g k):Int):=by
      unfold newC Zr9
      rw [ht,decide_eq_true h0];simp
     dsimp only [Zh9]
     have at1:=at_mid (l:=(List.range k).map (newC g c)++cg c k::c.drop (k+1)) rfl
     rw [hA] at at1
     have st1:=set_mid ((List.range k).map (newC g c)) (c.drop (k+1)) (cg c k) 1
     rw [hA] at st1
     rw [Z95,at1,Option.bind_some,st1,s_Round2 g hg c hc k (by omega) _ _ hA,e]
     simp
  ·rw [decide_eq_false h0,Bool.not_false,Z85]
   refine keep ?_
   unfold newC Zr9
   rw [decide_eq_false h0];simp
 ·dsimp only [Zi9]
  rw [decide_eq_false (by omega),Z95,List.drop_eq_nil_of_le (by omega),List.append_nil]
  rfl
set_option maxRecDepth 100000
set_option maxHeartbeats 4000000
theorem lsf_le (p:Nat→Bool):∀(f k j:Nat),p j=true→k≤j→j≤k+f→lsf p f k≤j
 | 0,k,j,_,h1,_=>h1
 | f+1,k,j,h,h1,h2=>by
   simp only [lsf]
   split
   ·exact h1
   ·rename_i hp
    have:k≠j:=by rintro rfl;exact hp h
    exact lsf_le p f (k+1) j h (by omega) (by omega)
theorem countP_lt {α:Type} (p q:α→Bool):∀(l:List α),(∀x∈l,p x=true→q x=true)→(∃x∈l,q x=true∧p x=false)→l.countP p<l.countP q
 | [],_,⟨x,hx,_⟩=>absurd hx (by simp)
 | y::l,h,⟨x,hx,h1,h2⟩=>by
   have hle:l.countP p≤l.countP q:=List.countP_mono_left fun z hz=>h z (List.mem_cons_of_mem _ hz)
   rw [List.countP_cons,List.countP_cons]
   rcases List.mem_cons.1 hx with rfl | hx
   ·rw [h1,h2];simp;omega
   ·have:=countP_lt p q l (fun z hz=>h z (List.mem_cons_of_mem _ hz)) ⟨x,hx,h1,h2⟩
    have hy:=h y (by simp)
    cases hp:p y with
    | false=>simp;omega
    | true=>rw [hy hp];simp;omega
def zeros (g:Graph) (c:List Int):Nat:=(List.range g.N.toNat).countP fun a:Nat=>decide (cg c (a:Int)=0)
theorem zeros_le (g:Graph) (c:List Int):zeros g c≤g.N.toNat:=by
 have:=List.countP_le_length (p:=fun a:Nat=>decide (cg c (a:Int)=0)) (l:=List.range g.N.toNat)
 simpa [zeros] using this
structure ColN (g:Graph) (c:List Int) (n:Nat):Prop where
 len:(c.length:Int)=g.N
 lo:∀x∈c,0≤x
 hi:∀x∈c,x≤n
 ne:∀a b,b∈Zl8 g a→cg c a≠0→cg c b≠0→cg c a≠cg c b
theorem ColN.I {g:Graph} {c:List Int} {n:Nat} (h:ColN g c n) (hn:n≤100):ColI g c:=⟨h.len,h.lo,fun x hx=>by have:=h.hi x hx;omega⟩
theorem Zw9 {g:Graph} {c:List Int} {a:Int} (h0:0≤a) (h:a<g.N):cg (Zs9 g c) a=newC g c a.toNat:=by
 unfold cg Zs9
 rw [List.getElem?_map,List.getElem?_range (by omega)];rfl
theorem near_symm' {g:Graph} (hg:okG g=true) {a b:Int} (h:b∈Zl8 g a):a∈Zl8 g b:=by
 rw [Zo8 hg] at *;exact h.symm
theorem Zx9 {c near:List Int} {a:Int}:Zr9 c near a=true↔cg c a=0∧∀b∈near,cg c b=0→b≤a:=by
 unfold Zr9
 simp only [Bool.and_eq_true,decide_eq_true_eq,Bool.not_eq_true',List.any_eq_false,Bool.and_eq_true,decide_eq_true_eq,not_and]
 constructor
 ·rintro ⟨h1,h2⟩;exact ⟨h1,fun b hb h0=>by have:=h2 b hb h0;omega⟩
 ·rintro ⟨h1,h2⟩;exact ⟨h1,fun b hb h0=>by have:=h2 b hb h0;omega⟩
theorem freshC_le {g:Graph} {c:List Int} {n:Nat} (hc:ColN g c n) (hn:n≤100) (a:Int):Zq9 c (Zl8 g a)≤n+1:=by
 refine lsf_le _ _ _ _ ?_ (by omega) (by omega)
 simp only [Bool.not_eq_true']
 unfold Zp9
 rw [List.any_eq_false]
 intro b hb
 simp only [decide_eq_true_eq]
 intro he
 by_cases h:0≤b∧b<c.length
 ·have:=hc.hi _ (Zt9 (c:=c) h.1 h.2)
  omega
 ·unfold cg at he
  have hb0:0≤b.toNat:=Nat.zero_le _
  cases hq:c[b.toNat]? with
  | none=>rw [hq] at he;simp at he;omega
  | some y=>
    rw [hq] at he
    have:=hc.hi y (List.mem_iff_getElem?.2 ⟨_,hq⟩)
    simp at he;omega
theorem Zy9 (g:Graph) (c:List Int) (a:Nat):(Zr9 c (Zl8 g a) a=true∧newC g c a=(Zq9 c (Zl8 g a):Int))∨(Zr9 c (Zl8 g a) a=false∧newC g c a=cg c a):=by
 unfold newC
 cases Zr9 c (Zl8 g a) a<;>simp
theorem ColN.round {g:Graph} (hg:okG g=true) {c:List Int} {n:Nat} (hc:ColN g c n) (hn:n≤100):ColN g (Zs9 g c) (n+1):=by
 obtain ⟨g1,g2,_,_,_⟩:=Zp6 hg
 have hI:=hc.I hn
 have hmem:∀x∈Zs9 g c,0≤x∧x≤n+1:=fun x hx=>by
  obtain ⟨a,ha,rfl⟩:=List.mem_map.1 hx
  have ha':=List.mem_range.1 ha
  have:=freshC_le hc hn a
  rcases Zy9 g c a with ⟨_,h2⟩ | ⟨_,h2⟩
  ·rw [h2];omega
  ·rw [h2]
   have hm:=Zt9 (c:=c) (a:=(a:Int)) (by omega) (by have:=hc.len;omega)
   have:=hc.lo _ hm
   have:=hc.hi _ hm
   omega
 refine ⟨by simp [Zs9];omega,fun x hx=>(hmem x hx).1,fun x hx=>by have:=(hmem x hx).2;omega,fun a b hb ha0 hb0=>?_⟩
 obtain ⟨b1,b2,b3,a1,a2⟩:=Zp8 hg hb
 have hab:=near_symm' hg hb
 rw [Zw9 a1 a2] at ha0 ⊢
 rw [Zw9 b1 b2] at hb0 ⊢
 have ea:((a.toNat:Nat):Int)=a:=Int.toNat_of_nonneg a1
 have eb:((b.toNat:Nat):Int)=b:=Int.toNat_of_nonneg b1
 have ua:=(Zu9 hg hI a).1
 have ub:=(Zu9 hg hI b).1
 unfold Zp9 at ua ub
 rw [List.any_eq_false] at ua ub
 have ua':=ua b hb
 have ub':=ub a hab
 simp only [decide_eq_true_eq] at ua' ub'
 rcases Zy9 g c a.toNat with ⟨h1,h2⟩ | ⟨h1,h2⟩<;>rcases Zy9 g c b.toNat with ⟨k1,k2⟩ | ⟨k1,k2⟩<;>rw [ea] at h1 h2<;>rw [eb] at k1 k2
 ·rw [Zx9] at h1 k1
  have:=h1.2 b hb k1.1
  have:=k1.2 a hab h1.1
  exact absurd (by omega) b3
 ·rw [h2,k2];exact fun e=>ua' e.symm
 ·rw [h2,k2];exact ub'
 ·rw [h2,k2]
  rw [h2] at ha0
  rw [k2] at hb0
  exact hc.ne a b hb ha0 hb0
theorem max_zero (p:Nat→Bool):∀n:Nat,(∃a,a<n∧p a=true)→∃a,a<n∧p a=true∧∀b,b<n→p b=true→b≤a
 | 0,⟨a,h,_⟩=>absurd h (by omega)
 | n+1,⟨a,h,hp⟩=>by
   cases hn:p n with
   | true=>exact ⟨n,by omega,hn,fun b hb _=>by omega⟩
   | false=>
     have:a≠n:=by rintro rfl;rw [hn] at hp;simp at hp
     obtain ⟨a',h1,h2,h3⟩:=max_zero p n ⟨a,by omega,hp⟩
     refine ⟨a',by omega,h2,fun b hb hpb=>?_⟩
     have:b≠n:=by rintro rfl;rw [hn] at hpb;simp at hpb
     exact h3 b (by omega) hpb
theorem Zz9 {g:Graph} (hg:okG g=true) {c:List Int} {n:Nat} (hc:ColN g c n) (hn:n≤100) (h0:(0:Int)∈c):zeros g (Zs9 g c)<zeros g c:=by
 have hI:=hc.I hn
 have ex:∃a,a<g.N.toNat∧(fun a:Nat=>decide (cg c (a:Int)=0)) a=true:=by
  obtain ⟨k,hk⟩:=List.mem_iff_getElem?.1 h0
  have hlt:=(List.getElem?_eq_some_iff.1 hk).1
  have:=hc.len
  refine ⟨k,by omega,?_⟩
  simp [cg,hk]
 obtain ⟨a,h1,h2,h3⟩:=max_zero _ _ ex
 simp only [decide_eq_true_eq] at h2 h3
 refine countP_lt _ _ _ (fun b hb hz=>?_) ⟨a,List.mem_range.2 h1,by simpa using h2,?_⟩
 ·have hb':=List.mem_range.1 hb
  have hf:=(Zu9 hg hI b).2.1
  simp only [decide_eq_true_eq] at hz ⊢
  rw [Zw9 (by omega) (by omega),Int.toNat_natCast] at hz
  rcases Zy9 g c b with ⟨k1,k2⟩ | ⟨k1,k2⟩
  ·rw [Zx9] at k1;exact k1.1
  ·rw [←k2];exact hz
 ·have ht:Zr9 c (Zl8 g a) a=true:=by
   rw [Zx9]
   refine ⟨h2,fun b hb hb0=>?_⟩
   obtain ⟨b1,b2,_⟩:=Zp8 hg hb
   have:=h3 b.toNat (by omega) (by rw [Int.toNat_of_nonneg b1];exact hb0)
   omega
  have hf:=(Zu9 hg hI a).2.1
  simp only [decide_eq_false_iff_not]
  rw [Zw9 (by omega) (by omega),Int.toNat_natCast]
  unfold newC
  rw [ht];simp;omega
def runL (g:Graph):Nat→List Int→Int→List Int×Int
 | 0,c,n=>(c,n)
 | f+1,c,n=>if (0:Int)∈c then runL g f (Zs9 g c) (n+1) else (c,n)
theorem zeros_pos {g:Graph} {c:List Int} {n:Nat} (hc:ColN g c n) (h0:(0:Int)∈c):0<zeros g c:=by
 obtain ⟨k,hk⟩:=List.mem_iff_getElem?.1 h0
 have hlt:=(List.getElem?_eq_some_iff.1 hk).1
 have:=hc.len
 refine List.countP_pos_iff.2 ⟨k,List.mem_range.2 (by omega),?_⟩
 simp [cg,hk]
theorem runL_right {g:Graph} (hg:okG g=true):∀(f:Nat) (c:List Int) (n:Nat),ColN g c n→zeros g c≤f→n+f≤100→Z28 g (runL g f c n).1=true∧(runL g f c n).1.length≤64:=by
 obtain ⟨g1,g2,g3,g4,g5⟩:=Zp6 hg
 have done:∀(c:List Int) (n:Nat),ColN g c n→(0:Int)∉c→Z28 g c=true∧c.length≤64:=fun c n hc h0=>by
  have hl:=hc.len
  refine ⟨?_,by omega⟩
  unfold Z28
  rw [decide_eq_true hl,Bool.true_and,Bool.and_eq_true,List.all_eq_true,List.all_eq_true]
  have nz:∀a:Int,0≤a→a<g.N→cg c a≠0:=fun a h1 h2 h=>h0 (h ▸ Zt9 (c:=c) h1 (by omega))
  refine ⟨fun x hx=>?_,fun e he=>?_⟩
  ·have:=hc.lo x hx
   have:x≠0:=by rintro rfl;exact h0 hx
   simp;omega
  ·obtain ⟨e1,e2,e3⟩:=g4 e he
   have:=hc.ne e.A e.B ((Zo8 hg).2 (.inl he)) (nz _ e1 (by omega)) (nz _ (by omega) e3)
   simpa using this
 intro f
 induction f with
 | zero=>
   intro c n hc hz _
   have h0:(0:Int)∉c:=fun h=>by have:=zeros_pos hc h;omega
   exact done c n hc h0
 | succ f ih=>
   intro c n hc hz hn
   simp only [runL]
   split
   ·rename_i h0
    have:=Zz9 hg hc (by omega) h0
    have k:=ih (Zs9 g c) (n+1) (hc.round hg (by omega)) (by omega) (by omega)
    rwa [show ((n+1:Nat):Int)=(n:Int)+1 from rfl] at k
   ·rename_i h0
    exact done c n hc h0
theorem run_loop {g:Graph} (hg:okG g=true):∀(f:Nat) (c:List Int) (n:Nat),ColN g c n→zeros g c≤f→n+f≤100→loop (Zn9 g) (c,(n:Int))=some ((runL g f c n).1,(runL g f c n).2,0):=by
 obtain ⟨g1,g2,g3,g4,g5⟩:=Zp6 hg
 have stop:∀(c:List Int) (n:Nat),ColN g c n→(0:Int)∉c→loop (Zn9 g) (c,(n:Int))=some (c,(n:Int),0):=fun c n hc h0=>by
  have hl:=hc.len
  rw [Z74]
  dsimp only [Zn9]
  rw [Zv9 c 0 (by omega),Option.bind_some,decide_eq_false h0,Z95]
  rfl
 intro f
 induction f with
 | zero=>
   intro c n hc hz _
   have h0:(0:Int)∉c:=fun h=>by have:=zeros_pos hc h;omega
   exact stop c n hc h0
 | succ f ih=>
   intro c n hc hz hn
   have hl:=hc.len
   simp only [runL]
   by_cases h0:(0:Int)∈c
   ·rw [if_pos h0,Z74]
    dsimp only [Zn9]
    rw [Zv9 c 0 (by omega),Option.bind_some,decide_eq_true h0,Z85,s_Round g hg c (hc.I (by omega)),Option.bind_some,Zf5 (by omega)]
    have:=Zz9 hg hc (by omega) h0
    exact ih (Zs9 g c) (n+1) (hc.round hg (by omega)) (by omega) (by omega)
   ·rw [if_neg h0];exact stop c n hc h0
def c0 (g:Graph):List Int:=List.replicate g.N.toNat 0
def Z0a (g:Graph):List Int:=(runL g 64 (c0 g) 0).1
theorem cg_c0 (g:Graph) (a:Int):cg (c0 g) a=0:=by
 unfold cg c0
 rw [List.getElem?_replicate]
 split<;>rfl
theorem c0_ok {g:Graph} (hg:okG g=true):ColN g (c0 g) 0:=by
 obtain ⟨g1,_⟩:=Zp6 hg
 refine ⟨by simp [c0];omega,fun x hx=>?_,fun x hx=>?_,fun a b _ h _=>absurd (cg_c0 g a) h⟩
 ·have:=List.eq_of_mem_replicate hx;omega
 ·have:=List.eq_of_mem_replicate hx;omega
theorem zeros64 {g:Graph} (hg:okG g=true) (c:List Int):zeros g c≤64:=by
 have:=zeros_le g c
 have:=(Zp6 hg).2.1
 omega
theorem Z1a {g:Graph} (hg:okG g=true):Z28 g (Z0a g)=true∧(Z0a g).length≤64:=by
 have:=runL_right hg 64 (c0 g) 0 (c0_ok hg) (zeros64 hg _) (by omega)
 exact this
theorem s_Run (g:Graph) (hg:okG g=true):Zo9 g=some (Z0a g,(runL g 64 (c0 g) 0).2,0):=by
 obtain ⟨g1,g2,_⟩:=Zp6 hg
 simp only [Zo9,Zo6,hg,if_true,Option.bind_some,decide_true,Bool.not_true,Z95]
 have e:mk_ 8 g.N 0=some (c0 g):=by
  unfold mk_
  rw [if_pos ⟨by omega,by omega⟩];rfl
 rw [e,Option.bind_some]
 exact run_loop hg 64 (c0 g) 0 (c0_ok hg) (zeros64 hg _) (by omega)
def Z2a (g:Graph):Scene:=⟨Zs8 g (Z0a g),[]⟩
theorem Z3a (id:Int):∀(l:List Side) (q:Int),l.Pairwise (fun x y=>x.Peer<y.Peer)→(∀x∈l,q<x.Peer∧x.Peer≠id∧x.Epoch=1∧x.State=0∧(x.Dirty=true→x.Fork=true))→okSides id q l=true
 | [],_,_,_=>rfl
 | x::l,q,h,hb=>by
   rw [List.pairwise_cons] at h
   obtain ⟨b1,b2,b3,b4,b5⟩:=hb x (by simp)
   have ih:=Z3a id l x.Peer h.2 fun y hy=>by
    have:=hb y (by simp [hy])
    exact ⟨h.1 y hy,this.2⟩
   simp only [okSides,ih,Bool.and_true,sideD,decide_eq_true b1,decide_eq_false b2,b3,b4]
   cases hd:x.Dirty with
   | false=>rfl
   | true=>rw [b5 hd];rfl
theorem LocD.ok {g:Graph} (hg:okG g=true) (hN:g.N≤60) {a:Nat} {d:Diner} (h:LocD d) (hid:d.ID=a) (hp:d.Sides.map (·.Peer)=Zl8 g a):okD d=true:=by
 have hlen:d.Sides.length=(Zl8 g a).length:=by rw [←hp];simp
 have hfew:=near_few hg (a:Int)
 have hpw:d.Sides.Pairwise fun x y=>x.Peer<y.Peer:=by
  have:=Zm8 hg (a:Int)
  rw [←hp,List.pairwise_map] at this
  exact this
 unfold okD
 rw [decide_eq_true (show 0≤d.ID by omega),decide_eq_true h.lo,decide_eq_true h.hi,decide_eq_true (show d.Sides.length<64 by omega),Z3a d.ID d.Sides (-1) hpw fun x hx=>?_]
 ·rfl
 ·have hm:x.Peer∈Zl8 g a:=by rw [←hp];exact List.mem_map_of_mem hx
  obtain ⟨n1,n2,n3,_⟩:=Zp8 hg hm
  exact ⟨by omega,by omega,h.side x hx⟩
theorem Inv.okd {g:Graph} {s:Scene} (hg:okG g=true) (hN:g.N≤60) (h:Inv g s) {d:Diner} (hd:d∈s.Diners):okD d=true:=by
 obtain ⟨k,hk⟩:=List.mem_iff_getElem?.1 hd
 obtain ⟨h1,h2⟩:=h.shp k d hk
 exact (h.loc d hd).ok hg hN h1 h2
theorem Inv.graph {g:Graph} {s:Scene} (hg:okG g=true) (h:Inv g s):Zi7 s.Diners=(g,true):=by
 rw [←graphP_T hg []]
 refine graphP_key (List.ext_getElem? fun k=>?_)
 have hl:=Zv8 hg []
 have hl2:=h.len
 rw [List.getElem?_map,List.getElem?_map]
 by_cases hk:k<s.Diners.length
 ·have e:=Zu8 (g:=g) (c:=[]) (a:=(k:Int)) (by omega) (by omega)
  have hx:s.Diners[k]?=some s.Diners[k]:=List.getElem?_eq_getElem hk
  obtain ⟨h1,h2⟩:=h.shp k _ hx
  rw [Int.toNat_natCast] at e
  rw [hx,e]
  simp only [Option.map_some,key,h1,h2,Zr8,List.map_map]
  congr 2
  exact (List.map_id _).symm
 ·rw [List.getElem?_eq_none (by omega),List.getElem?_eq_none (by omega)]
theorem mailG_ok {g:Graph} (hg:okG g=true) {n:Nat} (hn:(n:Int)=g.N) {m:Mail} (h:mailG g m):okMail n m=true:=by
 obtain ⟨n1,n2,n3,n4,n5⟩:=Zp8 hg h.2.2.2
 unfold okMail
 rw [decide_eq_false (by omega),decide_eq_false (by omega),decide_eq_false (by omega)];rfl
theorem Inv.ok {g:Graph} {s:Scene} (hg:okG g=true) (hN:g.N≤60) (h:Inv g s):okS s=true:=by
 unfold okS
 rw [h.graph hg,Bool.true_and,Bool.and_eq_true,List.all_eq_true,List.all_eq_true]
 exact ⟨fun d hd=>h.okd hg hN hd,fun m hm=>mailG_ok hg h.len (h.mail m hm)⟩
theorem Inv.init {g:Graph} (hg:okG g=true) {c:List Int} (hr:Z28 g c=true):Inv g ⟨Zs8 g c,[]⟩:=by
 have get:∀(k:Nat) d,(Zs8 g c)[k]?=some d→(k:Int)<g.N∧d=Zr8 g c k:=fun k d hd=>by
  have hk:=(List.getElem?_eq_some_iff.1 hd).1
  have hl:=Zv8 hg c
  have e:=Zu8 (g:=g) (c:=c) (a:=(k:Int)) (by omega) (by omega)
  rw [Int.toNat_natCast,hd] at e
  exact ⟨by omega,by simpa using e⟩
 refine ⟨Zv8 hg c,fun k d hd=>?_,fun d hd=>?_,by simp,fun a b da db ha hb hab k hk=>?_⟩
 ·obtain ⟨_,rfl⟩:=get k d hd
  refine ⟨rfl,?_⟩
  simp only [Zr8,List.map_map]
  exact List.map_id _
 ·obtain ⟨k,hk⟩:=List.mem_iff_getElem?.1 hd
  obtain ⟨_,rfl⟩:=get k d hk
  refine ⟨Int.le_refl _,by show (0:Int)≤2;omega,fun x hx=>?_,fun h=>absurd h (by show ¬(0:Int)=2;omega)⟩
  obtain ⟨b,_,rfl⟩:=List.mem_map.1 hx
  exact ⟨rfl,rfl,fun h=>h⟩
 ·obtain ⟨_,rfl⟩:=get a da ha
  obtain ⟨_,rfl⟩:=get b db hb
  have hne:=rightB_ne hg hr hab
  have hba:=Zw8 hg hab
  unfold hasD cnt
  rw [sideO_T,if_pos hab,sideO_T,if_pos hba]
  have hlt:decide (cg c a<cg c b)=!decide (cg c b<cg c a):=by
   rw [←decide_not,decide_eq_decide];omega
  simp only [Zq8,has,hlt,bn]
  by_cases hh:cg c b<cg c a<;>rcases hk with rfl | rfl<;>simp [hh]
set_option maxRecDepth 100000
set_option maxHeartbeats 4000000
set_option maxRecDepth 100000
set_option maxHeartbeats 4000000
set_option maxRecDepth 100000
set_option maxHeartbeats 4000000
set_option maxRecDepth 100000
set_option maxHeartbeats 4000000
theorem Inv.first {g:Graph} (hg:okG g=true):Inv g (Z2a g):=Inv.init hg (Z1a hg).1
theorem Inv.get {g:Graph} {s:Scene} (h:Inv g s) {a:Int} (h0:0≤a) (h1:a<g.N):∃d,s.Diners[a.toNat]?=some d:=by
 have:=h.len
 exact ⟨_,List.getElem?_eq_getElem (by omega)⟩
theorem Inv.sided {g:Graph} {s:Scene} (h:Inv g s) {a:Int} (h0:0≤a) {d:Diner} (hd:s.Diners[a.toNat]?=some d) {b:Int} (hb:b∈Zl8 g a):∃x,Z47 d b=some x∧x∈d.Sides:=by
 have h1:=(h.shp _ _ hd).2
 rw [Int.toNat_of_nonneg h0] at h1
 have:(Z47 d b).isSome=true:=by rw [Zx8,h1];exact decide_eq_true hb
 obtain ⟨x,hx⟩:=Option.isSome_iff_exists.1 this
 exact ⟨x,hx,(sideO_some hx).1⟩
def Own (x y:Side) (pa pb:Int) (cab cba:List Int) (ra rb:Int):Prop:=
 cab=[]∧y.Fork=false∧(y.Token=false→pb=1)∧((x.Fork&&x.Dirty)=true→ra<rb)∧((x.Fork&&x.Dirty)=false→rb<ra)∧
 ((x.Fork=true∧(x.Dirty=false→pa=1)∧((x.Token=true∧y.Token=false∧cba=[])∨(x.Token=false∧y.Token=true∧cba=[])∨(x.Token=false∧y.Token=false∧cba=[2])))∨
  (x.Fork=false∧x.Token=false∧pa=1∧((y.Token=true∧cba=[1])∨(y.Token=false∧cba=[1,2]))))
def EdgeI (x y:Side) (pa pb:Int) (cab cba:List Int) (ra rb:Int):Prop:=Own x y pa pb cab cba ra rb∨Own y x pb pa cba cab rb ra
theorem EdgeI.symm {x y:Side} {pa pb:Int} {cab cba:List Int} {ra rb:Int} (h:EdgeI x y pa pb cab cba ra rb):EdgeI y x pb pa cba cab rb ra:=Or.symm h
theorem EdgeI.eat {x y:Side} {pb:Int} {cab cba:List Int} {ra rb:Int} (h:EdgeI x y 1 pb cab cba ra rb) (hf:x.Fork=true) {r:Int} (hr:r<rb):EdgeI (dirtyS x) y 2 pb cab cba r rb:=by
 obtain ⟨p,e,st,f,d,t,bo,ak⟩:=x
 dsimp only at hf
 subst hf
 rcases h with ⟨h1,h2,h3,h4,h5,h6⟩ | ⟨h1,h2,h3,h4,h5,h6⟩
 ·refine .inl ⟨h1,h2,h3,fun _=>hr,fun e=>absurd e (by simp [dirtyS]),?_⟩
  rcases h6 with ⟨k1,k2,k3⟩ | ⟨k1,k2,k3,k4⟩
  ·exact .inl ⟨rfl,fun e=>absurd e (by simp [dirtyS]),k3⟩
  ·exact absurd k1 (by simp)
 ·exact absurd h2 (by simp)
def ch (M:List Mail) (a b:Int):List Int:=(M.filter fun m=>decide (m.From=a)&&decide (m.To=b)).map (·.Msg.Kind)
def Z4a (r:Nat→Int) (s:Scene):Prop:=∀(a b:Nat) da db x y,s.Diners[a]?=some da→s.Diners[b]?=some db→Z47 da b=some x→Z47 db a=some y→EdgeI x y da.Phase db.Phase (ch s.Mail a b) (ch s.Mail b a) (r a) (r b)
theorem Z4a.set {r r':Nat→Int} {s:Scene} (h:Z4a r s) {a:Nat} {d:Diner} (hs:Z47 d a=none) {M:List Mail} (hr:∀k,k≠a→r' k=r k) (hc:∀p q:Nat,p≠a→q≠a→ch M p q=ch s.Mail p q)
  (hn:∀(b:Nat) db x y,b≠a→s.Diners[b]?=some db→Z47 d b=some x→Z47 db a=some y→EdgeI x y d.Phase db.Phase (ch M a b) (ch M b a) (r' a) (r b)):Z4a r' ⟨s.Diners.set a d,M⟩:=by
 have get:∀(k:Nat) e,(s.Diners.set a d)[k]?=some e→(k=a∧e=d)∨(k≠a∧s.Diners[k]?=some e):=fun k e he=>by
  rw [List.getElem?_set] at he
  split at he
  ·rename_i hk
   simp at he
   exact .inl ⟨hk.symm,he.2.symm⟩
  ·rename_i hk
   exact .inr ⟨fun e=>hk e.symm,he⟩
 intro p q dp dq x y hp hq hx hy
 dsimp only at hp hq ⊢
 rcases get p dp hp with ⟨rfl,rfl⟩ | ⟨p1,hp'⟩<;>rcases get q dq hq with ⟨rfl,rfl⟩ | ⟨q1,hq'⟩
 ·rw [hs] at hx;simp at hx
 ·rw [hr q q1];exact hn q dq x y q1 hq' hx hy
 ·rw [hr p p1];exact (hn p dp y x p1 hp' hy hx).symm
 ·rw [hr p p1,hr q q1,hc p q p1 q1,hc q p q1 p1];exact h p q dp dq x y hp' hq' hx hy
def SetS (ph:Int) (x:Side):Prop:=(x.Fork=true→x.Dirty=true→x.Token=true→ph=2)∧(ph=1→x.Token=true→x.Fork=true)
structure SetD (d:Diner):Prop where
 side:∀x∈d.Sides,SetS d.Phase x
 lack:d.Phase=1→∃x∈d.Sides,x.Fork=false
structure Fair (g:Graph) (s:Scene):Prop where
 inv:Inv g s
 set:∀d∈s.Diners,SetD d
 edge:∃r:Nat→Int,Z4a r s
theorem Z5a {g:Graph} (hg:okG g=true):Z4a (fun k=> -cg (Z0a g) k) (Z2a g):=fun a b da db x y ha hb hx hy=>by
 have hr:=(Z1a hg).1
 have get:∀(k:Nat) d,(Zs8 g (Z0a g))[k]?=some d→d=Zr8 g (Z0a g) k:=fun k d hd=>by
  have hk:=(List.getElem?_eq_some_iff.1 hd).1
  have hl:=Zv8 hg (Z0a g)
  have e:=Zu8 (g:=g) (c:=Z0a g) (a:=(k:Int)) (by omega) (by omega)
  rw [Int.toNat_natCast,hd] at e
  simpa using e
 have:=get a da ha
 subst this
 have:=get b db hb
 subst this
 rw [sideO_T] at hx hy
 split at hx
 ·rename_i hab
  rw [if_pos (Zw8 hg hab)] at hy
  have hne:=rightB_ne hg hr hab
  simp only [Option.some.injEq] at hx hy
  subst hx;subst hy
  have hlt:decide (cg (Z0a g) a<cg (Z0a g) b)=!decide (cg (Z0a g) b<cg (Z0a g) a):=by
   rw [←decide_not,decide_eq_decide];omega
  have e0:∀p q:Int,ch (Z2a g).Mail p q=[]:=fun _ _=>rfl
  rw [e0,e0]
  unfold EdgeI Own
  by_cases hh:cg (Z0a g) b<cg (Z0a g) a
  ·left
   simp [Zq8,hlt,hh]
  ·right
   simp [Zq8,hlt,hh]
   omega
 ·simp at hx
theorem Fair.first {g:Graph} (hg:okG g=true):Fair g (Z2a g):=by
 have hI:=Inv.first hg
 have get:∀(k:Nat) d,(Zs8 g (Z0a g))[k]?=some d→d=Zr8 g (Z0a g) k:=fun k d hd=>by
  have hk:=(List.getElem?_eq_some_iff.1 hd).1
  have hl:=Zv8 hg (Z0a g)
  have e:=Zu8 (g:=g) (c:=Z0a g) (a:=(k:Int)) (by omega) (by omega)
  rw [Int.toNat_natCast,hd] at e
  simpa using e
 refine ⟨hI,fun d hd=>?_,fun k=> -cg (Z0a g) k,Z5a hg⟩
 obtain ⟨k,hk⟩:=List.mem_iff_getElem?.1 hd
 have:=get k d hk
 subst this
 refine ⟨fun x hx=>?_,fun e=>absurd e (by show ¬(0:Int)=1;omega)⟩
 obtain ⟨b,_,rfl⟩:=List.mem_map.1 hx
 refine ⟨fun e1 _ e3=>?_,fun e=>absurd e (by show ¬(0:Int)=1;omega)⟩
 simp only [Zq8] at e1 e3
 rw [e1] at e3
 exact absurd e3 (by simp)
set_option maxRecDepth 100000
set_option maxHeartbeats 4000000
set_option maxRecDepth 100000
set_option maxHeartbeats 4000000
@[go_sem] def e60:EC:=.seq (.reg [(Qx 2 49 8 0),(Qx 3 49 8 1),(Qa 4 (.mv (.c .ff)))]) (.seq (.reg [(Qf 5 3 2),(Ql 6 5),(Qm 7 6),(Qh 8 7 true 4 2),(Qn 9 7 true 8),(Qg 10 7 true (.not (.t 9))),(Qp 11 7 10),(Qm 12 11),(Qh 13 12 false 3 2),(Qn 14 12 false 13),(Qg 15 12 false (.not (.t 14))),(Qg 16 12 false (.mv (.t 15))),(Qh 17 16 true 3 3),(Qn 18 16 true 17),(Qg 19 12 false (.pick (.t 16) (.t 18) (.c .ff))),(Qg 20 12 false (.mv (.t 19))),(Qh 21 20 true 4 3),(Qn 22 20 true 21),(Qg 23 12 false (.pick (.t 20) (.t 22) (.c .ff))),(Qq 24 12 23),(Qm 4 24)]) (.ret))
theorem ok60:FnOK Try.prog 60 Try.f60 e60 [.t 4] 2 23:=⟨by kernel_rfl,⟨_,rfl,by kernel_rfl⟩,by kernel_rfl,by kernel_rfl⟩
noncomputable def Z6a:Bool→Option Bool
| x3=>
 some x3
noncomputable def Z7a (x1:Side) (x2:Side):Option Bool:=
 ifb x1.Fork (
 ifb (!x1.Dirty) (
 Z6a true) (
 ifb (!x1.Fork) (
 ifb x2.Fork (
 Z6a x2.Dirty) (
 Z6a false)) (
 Z6a false))) (
 ifb (!x1.Fork) (
 ifb x2.Fork (
 Z6a x2.Dirty) (
 Z6a false)) (
 Z6a false))
theorem Z8a (x1:Side) (x2:Side) (r:Bool) (h:Z7a x1 x2=some r):Zu2 Try.prog 60 [.agg (Side.row x1),.agg (Side.row x2)] (.bv r):=by
 refine Zx2 ok60 rfl rfl fun w0 H0=>?_
 rw [Z7a] at h
 refine Zo2 11 ?_;dsimp only [go_sem];refine An ?_;refine Z94 (fun (x3:Bool)=>(⟨(an 4 (.bv x3::an 20 [])),[],[]⟩:St)) Z6a r ?_ fun J1=>?_
 ·intro x3 h;rw [Z6a] at h;(try dsimp only);exact Zi4 (res:=fun (r:Bool)=>.bv r) ok60 h
 ·refine Zh4 7 h rfl (fun _ h=>?_) fun _ h=>?_
  ·dsimp only [go_sem];refine Zo2 5 ?_;dsimp only [go_sem];refine An ?_;refine Zh4 12 h rfl (fun _ h=>?_) fun _ h=>?_
   ·dsimp only [go_sem];refine Zo2 14 ?_;dsimp only [go_sem];refine An ?_;exact Zk4 J1 (s:=true) h
   ·dsimp only [go_sem];refine Zo2 4 ?_;dsimp only [go_sem];refine An ?_;refine Zh4 16 h rfl (fun _ h=>?_) fun _ h=>?_
    ·dsimp only [go_sem];refine Zo2 4 ?_;dsimp only [go_sem];refine An ?_;refine Zh4 20 h rfl (fun _ h=>?_) fun _ h=>?_
     ·dsimp only [go_sem];refine Zo2 6 ?_;dsimp only [go_sem];refine An ?_;exact Zk4 J1 (s:=x2.Dirty) h
     ·dsimp only [go_sem];refine Zo2 6 ?_;dsimp only [go_sem];refine An ?_;exact Zk4 J1 (s:=false) h
    ·dsimp only [go_sem];refine Zo2 10 ?_;dsimp only [go_sem];refine An ?_;exact Zk4 J1 (s:=false) h
  ·dsimp only [go_sem];refine Zo2 9 ?_;dsimp only [go_sem];refine An ?_;refine Zh4 16 h rfl (fun _ h=>?_) fun _ h=>?_
   ·dsimp only [go_sem];refine Zo2 4 ?_;dsimp only [go_sem];refine An ?_;refine Zh4 20 h rfl (fun _ h=>?_) fun _ h=>?_
    ·dsimp only [go_sem];refine Zo2 6 ?_;dsimp only [go_sem];refine An ?_;exact Zk4 J1 (s:=x2.Dirty) h
    ·dsimp only [go_sem];refine Zo2 6 ?_;dsimp only [go_sem];refine An ?_;exact Zk4 J1 (s:=false) h
   ·dsimp only [go_sem];refine Zo2 10 ?_;dsimp only [go_sem];refine An ?_;exact Zk4 J1 (s:=false) h
set_option maxRecDepth 100000
set_option maxHeartbeats 4000000
@[go_sem] def e86_L0:EC:=.seq (.reg [(Qa 9 (.bin .lss (.t 8) (.t 7)))]) (.seq (.ite (.t 9) (.skip) (.exit 0)) (.seq (.blk 1 (.seq (.reg [(Qm 10 8),(Qm 5 10)]) (.seq (.drw [(Qe 11 5 3),(Qm 12 0),(Qm 13 5),(Qk 14 5 12 13),(Qe 15 5 14),(Qa 16 (.eqs false [true,true,true,true,true] (.t 11) (.t 15)))] [[],[],[],[1,2],[3],[0,4]] [[5],[3],[3],[1,2,4],[3,5],[0,4]]) (.ite (.t 16) (.seq (.reg [(Qm 17 5),(Qm 4 17)]) (.ret)) (.skip))))) (.reg [(Qv 18 8 1),(Qm 8 18)])))
@[go_sem] def e86:EC:=.seq (.reg [(Qx 3 97 5 1),(Qi 4 0)]) (.seq (.seq (.reg [(Qm 6 0),(Qa 7 (.len (.t 6))),(Qi 8 0)]) (.blk 0 (.loop e86_L0))) (.seq (.reg [(Qa 4 (.mv (.c (.iv (-1)))))]) (.ret)))
theorem ok86:FnOK Try.prog 86 Try.f86 e86 [.t 4] 2 17:=⟨by kernel_rfl,⟨_,rfl,by kernel_rfl⟩,by kernel_rfl,by kernel_rfl⟩
noncomputable def Z9a:Unit→Option Int
| ()=>
 some (-1)
noncomputable def Zaa (x1:(List Mail)) (x2:Mail):Int→Option (Int ⊕ Int)
| x5=>
 ifb (decide (x5<(ln Mail.row x1))) (
 (at_ x1 x5).bind fun x6=>
 ifb (decide (x2.From=x6.From)&&(decide (x2.To=x6.To)&&(decide (x2.Msg.Kind=x6.Msg.Kind)&&(decide (x2.Msg.Epoch=x6.Msg.Epoch)&&(decide (x2.Msg.Num=x6.Msg.Num)&&true))))) (
 Option.map Sum.inr (some x5)) (
 some (.inl (wr (x5+1))))) (
 Option.map Sum.inr (Z9a ()))
noncomputable def Zba (x1:(List Mail)) (x2:Mail):Option Int:=
 loop (Zaa x1 x2) 0
theorem Zca (x1:(List Mail)) (x2:Mail) (r:Int) (h:Zba x1 x2=some r):Zu2 Try.prog 86 [.sl 5 (List.map Mail.row x1),.agg (Mail.row x2)] (.iv r):=by
 refine Zx2 ok86 rfl rfl fun w0 H0=>?_
 rw [Zba] at h
 refine Zo2 12 ?_;dsimp only [go_sem];refine An ?_;refine Z94 (fun (_:Unit)=>(⟨(an 19 []),[],[]⟩:St)) Z9a r ?_ fun J1=>?_
 ·rintro ⟨⟩ h;rw [Z9a] at h;(try dsimp only);refine Zo2 4 ?_;dsimp only [go_sem];refine An ?_;exact Zi4 (res:=fun (r:Int)=>.iv r) ok86 h
 ·refine Zo2 1 ?_;dsimp only [go_sem];refine An ?_;refine Za4 h (fun (x5:Int)=>(⟨(.sl 5 (List.map Mail.row x1) :: .any :: .any :: .ptr 0 0::an 3 (.iv (ln Mail.row x1) :: .iv x5::an 10 [])),[some ⟨97,[.iv x2.From,.iv x2.To,.iv x2.Msg.Kind,.iv x2.Msg.Epoch,.iv x2.Msg.Num]⟩],[]⟩:St)) (by simp [go_sem]) (by intro x5;first | rfl | simp [go_sem]) ?_;rintro n1 x5 y1 h hin1 hout1;rw [Zaa] at h;(try dsimp only);refine Zo2 5 ?_;dsimp only [go_sem];refine An ?_;refine Zb4 h rfl (fun _ h=>?_) fun _ h=>?_
  ·refine Zo2 9 ?_;dsimp only [go_sem];refine An ?_;refine Zi3 (by kernel_rfl) fun all hall hs hnap haf=>?_;dsimp only [go_sem];refine Zv4 hall hs haf hnap 3 3 ?_;dsimp only [go_sem];refine An ?_;obtain ⟨x6,ex6,h⟩:=Bs h;refine Zf4 hall hs haf hnap 3 Mail.row ex6 rfl rfl trivial rfl rfl rfl rfl ?_;refine Zv4 hall hs haf hnap 2 0 ?_;dsimp only [go_sem];refine An ?_;refine Zs3 rfl ?_ _;refine Zb4 h rfl (fun _ h=>?_) fun _ h=>?_
   ·refine Zo2 5 ?_;dsimp only [go_sem];refine An ?_;exact Zi4 (res:=fun (r:Int)=>.iv r) ok86 (Z84 h hout1)
   ·refine Zo2 6 ?_;dsimp only [go_sem];refine An ?_;exact Zj4 h hin1
  ·refine Zo2 1 ?_;dsimp only [go_sem];refine An ?_;exact Zk4 J1 (s:=()) (Z84 h hout1)
set_option maxRecDepth 100000
set_option maxHeartbeats 4000000
@[go_sem] def e61:EC:=.seq (.reg [(Qx 3 97 5 1),(Qa 4 (.mv (.c .ff)))]) (.seq (.reg [(Qm 5 0),(Qe 6 5 3),(Qa 7 (.call 86 [(.t 5),(.t 6)])),(Qa 8 (.bin .geq (.t 7) (.c (.iv 0)))),(Qm 4 8)]) (.ret))
theorem ok61:FnOK Try.prog 61 Try.f61 e61 [.t 4] 2 7:=⟨by kernel_rfl,⟨_,rfl,by kernel_rfl⟩,by kernel_rfl,by kernel_rfl⟩
noncomputable def Zda (x1:(List Mail)) (x2:Mail):Option Bool:=
 (Zba x1 x2).bind fun x3=>
 some (decide (0≤x3))
theorem Zea (x1:(List Mail)) (x2:Mail) (r:Bool) (h:Zda x1 x2=some r):Zu2 Try.prog 61 [.sl 5 (List.map Mail.row x1),.agg (Mail.row x2)] (.bv r):=by
 refine Zx2 ok61 rfl rfl fun w0 H0=>?_
 rw [Zda] at h
 refine Zo2 9 ?_;dsimp only [go_sem];refine An ?_;obtain ⟨x3,ex3,h⟩:=Bs h;refine Z23 trivial (Zca x1 x2 _ ex3) (h:=?_);refine Zo2 3 ?_;dsimp only [go_sem];refine An ?_;exact Zi4 (res:=fun (r:Bool)=>.bv r) ok61 h
set_option maxRecDepth 100000
set_option maxHeartbeats 4000000
@[go_sem] def e29_L1:EC:=.seq (.reg [(Qa 28 (.bin .lss (.t 27) (.t 26)))]) (.seq (.ite (.t 28) (.skip) (.exit 2)) (.seq (.blk 3 (.seq (.reg [(Qk 29 3 25 27),(Qe 30 3 29),(Qa 7 (.alloc 39 [.iv 0,.iv 0,.nl])),(Qs 3 7 30)]) (.seq (.reg [(Qe 32 3 5),(Qf 33 0 7),(Ql 34 33),(Qa 35 (.call 24 [(.t 32),(.t 34)])),(Qm 31 35),(Qa 36 (.ext (.t 31) 0)),(Qa 37 (.ext (.t 31) 1)),(Qa 8 (.alloc 49 [.iv 0,.iv 0,.iv 0,.ff,.ff,.ff,.ff,.ff])),(Qs 8 8 36),(Qm 9 37)]) (.seq (.reg [(Qe 39 3 7),(Qf 40 0 5),(Ql 41 40),(Qa 42 (.call 24 [(.t 39),(.t 41)])),(Qm 38 42),(Qa 43 (.ext (.t 38) 0)),(Qa 44 (.ext (.t 38) 1)),(Qa 10 (.alloc 49 [.iv 0,.iv 0,.iv 0,.ff,.ff,.ff,.ff,.ff])),(Qs 8 10 43),(Qm 11 44)]) (.seq (.seq (.reg [(Qm 45 9),(Qa 46 (.not (.t 45))),(Qm 47 46),(Qg 48 47 false (.mv (.t 11))),(Qg 49 47 false (.not (.t 48))),(Qq 50 47 49),(Qm 51 50),(Qh 52 51 false 1 8),(Qn 53 51 false 52),(Qh 54 51 false 1 10),(Qn 55 51 false 54),(Qg 56 51 false (.bin .neq (.t 53) (.t 55))),(Qq 57 51 56)]) (.ite (.t 57) (.exit 3) (.skip))) (.seq (.reg [(Qf 58 1 8),(Ql 59 58),(Qa 60 (.build [.iv 0,.iv 0,.iv 0] [(0,1,(.c (.iv 1))),(1,1,(.t 59))])),(Qa 12 (.alloc 93 [.iv 0,.iv 0,.iv 0])),(Qs 3 12 60)]) (.blk 4 (.seq (.seq (.reg [(Qe 62 8 8),(Qe 63 8 10),(Qa 64 (.call 60 [(.t 62),(.t 63)])),(Qm 61 64)]) (.ite (.t 61) (.skip) (.reg [(Qf 65 3 8),(Ql 66 65),(Qa 67 (.not (.t 66))),(Qm 68 67),(Qh 69 68 true 3 10),(Qn 70 68 true 69),(Qg 71 68 true (.not (.t 70))),(Qp 72 68 71),(Qm 73 72),(Qh 74 73 true 1 1),(Qn 75 73 true 74),(Qh 76 73 true 0 7),(Qn 77 73 true 76),(Qh 78 73 true 0 5),(Qn 79 73 true 78),(Qg 80 73 true (.loadA 3 (.t 12))),(Qg 81 73 true (.build [.iv 0,.iv 0,.iv 0,.iv 0,.iv 0] [(0,1,(.t 77)),(1,1,(.t 79)),(2,3,(.t 80))])),(Qg 82 73 true (.call 61 [(.t 75),(.t 81)])),(Qp 83 73 82),(Qm 61 83)]))) (.ite (.t 61) (.reg [(Qm 84 3),(Qf 85 0 5),(Ql 86 85),(Qf 87 0 7),(Ql 88 87),(Qa 89 (.build [.iv 0,.iv 0] [(0,1,(.t 86)),(1,1,(.t 88))])),(Qa 90 (.bsl 62 2 1 [.iv 0,.iv 0] [(0,(.t 89))])),(Qa 91 (.app 62 2 16 (.t 84) (.t 90))),(Qm 3 91)]) (.seq (.seq (.reg [(Qe 93 8 10),(Qe 94 8 8),(Qa 95 (.call 60 [(.t 93),(.t 94)])),(Qm 92 95)]) (.ite (.t 92) (.skip) (.reg [(Qf 96 3 8),(Ql 97 96),(Qa 98 (.not (.t 97))),(Qm 99 98),(Qh 100 99 true 3 10),(Qn 101 99 true 100),(Qg 102 99 true (.not (.t 101))),(Qp 103 99 102),(Qm 104 103),(Qh 105 104 true 1 1),(Qn 106 104 true 105),(Qh 107 104 true 0 5),(Qn 108 104 true 107),(Qh 109 104 true 0 7),(Qn 110 104 true 109),(Qg 111 104 true (.loadA 3 (.t 12))),(Qg 112 104 true (.build [.iv 0,.iv 0,.iv 0,.iv 0,.iv 0] [(0,1,(.t 108)),(1,1,(.t 110)),(2,3,(.t 111))])),(Qg 113 104 true (.call 61 [(.t 106),(.t 112)])),(Qp 114 104 113),(Qm 92 114)]))) (.ite (.t 92) (.reg [(Qm 115 3),(Qf 116 0 7),(Ql 117 116),(Qf 118 0 5),(Ql 119 118),(Qa 120 (.build [.iv 0,.iv 0] [(0,1,(.t 117)),(1,1,(.t 119))])),(Qa 121 (.bsl 62 2 1 [.iv 0,.iv 0] [(0,(.t 120))])),(Qa 122 (.app 62 2 16 (.t 115) (.t 121))),(Qm 3 122)]) (.skip)))))))))))) (.reg [(Qv 123 27 1),(Qm 27 123)])))
@[go_sem] def e29_L0:EC:=.seq (.reg [(Qa 17 (.bin .lss (.t 16) (.t 15)))]) (.seq (.ite (.t 17) (.skip) (.exit 0)) (.seq (.blk 1 (.seq (.reg [(Qm 18 16),(Qk 19 3 14 16),(Qe 20 3 19),(Qa 5 (.alloc 39 [.iv 0,.iv 0,.nl])),(Qm 4 18),(Qs 3 5 20)]) (.seq (.reg [(Qf 21 0 1),(Ql 22 21),(Qm 23 4),(Qv 24 23 1),(Qa 25 (.slice 3 (.t 22) (some (.t 24)) none)),(Qa 26 (.len (.t 25))),(Qi 27 0)]) (.blk 2 (.loop e29_L1))))) (.reg [(Qv 124 16 1),(Qm 16 124)])))
@[go_sem] def e29:EC:=.seq (.reg [(Qx 1 43 2 0),(Qa 2 (.mv (.c .nl)))]) (.seq (.reg [(Qa 3 (.mv (.c .nl)))]) (.seq (.seq (.reg [(Qf 13 0 1),(Ql 14 13),(Qa 15 (.len (.t 14))),(Qi 16 0)]) (.blk 0 (.loop e29_L0))) (.seq (.reg [(Qm 125 3),(Qm 2 125)]) (.ret))))
theorem ok29:FnOK Try.prog 29 Try.f29 e29 [.t 2] 1 125:=⟨by kernel_rfl,⟨_,rfl,by kernel_rfl⟩,by kernel_rfl,by kernel_rfl⟩
noncomputable def Zfa:(List Arc)→Option (List Arc)
| x100=>
 some x100
noncomputable def Zga (x47:Int):(List Arc)→Option ((Int×(List Arc)) ⊕ (List Arc))
| x92=>
 some (.inl (wr (x47+1),x92))
noncomputable def Zha (x66:Int):(List Arc)→Option ((Int×(List Arc)) ⊕ ((Int×(List Arc)) ⊕ (List Arc)))
| x80=>
 some (.inl (wr (x66+1),x80))
noncomputable def Zia (x49:Diner) (x66:Int) (x67:(List Arc)) (x68:Diner):Bool→Option ((Int×(List Arc)) ⊕ ((Int×(List Arc)) ⊕ (List Arc)))
| x78=>
 ifb x78 (
 (app_ 16 x67 ([(Arc.mk x68.ID x49.ID)])).bind fun x79=>
 (Zha x66) x79) (
 (Zha x66) x67)
noncomputable def Zja (x1:Scene) (x49:Diner) (x66:Int) (x67:(List Arc)) (x68:Diner) (x69:(Side×Bool)) (x70:(Side×Bool)):Bool→Option ((Int×(List Arc)) ⊕ ((Int×(List Arc)) ⊕ (List Arc)))
| x74=>
 ifb x74 (
 (app_ 16 x67 ([(Arc.mk x49.ID x68.ID)])).bind fun x75=>
 (Zha x66) x75) (
 (Z7a x70.1 x69.1).bind fun x76=>
 ifb x76 (
 (Zia x49 x66 x67 x68) x76) (
 ifb (!x69.1.Fork) (
 ifb (!x70.1.Fork) (
 (Zda x1.Mail ((Mail.mk x49.ID x68.ID ((Msg.mk 1 x69.1.Epoch 0))))).bind fun x77=>
 (Zia x49 x66 x67 x68) x77) (
 (Zia x49 x66 x67 x68) false)) (
 (Zia x49 x66 x67 x68) false)))
noncomputable def Zka (x1:Scene) (x49:Diner) (x66:Int) (x67:(List Arc)) (x68:Diner) (x69:(Side×Bool)) (x70:(Side×Bool)):Bool→Option ((Int×(List Arc)) ⊕ ((Int×(List Arc)) ⊕ (List Arc)))
| x71=>
 ifb x71 (
 (Zha x66) x67) (
 (Z7a x69.1 x70.1).bind fun x72=>
 ifb x72 (
 (Zja x1 x49 x66 x67 x68 x69 x70) x72) (
 ifb (!x69.1.Fork) (
 ifb (!x70.1.Fork) (
 (Zda x1.Mail ((Mail.mk x68.ID x49.ID ((Msg.mk 1 x69.1.Epoch 0))))).bind fun x73=>
 (Zja x1 x49 x66 x67 x68 x69 x70) x73) (
 (Zja x1 x49 x66 x67 x68 x69 x70) false)) (
 (Zja x1 x49 x66 x67 x68 x69 x70) false)))
noncomputable def Zla (x1:Scene) (x47:Int) (x49:Diner) (x50:(List Diner)):(Int×(List Arc))→Option ((Int×(List Arc)) ⊕ ((Int×(List Arc)) ⊕ (List Arc)))
| (x66,x67)=>
 ifb (decide (x66<(ln Diner.row x50))) (
 (at_ x50 x66).bind fun x68=>
 (Zs6 x49 x68.ID).bind fun x69=>
 (Zs6 x68 x49.ID).bind fun x70=>
 ifb (!x69.2) (
 (Zka x1 x49 x66 x67 x68 x69 x70) true) (
 ifb (!x70.2) (
 (Zka x1 x49 x66 x67 x68 x69 x70) true) (
 (Zka x1 x49 x66 x67 x68 x69 x70) (!decide (x69.1.Epoch=x70.1.Epoch))))) (
 Option.map Sum.inr ((Zga x47) x67))
noncomputable def Zma (x1:Scene):(Int×(List Arc))→Option ((Int×(List Arc)) ⊕ (List Arc))
| (x47,x48)=>
 ifb (decide (x47<(ln Diner.row x1.Diners))) (
 (at_ x1.Diners x47).bind fun x49=>
 (sub_ x1.Diners (wr (x47+1)) (ln Diner.row x1.Diners)).bind fun x50=>
 loop (Zla x1 x47 x49 x50) (0,x48)) (
 Option.map Sum.inr (Zfa x48))
noncomputable def Zna (x1:Scene):Option (List Arc):=
 loop (Zma x1) (0,([]:List Arc))
theorem o_place_Arcs (x1:Scene) (r:(List Arc)) (h:Zna x1=some r):FunO Try.prog 29 [.agg (Scene.row x1)] 62 2 (List.map Arc.row r):=by
 refine Zu4 ok29 rfl fun w0 H0=>?_
 rw [Zna] at h
 refine Zo2 17 ?_;dsimp only [go_sem];refine An ?_;refine Z94 (fun (x100:(List Arc))=>(⟨(an 3 (.osl 0::an 122 [])),[],[some ⟨62,2,List.map Arc.row x100⟩]⟩:St)) Zfa r ?_ fun J1=>?_
 ·intro x100 h;rw [Zfa] at h;(try dsimp only);refine Zo2 5 ?_;dsimp only [go_sem];refine An ?_;exact O_doneM Arc.row ok29 h rfl rfl
 ·refine Zo2 1 ?_;dsimp only [go_sem];refine An ?_;refine V_own 3 62 2 rfl rfl ?_;dsimp only [go_sem];refine Za4 h (fun ((x47,x48):(Int×(List Arc)))=>(⟨(.any :: .ptr 0 0 :: .any :: .osl 0::an 10 (.sl 3 (List.map Diner.row x1.Diners) :: .iv (ln Diner.row x1.Diners) :: .iv x47::an 109 [])),[some ⟨43,[.sl 3 (List.map Diner.row x1.Diners),.sl 5 (List.map Mail.row x1.Mail)]⟩],[some ⟨62,2,List.map Arc.row x48⟩]⟩:St)) (by simp [go_sem]) (by rintro ⟨x47,x48⟩;first | rfl | simp [go_sem]) ?_;rintro n1 ⟨x47,x48⟩ y1 h hin1 hout1;rw [Zma] at h;(try dsimp only)
  refine Zo2 5 ?_;dsimp only [go_sem];refine An ?_;refine Zb4 h rfl (fun _ h=>?_) fun _ h=>?_
  ·refine Zo2 6 ?_;dsimp only [go_sem];refine An ?_;obtain ⟨x49,ex49,h⟩:=Bs h;refine Ze4 Diner.row ex49 trivial rfl rfl rfl ?_;refine Zo2 11 ?_;dsimp only [go_sem];refine An ?_;obtain ⟨x50,ex50,h⟩:=Bs h;refine V_sliceM Diner.row ex50 trivial rfl rfl rfl rfl ?_;refine Zo2 3 ?_;dsimp only [go_sem];refine An ?_
   refine Z94 (fun (x92:(List Arc))=>(⟨(.any :: .ptr 0 0 :: .any :: .osl 0::an 10 (.sl 3 (List.map Diner.row x1.Diners) :: .iv (ln Diner.row x1.Diners) :: .iv x47::an 109 [])),[some ⟨43,[.sl 3 (List.map Diner.row x1.Diners),.sl 5 (List.map Mail.row x1.Mail)]⟩],[some ⟨62,2,List.map Arc.row x92⟩]⟩:St)) (Zga x47) y1 ?_ fun J2=>?_
   ·intro x92 h;rw [Zga] at h;(try dsimp only);refine Zo2 5 ?_;dsimp only [go_sem];refine An ?_;exact Zj4 h hin1
   ·refine Zo2 1 ?_;dsimp only [go_sem];refine An ?_
    refine Za4 h (fun ((x66,x67):(Int×(List Arc)))=>(⟨(.any :: .ptr 0 0 :: .any :: .osl 0 :: .any :: .ptr 1 0::an 8 (.sl 3 (List.map Diner.row x1.Diners) :: .iv (ln Diner.row x1.Diners) :: .iv x47::an 8 (.sl 3 (List.map Diner.row x50) :: .iv (ln Diner.row x50) :: .iv x66::an 98 []))),[some ⟨43,[.sl 3 (List.map Diner.row x1.Diners),.sl 5 (List.map Mail.row x1.Mail)]⟩,some ⟨39,[.iv x49.ID,.iv x49.Phase,.sl 8 (List.map Side.row x49.Sides)]⟩],[some ⟨62,2,List.map Arc.row x67⟩]⟩:St)) (by simp [go_sem]) (by rintro ⟨x66,x67⟩;first | rfl | simp [go_sem]) ?_
    rintro n2 ⟨x66,x67⟩ y2 h hin2 hout2;rw [Zla] at h;(try dsimp only);refine Zo2 5 ?_;dsimp only [go_sem];refine An ?_;refine Zb4 h rfl (fun _ h=>?_) fun _ h=>?_
    ·refine Zo2 2 ?_;dsimp only [go_sem];refine An ?_;refine Z94 (fun (x80:(List Arc))=>(⟨(.any :: .ptr 0 0 :: .any :: .osl 0 :: .any :: .ptr 1 0::an 8 (.sl 3 (List.map Diner.row x1.Diners) :: .iv (ln Diner.row x1.Diners) :: .iv x47::an 8 (.sl 3 (List.map Diner.row x50) :: .iv (ln Diner.row x50) :: .iv x66::an 98 []))),[some ⟨43,[.sl 3 (List.map Diner.row x1.Diners),.sl 5 (List.map Mail.row x1.Mail)]⟩,some ⟨39,[.iv x49.ID,.iv x49.Phase,.sl 8 (List.map Side.row x49.Sides)]⟩],[some ⟨62,2,List.map Arc.row x80⟩]⟩:St)) (Zha x66) y2 ?_ fun J3=>?_
     ·intro x80 h;rw [Zha] at h;(try dsimp only);refine Zo2 4 ?_;dsimp only [go_sem];refine An ?_;exact Zj4 h hin2
     ·refine Zo2 3 ?_;dsimp only [go_sem];refine An ?_;obtain ⟨x68,ex68,h⟩:=Bs h;refine Ze4 Diner.row ex68 trivial rfl rfl rfl ?_;refine Zo2 9 ?_;dsimp only [go_sem];refine An ?_;obtain ⟨x69,ex69,h⟩:=Bs h;refine Z23 trivial (Zt6 x49 x68.ID _ ex69) (h:=?_);refine Zo2 12 ?_;dsimp only [go_sem];refine An ?_;obtain ⟨x70,ex70,h⟩:=Bs h;refine Z23 trivial (Zt6 x68 x49.ID _ ex70) (h:=?_);refine Zo2 13 ?_;dsimp only [go_sem];refine An ?_
      refine Z94 (fun (x71:Bool)=>(⟨(.any :: .ptr 0 0 :: .any :: .osl 0 :: .any :: .ptr 1 0 :: .any :: .ptr 2 0 :: .ptr 3 0 :: .any :: .ptr 4 0::an 3 (.sl 3 (List.map Diner.row x1.Diners) :: .iv (ln Diner.row x1.Diners) :: .iv x47::an 8 (.sl 3 (List.map Diner.row x50) :: .iv (ln Diner.row x50) :: .iv x66::an 29 (.bv x71::an 68 [])))),[some ⟨43,[.sl 3 (List.map Diner.row x1.Diners),.sl 5 (List.map Mail.row x1.Mail)]⟩,some ⟨39,[.iv x49.ID,.iv x49.Phase,.sl 8 (List.map Side.row x49.Sides)]⟩,some ⟨39,[.iv x68.ID,.iv x68.Phase,.sl 8 (List.map Side.row x68.Sides)]⟩,some ⟨49,[.iv x69.1.Peer,.iv x69.1.Epoch,.iv x69.1.State,.bv x69.1.Fork,.bv x69.1.Dirty,.bv x69.1.Token,.bv x69.1.Bottle,.bv x69.1.Ask]⟩,some ⟨49,[.iv x70.1.Peer,.iv x70.1.Epoch,.iv x70.1.State,.bv x70.1.Fork,.bv x70.1.Dirty,.bv x70.1.Token,.bv x70.1.Bottle,.bv x70.1.Ask]⟩],[some ⟨62,2,List.map Arc.row x67⟩]⟩:St)) (Zka x1 x49 x66 x67 x68 x69 x70) y2 ?_ fun J4=>?_
      ·intro x71 h;rw [Zka] at h;(try dsimp only);refine Zb4 h rfl (fun _ h=>?_) fun _ h=>?_
       ·refine Zo2 1 ?_;dsimp only [go_sem];refine An ?_;exact Zk4 J3 (s:=x67) h
       ·refine Zo2 15 ?_;dsimp only [go_sem];refine An ?_;obtain ⟨x72,ex72,h⟩:=Bs h;refine Z23 trivial (Z8a x69.1 x70.1 _ ex72) (h:=?_);refine Zo2 2 ?_;dsimp only [go_sem];refine An ?_
        refine Z94 (fun (x74:Bool)=>(⟨(.any :: .ptr 0 0 :: .any :: .osl 0 :: .any :: .ptr 1 0 :: .any :: .ptr 2 0 :: .ptr 3 0 :: .any :: .ptr 4 0 :: .any :: .ptr 5 0 :: .any :: .sl 3 (List.map Diner.row x1.Diners) :: .iv (ln Diner.row x1.Diners) :: .iv x47::an 8 (.sl 3 (List.map Diner.row x50) :: .iv (ln Diner.row x50) :: .iv x66::an 33 (.bv x74::an 64 []))),[some ⟨43,[.sl 3 (List.map Diner.row x1.Diners),.sl 5 (List.map Mail.row x1.Mail)]⟩,some ⟨39,[.iv x49.ID,.iv x49.Phase,.sl 8 (List.map Side.row x49.Sides)]⟩,some ⟨39,[.iv x68.ID,.iv x68.Phase,.sl 8 (List.map Side.row x68.Sides)]⟩,some ⟨49,[.iv x69.1.Peer,.iv x69.1.Epoch,.iv x69.1.State,.bv x69.1.Fork,.bv x69.1.Dirty,.bv x69.1.Token,.bv x69.1.Bottle,.bv x69.1.Ask]⟩,some ⟨49,[.iv x70.1.Peer,.iv x70.1.Epoch,.iv x70.1.State,.bv x70.1.Fork,.bv x70.1.Dirty,.bv x70.1.Token,.bv x70.1.Bottle,.bv x70.1.Ask]⟩,some ⟨93,[.iv 1,.iv x69.1.Epoch,.iv 0]⟩],[some ⟨62,2,List.map Arc.row x67⟩]⟩:St)) (Zja x1 x49 x66 x67 x68 x69 x70) y2 ?_ fun J5=>?_
        ·intro x74 h;rw [Zja] at h;(try dsimp only);refine Zb4 h rfl (fun _ h=>?_) fun _ h=>?_
         ·refine Zo2 8 ?_;dsimp only [go_sem];refine An ?_;obtain ⟨x75,ex75,h⟩:=Bs h;refine Zg4 Arc.row ex75 trivial rfl rfl rfl ?_;refine Zo2 4 ?_;dsimp only [go_sem];refine An ?_;refine V_ren 2 0 rfl rfl rfl ?_;dsimp only [go_sem];exact Zk4 J3 (s:=x75) h
         ·refine Zo2 5 ?_;dsimp only [go_sem];refine An ?_;obtain ⟨x76,ex76,h⟩:=Bs h;refine Z23 trivial (Z8a x70.1 x69.1 _ ex76) (h:=?_);refine Zo2 2 ?_;dsimp only [go_sem];refine An ?_
          refine Z94 (fun (x78:Bool)=>(⟨(.any :: .ptr 0 0 :: .any :: .osl 0 :: .any :: .ptr 1 0 :: .any :: .ptr 2 0::an 6 (.sl 3 (List.map Diner.row x1.Diners) :: .iv (ln Diner.row x1.Diners) :: .iv x47::an 8 (.sl 3 (List.map Diner.row x50) :: .iv (ln Diner.row x50) :: .iv x66::an 64 (.bv x78::an 33 [])))),[some ⟨43,[.sl 3 (List.map Diner.row x1.Diners),.sl 5 (List.map Mail.row x1.Mail)]⟩,some ⟨39,[.iv x49.ID,.iv x49.Phase,.sl 8 (List.map Side.row x49.Sides)]⟩,some ⟨39,[.iv x68.ID,.iv x68.Phase,.sl 8 (List.map Side.row x68.Sides)]⟩],[some ⟨62,2,List.map Arc.row x67⟩]⟩:St)) (Zia x49 x66 x67 x68) y2 ?_ fun J6=>?_
          ·intro x78 h;rw [Zia] at h;(try dsimp only);refine Zb4 h rfl (fun _ h=>?_) fun _ h=>?_
           ·refine Zo2 8 ?_;dsimp only [go_sem];refine An ?_;obtain ⟨x79,ex79,h⟩:=Bs h;refine Zg4 Arc.row ex79 trivial rfl rfl rfl ?_;refine Zo2 4 ?_;dsimp only [go_sem];refine An ?_;refine V_ren 2 0 rfl rfl rfl ?_;dsimp only [go_sem];exact Zk4 J3 (s:=x79) h
           ·refine Zo2 3 ?_;dsimp only [go_sem];refine An ?_;exact Zk4 J3 (s:=x67) h
          ·refine Zb4 h rfl (fun _ h=>?_) fun _ h=>?_
           ·refine Zo2 1 ?_;dsimp only [go_sem];refine An ?_;exact Zk4 J6 (s:=x76) h
           ·refine Zo2 5 ?_;dsimp only [go_sem];refine An ?_;refine Zh4 99 h rfl (fun _ h=>?_) fun _ h=>?_
            ·dsimp only [go_sem];refine Zo2 5 ?_;dsimp only [go_sem];refine An ?_;refine Zh4 104 h rfl (fun _ h=>?_) fun _ h=>?_
             ·dsimp only [go_sem];refine Zo2 8 ?_;dsimp only [go_sem];refine An ?_;obtain ⟨x77,ex77,h⟩:=Bs h;refine Z23 trivial (Zea x1.Mail ((Mail.mk x49.ID x68.ID ((Msg.mk 1 x69.1.Epoch 0)))) _ ex77) (h:=?_);refine Zo2 3 ?_;dsimp only [go_sem];refine An ?_;exact Zk4 J6 (s:=x77) h
             ·dsimp only [go_sem];refine Zo2 12 ?_;dsimp only [go_sem];refine An ?_;exact Zk4 J6 (s:=false) h
            ·dsimp only [go_sem];refine Zo2 17 ?_;dsimp only [go_sem];refine An ?_;exact Zk4 J6 (s:=false) h
        ·refine Zb4 h rfl (fun _ h=>?_) fun _ h=>?_
         ·refine Zo2 1 ?_;dsimp only [go_sem];refine An ?_;exact Zk4 J5 (s:=x72) h
         ·refine Zo2 5 ?_;dsimp only [go_sem];refine An ?_;refine Zh4 68 h rfl (fun _ h=>?_) fun _ h=>?_
          ·dsimp only [go_sem];refine Zo2 5 ?_;dsimp only [go_sem];refine An ?_;refine Zh4 73 h rfl (fun _ h=>?_) fun _ h=>?_
           ·dsimp only [go_sem];refine Zo2 8 ?_;dsimp only [go_sem];refine An ?_;obtain ⟨x73,ex73,h⟩:=Bs h;refine Z23 trivial (Zea x1.Mail ((Mail.mk x68.ID x49.ID ((Msg.mk 1 x69.1.Epoch 0)))) _ ex73) (h:=?_);refine Zo2 3 ?_;dsimp only [go_sem];refine An ?_;exact Zk4 J5 (s:=x73) h
           ·dsimp only [go_sem];refine Zo2 12 ?_;dsimp only [go_sem];refine An ?_;exact Zk4 J5 (s:=false) h
          ·dsimp only [go_sem];refine Zo2 17 ?_;dsimp only [go_sem];refine An ?_;exact Zk4 J5 (s:=false) h
      ·refine Zh4 47 h rfl (fun _ h=>?_) fun _ h=>?_
       ·dsimp only [go_sem];refine Zo2 11 ?_;dsimp only [go_sem];refine An ?_;exact Zk4 J4 (s:=true) h
       ·dsimp only [go_sem];refine Zo2 4 ?_;dsimp only [go_sem];refine An ?_;refine Zh4 51 h rfl (fun _ h=>?_) fun _ h=>?_
        ·dsimp only [go_sem];refine Zo2 7 ?_;dsimp only [go_sem];refine An ?_;exact Zk4 J4 (s:=true) h
        ·dsimp only [go_sem];refine Zo2 7 ?_;dsimp only [go_sem];refine An ?_;exact Zk4 J4 (s:=!decide (x69.1.Epoch=x70.1.Epoch)) h
    ·refine Zo2 1 ?_;dsimp only [go_sem];refine An ?_;exact Zk4 J2 (s:=x67) (Z84 h hout2)
  ·refine Zo2 1 ?_;dsimp only [go_sem];refine An ?_;exact Zk4 J1 (s:=x48) (Z84 h hout1)
theorem Zoa (x1:Scene) (r:(List Arc)) (h:Zna x1=some r):Zu2 Try.prog 29 [.agg (Scene.row x1)] (.sl 2 (List.map Arc.row r)):=(o_place_Arcs x1 r h).sealed
theorem Zpa (l:List Mail) (x:Mail) (hl:l.length≤1000000):Zda l x=some (decide (x∈l)):=by
 have h1:Zba l x=some (plc (l.findIdx? fun y=>decide (x=y))):=by
  unfold Zba
  refine Zk5 l _ (fun y=>decide (x=y)) (by omega) (fun k y hy=>?_) ?_
  ·simp only [Zaa,Zd5 hy,Z85,Zb5 hy,Option.bind_some,Mail_eqB,Zg5 hy (show l.length≤4000000000000000000 by omega)]
   cases decide (x=y)<;>rfl
  ·simp only [Zaa,Ze5,Z95,Z9a,Option.map_some]
 simp only [Zda,h1,Option.bind_some,Zi5,Zl5]
 congr 1
 rw [Bool.eq_iff_iff,List.any_eq_true,decide_eq_true_iff]
 constructor
 ·rintro ⟨y,hy,h⟩
  have:x=y:=by simpa using h
  exact this ▸ hy
 ·intro h;exact ⟨x,h,by simp⟩
def Zqa (x y:Side):Bool:=(x.Fork&&!x.Dirty)||(!x.Fork&&(y.Fork&&y.Dirty))
theorem Zra (x y:Side):Z7a x y=some (Zqa x y):=by
 unfold Z7a Z6a Zqa
 cases x.Fork<;>cases x.Dirty<;>cases y.Fork<;>cases y.Dirty<;>rfl
def Zsa (a b:Diner) (e:Int):Mail:=⟨a.ID,b.ID,⟨1,e,0⟩⟩
def Zta (mail:List Mail) (a b:Diner):List Arc:=
 match Z47 a b.ID,Z47 b a.ID with
 | some x,some y=>if decide (x.Epoch=y.Epoch) then
    (if Zqa x y||(!x.Fork&&(!y.Fork&&decide (Zsa b a x.Epoch∈mail))) then [⟨a.ID,b.ID⟩] else
     if Zqa y x||(!x.Fork&&(!y.Fork&&decide (Zsa a b x.Epoch∈mail))) then [⟨b.ID,a.ID⟩] else []) else []
 | _,_=>[]
theorem Zua (mail:List Mail) (a b:Diner):(Zta mail a b).length≤1:=by
 unfold Zta
 split
 ·split
  ·split
   ·simp
   ·split<;>simp
  ·simp
 ·simp
theorem flat_len (mail:List Mail) (a:Diner) (l:List Diner):(l.flatMap (Zta mail a)).length≤l.length:=by
 induction l with
 | nil=>simp
 | cons b l ih=>have:=Zua mail a b;rw [List.flatMap_cons,List.length_append,List.length_cons];omega
def Zva (mail:List Mail) (l:List Diner):Nat→List Arc
 | 0=>[]
 | k+1=>Zva mail l k++(match l[k]? with | some a=>(l.drop (k+1)).flatMap (Zta mail a) | none=>[])
def Zwa (s:Scene):List Arc:=Zva s.Mail s.Diners s.Diners.length
theorem arcsTo_len (mail:List Mail) (l:List Diner) (k:Nat):(Zva mail l k).length≤k*l.length:=by
 induction k with
 | zero=>simp [Zva]
 | succ k ih=>
   simp only [Zva,List.length_append,Nat.add_mul,Nat.one_mul]
   have:(match l[k]? with | some a=>(l.drop (k+1)).flatMap (Zta mail a) | none=>[]).length≤l.length:=by
    split
    ·rename_i a _
     have:=flat_len mail a (l.drop (k+1))
     simp only [List.length_drop] at this
     omega
    ·simp
   omega
theorem arcs_small {s:Scene} (hl:fewD s.Diners) {k:Nat} (hk:k≤s.Diners.length):(Zva s.Mail s.Diners k).length≤25000000:=by
 have h1:=arcsTo_len s.Mail s.Diners k
 have h2:k*s.Diners.length≤5000*5000:=Nat.mul_le_mul (by have:=hl.1;omega) hl.1
 omega
theorem s_Arcs2 (s:Scene) (_:fewD s.Diners) (hm:s.Mail.length≤5000) (i:Nat) (a:Diner) (ha:a.Sides.length≤5000) (r:List Diner) (hr:∀d∈r,d.Sides.length≤5000) (hrl:r.length≤5000) (hi:i≤5000) (E:List Arc) (hE:E.length≤25000000):
  loop (Zla s i a r) (0,E)=some (.inl (((i+1:Nat):Int),E++r.flatMap (Zta s.Mail a))):=by
 have key:=Zx6 r (Zla s i a r) (fun pre=>((pre.length:Int),E++pre.flatMap (Zta s.Mail a))) (.inl (((i+1:Nat):Int),E++r.flatMap (Zta s.Mail a))) ?_ ?_
 ·simpa using key
 ·intro pre b post h
  have hx:=Zy6 h
  have hml:=Zz6 h
  have hb:=hr b (Z07 h)
  have hfl:=flat_len s.Mail a pre
  dsimp only [Zla]
  rw [Zd5 hx,Z85,Zb5 hx,Option.bind_some,s_Side a b.ID (by omega),Option.bind_some,s_Side b a.ID (by omega),Option.bind_some,Z17,List.flatMap_append,List.flatMap_singleton,←List.append_assoc]
  have hacc:(E++pre.flatMap (Zta s.Mail a)).length≤25005000:=by rw [List.length_append];omega
  generalize E++pre.flatMap (Zta s.Mail a)=acc at hacc ⊢
  have next:∀(q:List Arc),Zha (pre.length:Int) q=some (.inl (((pre.length+1:Nat):Int),q)):=fun q=>by
   dsimp only [Zha];rw [Zf5 (by omega)]
  unfold Zta
  cases h1:Z47 a b.ID with
  | none=>simp only [sideP,Bool.not_false,Z85,Zka,next,List.append_nil]
  | some x=>
    cases h2:Z47 b a.ID with
    | none=>simp only [sideP,Bool.not_false,Bool.not_true,Z95,Z85,Zka,next,List.append_nil]
    | some y=>
      have p1:=Zpa s.Mail (Zsa b a x.Epoch) (by omega)
      have p2:=Zpa s.Mail (Zsa a b x.Epoch) (by omega)
      unfold Zsa at p1 p2
      have ap:∀(z:Arc),app_ 16 acc [z]=some (acc++[z]):=fun z=>Zc5 _ _ (by omega) (by simp only [List.length_singleton];omega)
      unfold Zsa
      by_cases h3:x.Epoch=y.Epoch
      ·simp only [sideP,Bool.not_true,Z95,Zka,h3,decide_true,Zra,Option.bind_some]
       rw [h3] at p1 p2
       have e6:∀z,Zia a (pre.length:Int) acc b z=some (.inl (((pre.length+1:Nat):Int),acc++(if z then [⟨b.ID,a.ID⟩] else []))):=by
        intro z
        cases z
        ·simp only [Zia,Z95,next];simp
        ·simp only [Zia,Z85,ap,Option.bind_some,next];simp
       have e5:∀z,Zja s a (pre.length:Int) acc b (x,true) (y,true) z=some (.inl (((pre.length+1:Nat):Int),acc++(if z then [⟨a.ID,b.ID⟩] else if Zqa y x||(!x.Fork&&(!y.Fork&&decide ((⟨a.ID,b.ID,⟨1,y.Epoch,0⟩⟩:Mail)∈s.Mail))) then [⟨b.ID,a.ID⟩] else []))):=by
        intro z
        cases z
        ·simp only [Zja,Z95,Zra,Option.bind_some,h3,p2,e6]
         cases Zqa y x<;>cases x.Fork<;>cases y.Fork<;>rfl
        ·simp only [Zja,Z85,ap,Option.bind_some,next];simp
       simp only [p1,Option.bind_some,e5,if_true]
       cases Zqa x y<;>cases x.Fork<;>cases y.Fork<;>rfl
      ·simp only [sideP,Bool.not_true,Z95,Zka,h3,decide_false,Bool.not_false,Z85,next]
       simp
 ·dsimp only [Zla]
  rw [Ze5,Z95,Zga,Zf5 (by omega)];rfl
theorem sub_rest {α:Type} {f:α→List AV} {l:List α} {i:Nat} (h:i<l.length) (hl:l.length≤5000):sub_ l (wr ((i:Int)+1)) (ln f l)=some (l.drop (i+1)):=by
 rw [Zf5 (by omega),Zq4]
 unfold sub_
 rw [if_pos ⟨by omega,by omega,by omega⟩]
 simp
theorem s_Arcs (s:Scene) (hl:fewD s.Diners) (hm:s.Mail.length≤5000):Zna s=some (Zwa s):=by
 unfold Zna
 have hll:=hl.1
 refine loop_nat s.Diners.length (Zma s) (fun k=>((k:Int),Zva s.Mail s.Diners k)) (Zwa s) (fun k hk=>?_) ?_
 ·have hx:s.Diners[k]?=some s.Diners[k]:=List.getElem?_eq_getElem hk
  dsimp only [Zma]
  rw [Zd5 hx,Z85,Zb5 hx,Option.bind_some,sub_rest hk hll,Option.bind_some,
   s_Arcs2 s hl hm k _ (hl.2 _ (List.getElem_mem hk)) _ (fun d hd=>hl.2 d (List.mem_of_mem_drop hd)) (by simp;omega) (by omega) _ (arcs_small hl (by omega))]
  simp only [Zva,hx]
 ·dsimp only [Zma]
  rw [Ze5,Z95];rfl
def keyA (z:Arc):Edge:=⟨min z.From z.To,max z.From z.To⟩
theorem mem_drop {α:Type} {l:List α} {n:Nat} {b:α}:b∈l.drop n↔∃j,n≤j∧l[j]?=some b:=by
 rw [List.mem_iff_getElem?]
 constructor
 ·rintro ⟨i,hi⟩
  rw [List.getElem?_drop] at hi
  exact ⟨n+i,by omega,hi⟩
 ·rintro ⟨j,hj,h⟩
  exact ⟨j-n,by rw [List.getElem?_drop,show n+(j-n)=j by omega];exact h⟩
theorem Zxa {mail:List Mail} {l:List Diner} {z:Arc}:∀ {k:Nat},z∈Zva mail l k↔∃i j a b,i<k∧i<j∧l[i]?=some a∧l[j]?=some b∧z∈Zta mail a b
 | 0=>by simp [Zva]
 | k+1=>by
   simp only [Zva,List.mem_append,Zxa (k:=k)]
   constructor
   ·rintro (⟨i,j,a,b,h1,h2,h3,h4,h5⟩ | h)
    ·exact ⟨i,j,a,b,by omega,h2,h3,h4,h5⟩
    ·split at h
     ·rename_i a ha
      obtain ⟨b,hb,hz⟩:=List.mem_flatMap.1 h
      obtain ⟨j,hj,hb⟩:=mem_drop.1 hb
      exact ⟨k,j,a,b,by omega,by omega,ha,hb,hz⟩
     ·simp at h
   ·rintro ⟨i,j,a,b,h1,h2,h3,h4,h5⟩
    by_cases hi:i=k
    ·subst hi
     right
     rw [h3]
     exact List.mem_flatMap.2 ⟨b,mem_drop.2 ⟨j,by omega,h4⟩,h5⟩
    ·exact .inl ⟨i,j,a,b,by omega,h2,h3,h4,h5⟩
theorem flat_pw {mail:List Mail} {a:Diner} {i:Int}:∀ {r:List Diner} {n:Int},(∀(m:Nat) b,r[m]?=some b→∀z∈Zta mail a b,keyA z=⟨i,n+m⟩)→((r.flatMap (Zta mail a)).map keyA).Pairwise fun x y=>x.lt y=true
 | [],_,_=>List.Pairwise.nil
 | b::r,n,h=>by
   rw [List.flatMap_cons,List.map_append,List.pairwise_append]
   have h0:=h 0 b (by simp)
   have hr:∀(m:Nat) c,r[m]?=some c→∀z∈Zta mail a c,keyA z=⟨i,n+1+m⟩:=fun m c hc z hz=>by
    rw [h (m+1) c (by simpa using hc) z hz]
    congr 1
    omega
   refine ⟨?_,flat_pw hr,fun x hx y hy=>?_⟩
   ·have hl:=Zua mail a b
    match hq:Zta mail a b with
    | []=>exact List.Pairwise.nil
    | [z]=>simp
    | z::z'::w=>rw [hq] at hl;simp at hl
   ·obtain ⟨z,hz,rfl⟩:=List.mem_map.1 hx
    obtain ⟨z',hz',rfl⟩:=List.mem_map.1 hy
    obtain ⟨c,hc,hz'⟩:=List.mem_flatMap.1 hz'
    obtain ⟨m,hm⟩:=List.mem_iff_getElem?.1 hc
    rw [h0 z hz,hr m c hm z' hz']
    simp only [Edge.lt]
    have:(n+((0:Nat):Int))<n+1+(m:Int):=by omega
    rw [decide_eq_true this];simp
theorem arcsTo_pw {mail:List Mail} {l:List Diner} (h:∀(i j:Nat) a b,i<j→l[i]?=some a→l[j]?=some b→∀z∈Zta mail a b,keyA z=⟨i,j⟩):∀k,((Zva mail l k).map keyA).Pairwise fun x y=>x.lt y=true
 | 0=>List.Pairwise.nil
 | k+1=>by
   rw [Zva,List.map_append,List.pairwise_append]
   refine ⟨arcsTo_pw h k,?_,fun x hx y hy=>?_⟩
   ·split
    ·rename_i a ha
     refine flat_pw (i:=k) (n:=((k+1:Nat):Int)) fun m b hb z hz=>?_
     rw [List.getElem?_drop] at hb
     rw [h k (k+1+m) a b (by omega) ha hb z hz]
     congr 1
    ·exact List.Pairwise.nil
   ·obtain ⟨z,hz,rfl⟩:=List.mem_map.1 hx
    obtain ⟨z',hz',rfl⟩:=List.mem_map.1 hy
    obtain ⟨i,j,a,b,h1,h2,h3,h4,h5⟩:=Zxa.1 hz
    split at hz'
    ·rename_i a' ha'
     obtain ⟨b',hb',hz'⟩:=List.mem_flatMap.1 hz'
     obtain ⟨j',hj',hb'⟩:=mem_drop.1 hb'
     rw [h i j a b h2 h3 h4 z h5,h k j' a' b' (by omega) ha' hb' z' hz']
     simp only [Edge.lt]
     have:(i:Int)<k:=by omega
     simp [this]
    ·simp at hz'
theorem ch_mem {M:List Mail} {a b k:Int} (h:k∈ch M a b):∃m∈M,m.From=a∧m.To=b∧m.Msg.Kind=k:=by
 unfold ch at h
 obtain ⟨m,hm,rfl⟩:=List.mem_map.1 h
 obtain ⟨h1,h2⟩:=List.mem_filter.1 hm
 simp only [Bool.and_eq_true,decide_eq_true_eq] at h2
 exact ⟨m,h1,h2.1,h2.2,rfl⟩
theorem mem_ch {M:List Mail} {m:Mail} (h:m∈M):m.Msg.Kind∈ch M m.From m.To:=by
 unfold ch
 exact List.mem_map_of_mem (List.mem_filter.2 ⟨h,by simp⟩)
theorem fork_mail {g:Graph} {s:Scene} (hi:Inv g s) (a b:Int):decide ((⟨a,b,⟨1,1,0⟩⟩:Mail)∈s.Mail)=decide ((1:Int)∈ch s.Mail a b):=by
 rw [decide_eq_decide]
 constructor
 ·intro h;exact mem_ch h
 ·intro h
  obtain ⟨m,hm,h1,h2,h3⟩:=ch_mem h
  obtain ⟨_,e1,e2,_⟩:=hi.mail m hm
  obtain ⟨p,q,k,e,n⟩:=m
  dsimp only at h1 h2 h3 e1 e2
  subst h1;subst h2;subst h3;subst e1;subst e2
  exact hm
theorem Zya {g:Graph} {s:Scene} {r:Nat→Int} (hg:okG g=true) (hi:Inv g s) (he:Z4a r s) {a b:Nat} {da db:Diner} (ha:s.Diners[a]?=some da) (hb:s.Diners[b]?=some db):
  ((b:Int)∈Zl8 g a→(Zta s.Mail da db=[⟨a,b⟩]∧r b<r a)∨(Zta s.Mail da db=[⟨b,a⟩]∧r a<r b))∧((b:Int)∉Zl8 g a→Zta s.Mail da db=[]):=by
 have ia:=(hi.shp a da ha).1
 have ib:=(hi.shp b db hb).1
 constructor
 ·intro hn
  obtain ⟨x,hx,xm⟩:=hi.sided (a:=(a:Int)) (by omega) (by rw [Int.toNat_natCast];exact ha) hn
  obtain ⟨y,hy,ym⟩:=hi.sided (a:=(b:Int)) (by omega) (by rw [Int.toNat_natCast];exact hb) (Zw8 hg hn)
  have hE:=he a b da db x y ha hb hx hy
  have lx:=(hi.loc da (List.mem_iff_getElem?.2 ⟨_,ha⟩)).side x xm
  have ly:=(hi.loc db (List.mem_iff_getElem?.2 ⟨_,hb⟩)).side y ym
  have f1:=fork_mail hi b a
  have f2:=fork_mail hi a b
  unfold Zta Zsa
  rw [ia,ib,hx,hy]
  dsimp only
  rw [lx.1,ly.1,decide_eq_true rfl,if_pos rfl,f1,f2]
  unfold Zqa
  rcases hE with ⟨h1,h2,h3,h4,h5,h6⟩ | ⟨h1,h2,h3,h4,h5,h6⟩
  ·have n1:decide ((1:Int)∈ch s.Mail a b)=false:=by rw [h1];simp
   rcases h6 with ⟨k1,_,_⟩ | ⟨k1,k2,k3,k4⟩
   ·cases hd:x.Dirty with
    | true=>right;exact ⟨by simp [h2,k1],h4 (by simp [k1,hd])⟩
    | false=>left;exact ⟨by simp [k1],h5 (by simp [hd])⟩
   ·left
    have m1:decide ((1:Int)∈ch s.Mail b a)=true:=by
     rcases k4 with ⟨_,k4⟩ | ⟨_,k4⟩<;>rw [k4]<;>simp
    exact ⟨by simp [k1,h2,m1],h5 (by simp [k1])⟩
  ·have n1:decide ((1:Int)∈ch s.Mail b a)=false:=by rw [h1];simp
   rcases h6 with ⟨k1,_,_⟩ | ⟨k1,k2,k3,k4⟩
   ·cases hd:y.Dirty with
    | true=>left;exact ⟨by simp [h2,k1],h4 (by simp [k1,hd])⟩
    | false=>right;exact ⟨by simp [h2,k1,n1],h5 (by simp [hd])⟩
   ·right
    have m1:decide ((1:Int)∈ch s.Mail a b)=true:=by
     rcases k4 with ⟨_,k4⟩ | ⟨_,k4⟩<;>rw [k4]<;>simp
    exact ⟨by simp [k1,h2,m1,n1],h5 (by simp [k1])⟩
 ·intro hn
  have:Z47 da (b:Int)=none:=by
   have h1:(Z47 da (b:Int)).isSome=false:=by rw [Zx8,(hi.shp a da ha).2];exact decide_eq_false hn
   exact Option.isNone_iff_eq_none.1 (by simpa using h1)
  unfold Zta
  rw [ib,this]
theorem arcs_key {g:Graph} {s:Scene} {r:Nat→Int} (hg:okG g=true) (hi:Inv g s) (he:Z4a r s):(Zwa s).map keyA=g.Edges:=by
 obtain ⟨g1,g2,g3,g4,g5⟩:=Zp6 hg
 have hl:=hi.len
 have hk:∀(i j:Nat) a b,i<j→s.Diners[i]?=some a→s.Diners[j]?=some b→∀z∈Zta s.Mail a b,keyA z=⟨i,j⟩∧(j:Int)∈Zl8 g i:=fun i j a b hij ha hb z hz=>by
  obtain ⟨p1,p2⟩:=Zya hg hi he ha hb
  by_cases hn:(j:Int)∈Zl8 g i
  ·refine ⟨?_,hn⟩
   rcases p1 hn with ⟨q,_⟩ | ⟨q,_⟩
   ·rw [q] at hz;simp only [List.mem_singleton] at hz;subst hz
    simp only [keyA,Edge.mk.injEq];omega
   ·rw [q] at hz;simp only [List.mem_singleton] at hz;subst hz
    simp only [keyA,Edge.mk.injEq];omega
  ·rw [p2 hn] at hz;simp at hz
 refine pw_ext (R:=fun x y=>x.lt y=true) Edge.lt_irr (fun x y h1 h2=>Edge.lt_irr x (Edge.lt_trans h1 h2)) (arcsTo_pw (fun i j a b hij ha hb z hz=>(hk i j a b hij ha hb z hz).1) _) (okG_pw hg) fun e=>?_
 constructor
 ·intro h
  obtain ⟨z,hz,rfl⟩:=List.mem_map.1 h
  obtain ⟨i,j,a,b,h1,h2,h3,h4,h5⟩:=Zxa.1 hz
  obtain ⟨k1,k2⟩:=hk i j a b h2 h3 h4 z h5
  rw [k1]
  rcases (Zo8 hg).1 k2 with h | h
  ·exact h
  ·have:=g4 _ h;dsimp only at this;omega
 ·intro h
  obtain ⟨e1,e2,e3⟩:=g4 e h
  have hn:e.B∈Zl8 g e.A:=(Zo8 hg).2 (.inl h)
  obtain ⟨a,ha⟩:=hi.get e1 (by omega)
  obtain ⟨b,hb⟩:=hi.get (show 0≤e.B by omega) e3
  have ea:((e.A.toNat:Nat):Int)=e.A:=Int.toNat_of_nonneg e1
  have eb:((e.B.toNat:Nat):Int)=e.B:=Int.toNat_of_nonneg (by omega)
  obtain ⟨p1,_⟩:=Zya hg hi he ha hb
  rw [ea,eb] at p1
  have hm:∀z,Zta s.Mail a b=[z]→z∈Zwa s:=fun z hz=>Zxa.2 ⟨e.A.toNat,e.B.toNat,a,b,by omega,by omega,ha,hb,by rw [hz];simp⟩
  rcases p1 hn with ⟨q,_⟩ | ⟨q,_⟩
  ·refine List.mem_map.2 ⟨_,hm _ q,?_⟩
   obtain ⟨A,B⟩:=e
   simp only [keyA,Edge.mk.injEq]
   dsimp only at e2
   omega
  ·refine List.mem_map.2 ⟨_,hm _ q,?_⟩
   obtain ⟨A,B⟩:=e
   simp only [keyA,Edge.mk.injEq]
   dsimp only at e2
   omega
theorem arcs_rank {g:Graph} {s:Scene} {r:Nat→Int} (hg:okG g=true) (hi:Inv g s) (he:Z4a r s) {z:Arc} (hz:z∈Zwa s):
  0≤z.From∧z.From<g.N∧0≤z.To∧z.To<g.N∧z.To∈Zl8 g z.From∧r z.To.toNat<r z.From.toNat:=by
 have hl:=hi.len
 obtain ⟨i,j,a,b,h1,h2,h3,h4,h5⟩:=Zxa.1 hz
 have hj:=(List.getElem?_eq_some_iff.1 h4).1
 obtain ⟨p1,p2⟩:=Zya hg hi he h3 h4
 by_cases hn:(j:Int)∈Zl8 g i
 ·rcases p1 hn with ⟨q,k⟩ | ⟨q,k⟩
  ·rw [q] at h5;simp only [List.mem_singleton] at h5;subst h5
   exact ⟨by dsimp only;omega,by dsimp only;omega,by dsimp only;omega,by dsimp only;omega,hn,by simpa using k⟩
  ·rw [q] at h5;simp only [List.mem_singleton] at h5;subst h5
   exact ⟨by dsimp only;omega,by dsimp only;omega,by dsimp only;omega,by dsimp only;omega,Zw8 hg hn,by simpa using k⟩
 ·rw [p2 hn] at h5;simp at h5
theorem arcs_nd {g:Graph} {s:Scene} {r:Nat→Int} (hg:okG g=true) (hi:Inv g s) (he:Z4a r s):(Zwa s).Nodup:=by
 have h:=okG_pw hg
 rw [←arcs_key hg hi he,List.pairwise_map] at h
 refine List.Pairwise.imp (R:=fun a b=>(keyA a).lt (keyA b)=true) ?_ h
 intro x y hxy e
 rw [e] at hxy
 exact Edge.lt_irr _ hxy
theorem arcs_len {g:Graph} {s:Scene} {r:Nat→Int} (hg:okG g=true) (hi:Inv g s) (he:Z4a r s):(Zwa s).length=g.Edges.length:=by
 rw [←arcs_key hg hi he,List.length_map]
set_option maxRecDepth 100000
set_option maxHeartbeats 4000000
@[go_sem] def e114:EC:=.seq (.reg [(Qa 3 (.mv (.c .ff)))]) (.seq (.reg [(Qm 4 0),(Qa 5 (.bin .leq (.c (.iv 0)) (.t 4))),(Qm 6 5),(Qg 7 6 true (.mv (.t 0))),(Qn 8 6 true 1),(Qg 9 6 true (.bin .lss (.t 7) (.t 8))),(Qp 10 6 9),(Qm 3 10)]) (.ret))
theorem ok114:FnOK Try.prog 114 Try.f114 e114 [.t 3] 2 9:=⟨by kernel_rfl,⟨_,rfl,by kernel_rfl⟩,by kernel_rfl,by kernel_rfl⟩
noncomputable def Zza:Bool→Option Bool
| x3=>
 some x3
noncomputable def Z0b (x1:Int) (x2:Int):Option Bool:=
 ifb (decide (0≤x1)) (
 Zza (decide (x1<x2))) (
 Zza false)
theorem Z1b (x1:Int) (x2:Int) (r:Bool) (h:Z0b x1 x2=some r):Zu2 Try.prog 114 [.iv x1,.elt (Zo4 x2) 0] (.bv r):=by
 refine Zx2 ok114 rfl rfl fun w0 H0=>?_
 rw [Z0b] at h
 refine Zo2 9 ?_;dsimp only [go_sem];refine An ?_;refine Z94 (fun (x3:Bool)=>(⟨(an 3 (.bv x3::an 7 [])),[],[]⟩:St)) Zza r ?_ fun J1=>?_
 ·intro x3 h;rw [Zza] at h;(try dsimp only);exact Zi4 (res:=fun (r:Bool)=>.bv r) ok114 h
 ·refine Zh4 6 h rfl (fun _ h=>?_) fun _ h=>?_
  ·dsimp only [go_sem];refine Zo2 6 ?_;dsimp only [go_sem];refine An ?_;exact Zk4 J1 (s:=decide (x1<x2)) h
  ·dsimp only [go_sem];refine Zo2 6 ?_;dsimp only [go_sem];refine An ?_;exact Zk4 J1 (s:=false) h
set_option maxRecDepth 100000
set_option maxHeartbeats 4000000
@[go_sem] def e129_L0:EC:=.seq (.reg [(Qa 9 (.bin .lss (.t 8) (.t 7)))]) (.seq (.ite (.t 9) (.skip) (.exit 0)) (.seq (.blk 1 (.seq (.reg [(Qm 10 8),(Qm 5 10)]) (.seq (.drw [(Qe 11 2 3),(Qm 12 0),(Qm 13 5),(Qk 14 2 12 13),(Qe 15 2 14),(Qa 16 (.eqs false [true,true] (.t 11) (.t 15)))] [[],[],[],[1,2],[3],[0,4]] [[5],[3],[3],[1,2,4],[3,5],[0,4]]) (.ite (.t 16) (.seq (.reg [(Qm 17 5),(Qm 4 17)]) (.ret)) (.skip))))) (.reg [(Qv 18 8 1),(Qm 8 18)])))
@[go_sem] def e129:EC:=.seq (.reg [(Qx 3 62 2 1),(Qi 4 0)]) (.seq (.seq (.reg [(Qm 6 0),(Qa 7 (.len (.t 6))),(Qi 8 0)]) (.blk 0 (.loop e129_L0))) (.seq (.reg [(Qa 4 (.mv (.c (.iv (-1)))))]) (.ret)))
theorem ok129:FnOK Try.prog 129 Try.f129 e129 [.t 4] 2 17:=⟨by kernel_rfl,⟨_,rfl,by kernel_rfl⟩,by kernel_rfl,by kernel_rfl⟩
noncomputable def Z2b:Unit→Option Int
| ()=>
 some (-1)
noncomputable def Z3b (x1:(List Arc)) (x2:Arc):Int→Option (Int ⊕ Int)
| x5=>
 ifb (decide (x5<(ln Arc.row x1))) (
 (at_ x1 x5).bind fun x6=>
 ifb (decide (x2.From=x6.From)&&(decide (x2.To=x6.To)&&true)) (
 Option.map Sum.inr (some x5)) (
 some (.inl (wr (x5+1))))) (
 Option.map Sum.inr (Z2b ()))
noncomputable def Z4b (x1:(List Arc)) (x2:Arc):Option Int:=
 loop (Z3b x1 x2) 0
theorem Z5b (x1:(List Arc)) (x2:Arc) (r:Int) (h:Z4b x1 x2=some r):Zu2 Try.prog 129 [.sl 2 (List.map Arc.row x1),.agg (Arc.row x2)] (.iv r):=by
 refine Zx2 ok129 rfl rfl fun w0 H0=>?_
 rw [Z4b] at h
 refine Zo2 12 ?_;dsimp only [go_sem];refine An ?_;refine Z94 (fun (_:Unit)=>(⟨(an 19 []),[],[]⟩:St)) Z2b r ?_ fun J1=>?_
 ·rintro ⟨⟩ h;rw [Z2b] at h;(try dsimp only);refine Zo2 4 ?_;dsimp only [go_sem];refine An ?_;exact Zi4 (res:=fun (r:Int)=>.iv r) ok129 h
 ·refine Zo2 1 ?_;dsimp only [go_sem];refine An ?_;refine Za4 h (fun (x5:Int)=>(⟨(.sl 2 (List.map Arc.row x1) :: .any :: .any :: .ptr 0 0::an 3 (.iv (ln Arc.row x1) :: .iv x5::an 10 [])),[some ⟨62,[.iv x2.From,.iv x2.To]⟩],[]⟩:St)) (by simp [go_sem]) (by intro x5;first | rfl | simp [go_sem]) ?_;rintro n1 x5 y1 h hin1 hout1;rw [Z3b] at h;(try dsimp only);refine Zo2 5 ?_;dsimp only [go_sem];refine An ?_;refine Zb4 h rfl (fun _ h=>?_) fun _ h=>?_
  ·refine Zo2 9 ?_;dsimp only [go_sem];refine An ?_;refine Zi3 (by kernel_rfl) fun all hall hs hnap haf=>?_;dsimp only [go_sem];refine Zv4 hall hs haf hnap 3 3 ?_;dsimp only [go_sem];refine An ?_;obtain ⟨x6,ex6,h⟩:=Bs h;refine Zf4 hall hs haf hnap 3 Arc.row ex6 rfl rfl trivial rfl rfl rfl rfl ?_;refine Zv4 hall hs haf hnap 2 0 ?_;dsimp only [go_sem];refine An ?_;refine Zs3 rfl ?_ _;refine Zb4 h rfl (fun _ h=>?_) fun _ h=>?_
   ·refine Zo2 5 ?_;dsimp only [go_sem];refine An ?_;exact Zi4 (res:=fun (r:Int)=>.iv r) ok129 (Z84 h hout1)
   ·refine Zo2 6 ?_;dsimp only [go_sem];refine An ?_;exact Zj4 h hin1
  ·refine Zo2 1 ?_;dsimp only [go_sem];refine An ?_;exact Zk4 J1 (s:=()) (Z84 h hout1)
set_option maxRecDepth 100000
set_option maxHeartbeats 4000000
@[go_sem] def e115:EC:=.seq (.reg [(Qx 3 62 2 1),(Qa 4 (.mv (.c .ff)))]) (.seq (.reg [(Qm 5 0),(Qe 6 2 3),(Qa 7 (.call 129 [(.t 5),(.t 6)])),(Qa 8 (.bin .geq (.t 7) (.c (.iv 0)))),(Qm 4 8)]) (.ret))
theorem ok115:FnOK Try.prog 115 Try.f115 e115 [.t 4] 2 7:=⟨by kernel_rfl,⟨_,rfl,by kernel_rfl⟩,by kernel_rfl,by kernel_rfl⟩
noncomputable def Z6b (x1:(List Arc)) (x2:Arc):Option Bool:=
 (Z4b x1 x2).bind fun x3=>
 some (decide (0≤x3))
theorem Z7b (x1:(List Arc)) (x2:Arc) (r:Bool) (h:Z6b x1 x2=some r):Zu2 Try.prog 115 [.sl 2 (List.map Arc.row x1),.agg (Arc.row x2)] (.bv r):=by
 refine Zx2 ok115 rfl rfl fun w0 H0=>?_
 rw [Z6b] at h
 refine Zo2 9 ?_;dsimp only [go_sem];refine An ?_;obtain ⟨x3,ex3,h⟩:=Bs h;refine Z23 trivial (Z5b x1 x2 _ ex3) (h:=?_);refine Zo2 3 ?_;dsimp only [go_sem];refine An ?_;exact Zi4 (res:=fun (r:Bool)=>.bv r) ok115 h
set_option maxRecDepth 100000
set_option maxHeartbeats 4000000
@[go_sem] def e92_L0:EC:=.seq (.reg [(Qa 23 (.bin .lss (.t 22) (.t 21)))]) (.seq (.ite (.t 23) (.skip) (.exit 0)) (.seq (.blk 1 (.seq (.reg [(Qm 24 22),(Qk 25 2 20 22),(Qe 26 2 25),(Qa 7 (.alloc 62 [.iv 0,.iv 0])),(Qm 6 24),(Qs 2 7 26)]) (.seq (.drw [(Qm 27 5),(Qf 28 0 7),(Ql 29 28),(Qa 30 (.callv (.t 27) [(.t 29)])),(Qa 31 (.not (.t 30))),(Qm 32 31),(Qg 33 32 false (.mv (.t 5))),(Qh 34 32 false 1 7),(Qn 35 32 false 34),(Qg 36 32 false (.callv (.t 33) [(.t 35)])),(Qg 37 32 false (.not (.t 36))),(Qq 38 32 37),(Qm 39 38),(Qh 40 39 false 0 7),(Qn 41 39 false 40),(Qh 42 39 false 1 7),(Qn 43 39 false 42),(Qg 44 39 false (.bin .eql (.t 41) (.t 43))),(Qq 45 39 44),(Qm 46 45),(Qg 47 46 false (.mv (.t 1))),(Qg 48 46 false (.mv (.t 6))),(Qg 49 46 false (.slice 2 (.t 47) none (some (.t 48)))),(Qg 50 46 false (.loadA 2 (.t 7))),(Qg 51 46 false (.call 115 [(.t 49),(.t 50)])),(Qq 52 46 51)] [[],[],[1],[0,2],[3],[4,3],[5],[5],[7,5],[6,8,5,5],[9,5],[5,10],[11,9],[12],[13,12],[12],[15,12],[14,16,12],[12,17],[18,12],[19],[19],[20,21,19],[19],[22,23,19,19],[19,24]] [[3],[2],[1,3],[0,2,4],[3,5],[4,6,7,8,9,10,11],[5,9],[5,8],[5,7,9],[5,6,8,10],[5,9,11],[5,10,12],[11,13,14,15,16,17,18],[12,14],[12,13,17],[12,16],[12,15,17],[12,14,16,18],[12,17,19],[18,20,21,22,23,24,25],[19,22],[19,22],[19,20,21,24],[19,24],[19,22,23,25],[19,24]]) (.ite (.t 52) (.seq (.reg [(Qi 4 40)]) (.ret)) (.skip))))) (.reg [(Qv 53 22 1),(Qm 22 53)])))
@[go_sem] def e92:EC:=.seq (.reg [(Qx 2 3 1 0),(Qi 4 0)]) (.seq (.reg [(Qa 8 (.mkf 114 [(.t 2)])),(Qm 5 8)]) (.seq (.seq (.reg [(Ql 9 2),(Qa 10 (.bin .lss (.t 9) (.c (.iv 0)))),(Qm 11 10),(Qn 12 11 false 2),(Qg 13 11 false (.bin .gtr (.t 12) (.c (.iv 64)))),(Qq 14 11 13),(Qm 15 14),(Qg 16 15 false (.mv (.t 1))),(Qg 17 15 false (.len (.t 16))),(Qg 18 15 false (.bin .gtr (.t 17) (.c (.iv 400)))),(Qq 19 15 18)]) (.ite (.t 19) (.seq (.reg [(Qi 4 40)]) (.ret)) (.skip))) (.seq (.seq (.reg [(Qm 20 1),(Qa 21 (.len (.t 20))),(Qi 22 0)]) (.blk 0 (.loop e92_L0))) (.seq (.reg [(Qi 4 0)]) (.ret)))))
theorem ok92:FnOK Try.prog 92 Try.f92 e92 [.t 4] 2 52:=⟨by kernel_rfl,⟨_,rfl,by kernel_rfl⟩,by kernel_rfl,by kernel_rfl⟩
noncomputable def Z8b:Unit→Option Int
| ()=>
 some 0
noncomputable def Z9b (x11:Int):Bool→Option (Int ⊕ Int)
| x17=>
 ifb x17 (
 Option.map Sum.inr (some 40)) (
 some (.inl (wr (x11+1))))
noncomputable def Zab (x1:Int) (x2:(List Arc)):Int→Option (Int ⊕ Int)
| x11=>
 ifb (decide (x11<(ln Arc.row x2))) (
 (at_ x2 x11).bind fun x12=>
 (Z0b x12.From x1).bind fun x13=>
 ifb (!x13) (
 (Z9b x11) true) (
 (Z0b x12.To x1).bind fun x14=>
 ifb (!x14) (
 (Z9b x11) true) (
 ifb (decide (x12.From=x12.To)) (
 (Z9b x11) true) (
 (sub_ x2 0 x11).bind fun x15=>
 (Z6b x15 x12).bind fun x16=>
 (Z9b x11) x16)))) (
 Option.map Sum.inr (Z8b ()))
noncomputable def Zbb (x1:Int) (x2:(List Arc)):Bool→Option Int
| x3=>
 ifb x3 (
 some 40) (
 loop (Zab x1 x2) 0)
noncomputable def Zcb (x1:Int) (x2:(List Arc)):Option Int:=
 ifb (decide (x1<0)) (
 (Zbb x1 x2) true) (
 ifb (decide (64<x1)) (
 (Zbb x1 x2) true) (
 (Zbb x1 x2) (decide (400<(ln Arc.row x2)))))
theorem k_dag_Check (x1:Int) (x2:(List Arc)) (r:Int) (h:Zcb x1 x2=some r):Zu2 Try.prog 92 [.iv x1,.sl 2 (List.map Arc.row x2)] (.iv r):=by
 refine Zx2 ok92 rfl rfl fun w0 H0=>?_
 rw [Zcb] at h
 refine Zo2 16 ?_;dsimp only [go_sem];refine An ?_;refine Z94 (fun (x3:Bool)=>(⟨(.any :: .sl 2 (List.map Arc.row x2)::an 3 (.clo 114 [.ptr 0 0]::an 13 (.bv x3::an 34 []))),[some ⟨3,[.iv x1]⟩],[]⟩:St)) (Zbb x1 x2) r ?_ fun J1=>?_
 ·intro x3 h;rw [Zbb] at h;(try dsimp only);refine Zb4 h rfl (fun _ h=>?_) fun _ h=>?_
  ·refine Zo2 4 ?_;dsimp only [go_sem];refine An ?_;exact Zi4 (res:=fun (r:Int)=>.iv r) ok92 h
  ·refine Zo2 8 ?_;dsimp only [go_sem];refine An ?_;refine Z94 (fun (_:Unit)=>(⟨(an 54 []),[],[]⟩:St)) Z8b r ?_ fun J2=>?_
   ·rintro ⟨⟩ h;rw [Z8b] at h;(try dsimp only);refine Zo2 4 ?_;dsimp only [go_sem];refine An ?_;exact Zi4 (res:=fun (r:Int)=>.iv r) ok92 h
   ·refine Zo2 1 ?_;dsimp only [go_sem];refine An ?_;refine Za4 h (fun (x11:Int)=>(⟨(.any :: .sl 2 (List.map Arc.row x2)::an 3 (.clo 114 [.ptr 0 0]::an 14 (.sl 2 (List.map Arc.row x2) :: .iv (ln Arc.row x2) :: .iv x11::an 31 []))),[some ⟨3,[.iv x1]⟩],[]⟩:St)) (by simp [go_sem]) (by intro x11;first | rfl | simp [go_sem]) ?_;rintro n1 x11 y1 h hin1 hout1;rw [Zab] at h;(try dsimp only);refine Zo2 5 ?_;dsimp only [go_sem];refine An ?_;refine Zb4 h rfl (fun _ h=>?_) fun _ h=>?_
    ·refine Zo2 6 ?_;dsimp only [go_sem];refine An ?_;obtain ⟨x12,ex12,h⟩:=Bs h;refine Ze4 Arc.row ex12 trivial rfl rfl rfl ?_;refine Zo2 6 ?_;dsimp only [go_sem];refine An ?_;refine Z94 (fun (x17:Bool)=>(⟨(.any :: .sl 2 (List.map Arc.row x2)::an 3 (.clo 114 [.ptr 0 0]::an 14 (.sl 2 (List.map Arc.row x2) :: .iv (ln Arc.row x2) :: .iv x11::an 29 [.bv x17,.any]))),[some ⟨3,[.iv x1]⟩],[]⟩:St)) (Z9b x11) y1 ?_ fun J3=>?_
     ·intro x17 h;rw [Z9b] at h;(try dsimp only);refine Zb4 h rfl (fun _ h=>?_) fun _ h=>?_
      ·refine Zo2 4 ?_;dsimp only [go_sem];refine An ?_;exact Zi4 (res:=fun (r:Int)=>.iv r) ok92 (Z84 h hout1)
      ·refine Zo2 6 ?_;dsimp only [go_sem];refine An ?_;exact Zj4 h hin1
     ·refine Zi3 (by kernel_rfl) fun all hall hs hnap haf=>?_;dsimp only [go_sem];refine Zw4 hall hs haf hnap 3 23 [3,23] [(27,[.clo 114 [.ptr 0 0],.ptr 1 0,.iv x12.From])] (by kernel_rfl) ?_;dsimp only [go_sem];refine Zt3 3 rfl ?_;obtain ⟨x13,ex13,h⟩:=Bs h;refine GO_callvL hall rfl trivial ((Zl4.refl _).block 0 rfl rfl) rfl (Z1b x12.From x1 _ ex13) (by kernel_rfl) (h:=?_);dsimp only [go_sem];refine Zv4 hall hs haf hnap 2 20 ?_;dsimp only [go_sem];refine An ?_;refine Zr4 32 h rfl (fun _ h=>?_) fun _ h=>?_
      ·dsimp only [go_sem];refine Zw4 hall hs haf hnap 20 0 [26] [(33,[.un,.un,.un,.un,.un,.tt,.tt,.un,.un,.un,.un,.un,.tt,.tt,.un,.un,.un,.un,.un,.tt])] (by kernel_rfl) ?_;dsimp only [go_sem];refine Zs3 rfl ?_ _;exact Zk4 J3 (s:=true) h
      ·dsimp only [go_sem];refine Zw4 hall hs haf hnap 3 17 [9,17] [(33,[.clo 114 [.ptr 0 0],.ptr 1 1,.iv x12.To])] (by kernel_rfl) ?_;dsimp only [go_sem];refine Zt3 9 rfl ?_;obtain ⟨x14,ex14,h⟩:=Bs h;refine GO_callvL hall rfl trivial ((Zl4.refl _).block 0 rfl rfl) rfl (Z1b x12.To x1 _ ex14) (by kernel_rfl) (h:=?_);dsimp only [go_sem];refine Zw4 hall hs haf hnap 3 13 [13,13] [(37,[.bv (!x14),.bv (!x14),.bv (!x14)])] (by kernel_rfl) ?_;dsimp only [go_sem];refine Zr4 39 h rfl (fun _ h=>?_) fun _ h=>?_
       ·dsimp only [go_sem];refine Zw4 hall hs haf hnap 13 0 [26] [(40,[.un,.un,.un,.un,.un,.tt,.tt,.un,.un,.un,.un,.un,.tt])] (by kernel_rfl) ?_;dsimp only [go_sem];refine Zs3 rfl ?_ _;exact Zk4 J3 (s:=true) h
       ·dsimp only [go_sem];refine Zw4 hall hs haf hnap 7 6 [20,6] [(40,[.ptr 1 0,.iv x12.From,.ptr 1 1,.iv x12.To,.bv (decide (x12.From=x12.To)),.bv (decide (x12.From=x12.To)),.bv (decide (x12.From=x12.To))])] (by kernel_rfl) ?_;dsimp only [go_sem];refine Zr4 46 h rfl (fun _ h=>?_) fun _ h=>?_
        ·dsimp only [go_sem];refine Zw4 hall hs haf hnap 6 0 [26] [(47,[.un,.un,.un,.un,.un,.tt])] (by kernel_rfl) ?_;dsimp only [go_sem];refine Zs3 rfl ?_ _;exact Zk4 J3 (s:=true) h
        ·dsimp only [go_sem];refine Zw4 hall hs haf hnap 3 3 [22,1,1,2] [(47,[.sl 2 (List.map Arc.row x2),.iv x11]),(1,[.agg [.iv x12.From,.iv x12.To]])] (by kernel_rfl) ?_;dsimp only [go_sem];obtain ⟨x15,ex15,h⟩:=Bs h;refine G_sliceM hall hs haf hnap 22 Arc.row ex15 rfl rfl trivial rfl rfl rfl rfl rfl ?_;dsimp only [go_sem];refine Zt3 24 rfl ?_;obtain ⟨x16,ex16,h⟩:=Bs h;refine Zx3 hall rfl trivial (Z7b x15 x12 _ ex16) (h:=?_);dsimp only [go_sem];refine Zv4 hall hs haf hnap 1 0 ?_;dsimp only [go_sem];refine An ?_
         refine Zs3 rfl ?_ _;exact Zk4 J3 (s:=x16) h
    ·refine Zo2 1 ?_;dsimp only [go_sem];refine An ?_;exact Zk4 J2 (s:=()) (Z84 h hout1)
 ·refine Zh4 11 h rfl (fun _ h=>?_) fun _ h=>?_
  ·dsimp only [go_sem];refine Zo2 9 ?_;dsimp only [go_sem];refine An ?_;exact Zk4 J1 (s:=true) h
  ·dsimp only [go_sem];refine Zo2 4 ?_;dsimp only [go_sem];refine An ?_;refine Zh4 15 h rfl (fun _ h=>?_) fun _ h=>?_
   ·dsimp only [go_sem];refine Zo2 5 ?_;dsimp only [go_sem];refine An ?_;exact Zk4 J1 (s:=true) h
   ·dsimp only [go_sem];refine Zo2 5 ?_;dsimp only [go_sem];refine An ?_;exact Zk4 J1 (s:=decide (400<(ln Arc.row x2))) h
end NX
end Go.Proofs.Ytadebhbiglmodaa
