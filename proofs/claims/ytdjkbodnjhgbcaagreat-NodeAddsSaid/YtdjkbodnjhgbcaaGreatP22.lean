/-
  The function slices.Insert[[]narthex/api.Side,narthex/api.Side], lent own memory. Written by a program of ours (lb.py). No statement of the seat is proved here.
-/
import Derived.Test.YtdjkbodnjhgbcaaGreatP21
set_option maxRecDepth 100000
set_option maxHeartbeats 4000000
namespace Go.Proofs.YtdjkbodnjhgbcaaGreat
namespace NX
open Go
noncomputable section
def Zqg (l:List Side) (i:Int) (vs:List Side):Option (List Side):=insS_ 32 l i vs
theorem Zrg (l:List Side) (i:Int) (vs:List Side) (r:List Side) (h:Zqg l i vs=some r):
  Zq5 Tryz.prog 81 [.osl 0,.iv i,.osl 1] [] [some ⟨65,8,l.map Side.row⟩,some ⟨65,8,List.map Side.row vs⟩] (.osl 2) [] [none,none,some ⟨65,8,r.map Side.row⟩]:=by
 obtain ⟨v,rfl,h⟩:=insS_some h
 obtain ⟨hr,h0,h1,hb,h63⟩:=ins_some h
 have hln:(l.map Side.row).length=l.length:=List.length_map _
 have hw1:wr ((l.length:Int)+1)=(l.length:Int)+1:=IntWalk.i64_in _ ⟨by omega,by omega⟩
 have hw2:wr ((l.length:Int)+1-i)=(l.length:Int)+1-i:=IntWalk.i64_in _ ⟨by omega,by omega⟩
 have hw3:wr (i+1)=i+1:=IntWalk.i64_in _ ⟨by omega,by omega⟩
 obtain ⟨y,hy⟩:∃y,y=v.row:=⟨_,rfl⟩
 have hv1: [v].map Side.row=[y]:=by rw [hy];rfl
 rw [hv1]
 have hr1:(([y]:List (List AV)).length:Int)=1:=rfl
 have hR:(l.map Side.row).take i.toNat++y::(l.map Side.row).drop i.toNat=r.map Side.row:=by rw [hr,hy];simp [List.map_take,List.map_drop]
 have hw4:(i+1).toNat=i.toNat+1:=by omega
 have hw5:((l.length:Int)+1).toNat=l.length+1:=by omega
 refine FunT_room (j:=0) ok81 rfl rfl rfl (by first | rfl | simp [go_sem]) rfl rfl (i<l.length) (fun h=>by rw [hln];omega) (fun w M hc=>?_) (fun w M g cap hq e1 hc e2=>?_)
 ·dsimp only[lun,List.cons_append,List.nil_append]
  refine Zv2 100 ?_
  dsimp only[go_sem]
  refine An ?_
  refine Z53 trivial (Zh6 (l:=i) rfl rfl rfl h0 (by rw [hln];exact h1)) rfl ?_
  refine Zv2 100 ?_
  dsimp only[go_sem]
  refine An ?_
  refine Z32 rfl (fun e=>by simp at e) fun _=>?_
  refine Zv2 100 ?_
  dsimp only[go_sem]
  refine An ?_
  refine Z32 rfl (fun e=>?_) fun hne=>?_
  ·have hi:i=l.length:=by simpa using e
   subst hi
   refine Zv2 100 ?_
   dsimp only[go_sem]
   refine An ?_
   rw [←hv1]
   refine Zu4 Side.row (l':=l) (m':=[v]) (v:=r) ?_ trivial rfl rfl rfl ?_
   ·unfold Zj4;rw [if_pos ⟨by simpa using hb,by simpa using h63⟩,hr];simp
   refine Zv2 100 ?_
   dsimp only[go_sem]
   refine An ?_
   exact Z47 ok81
  ·have hi:i<l.length:=by
    have:¬i=l.length:=by simpa using hne
    omega
   have hc:=hc hi
   have hcl:capV (M.σ 0)<l.length+1:=by simpa [hln] using hc
   refine Zv2 100 ?_
   dsimp only[go_sem]
   refine An ?_
   refine Z53 trivial (Zd6 rfl rfl (by show 0<2;omega)) rfl ?_
   refine Zv2 100 ?_
   dsimp only[go_sem]
   refine An ?_
   rw [show (Ctx.lent Tryz.prog w M [] [some ⟨65,8,l.map Side.row⟩,some ⟨65,8,[y]⟩] 0 2).ps 0=M.σ 0 from rfl]
   simp only [hln,hr1,hw1]
   refine Z32 rfl (fun _=>?_) fun e=>?_
   ·refine Zv2 100 ?_
    dsimp only[go_sem]
    refine An ?_
    refine Z53 trivial (Z46 (l:=0) (h:=i) rfl rfl (by rw [hln]<;>omega) rfl rfl (by omega) h0 (by rw [hln];exact h1)) rfl ?_
    refine Zv2 100 ?_
    dsimp only[go_sem]
    refine An ?_
    simp only [hw1,hw2]
    have hik:i=(i.toNat:Int):=by omega
    refine Z53 trivial (sem_apzV (i:=i.toNat) (m:=(l.length:Int)+1-i) rfl rfl (by rw [hln]<;>omega) (by show 0<2;omega) rfl (by omega) ?_ rfl ?_ (by omega) rfl) rfl ?_
    ·show (capV (M.σ 0):Int)<_;omega
    ·have:(i.toNat:Int)+((l.length:Int)+1-i)=((l.length+1:Nat):Int):=by omega
     rw [this];omega
    refine Zv2 100 ?_
    dsimp only[go_sem]
    refine An ?_
    have hrl:((l.map Side.row).take i.toNat++List.replicate ((l.length:Int)+1-i).toNat [AV.iv 0,AV.iv 0,AV.iv 0,AV.ff,AV.ff,AV.ff,AV.ff,AV.ff]).length=l.length+1:=by
     rw [List.length_append,List.length_take,List.length_replicate,hln];omega
    refine Z53 trivial (Z46 (l:=i) (h:=(l.length:Int)+1) rfl rfl (by rw [hrl]<;>omega) rfl (by simp only [bnd,hrl];rfl) h0 (by omega) (by rw [hrl]<;>omega)) rfl ?_
    refine Zv2 100 ?_
    dsimp only[go_sem]
    refine An ?_
    refine V_asV 44 1 rfl rfl (by show 0<1;omega) ?_
    dsimp only[go_sem]
    refine Z53 trivial (Zi6 ((l.map Side.row).take i.toNat++y::List.replicate ((l.map Side.row).length-i.toNat) [AV.iv 0,AV.iv 0,AV.iv 0,AV.ff,AV.ff,AV.ff,AV.ff,AV.ff]) rfl rfl rfl rfl (by rw [hrl]<;>omega) (by show 0+1≤1;omega) (by rw [hrl]<;>omega) (by show 0<1;omega) (grow1 (by rw [hln]<;>omega) (by rw [hln]<;>omega) (by omega) rfl)) rfl ?_
    refine Zv2 100 ?_
    dsimp only[go_sem]
    refine An ?_
    refine Zz6 fun all H=>?_
    dsimp only[go_sem]
    refine GN H 6 3 ?_
    dsimp only[go_sem]
    refine An ?_
    simp only [hw3]
    have hr2:((l.map Side.row).take i.toNat++y::List.replicate ((l.map Side.row).length-i.toNat) [AV.iv 0,AV.iv 0,AV.iv 0,AV.ff,AV.ff,AV.ff,AV.ff,AV.ff]).length=l.length+1:=by
     rw [List.length_append,List.length_take,List.length_cons,List.length_replicate,hln];omega
    refine Z74 4 7 rfl ?_ ?_
    ·refine Z94 H.1 trivial (Z46 (l:=i+1) (h:=(l.length:Int)+1) rfl rfl (by rw [hr2]<;>omega) rfl (by simp only [bnd,hr2];rfl) (by omega) (by omega) (by rw [hr2]<;>omega)) rfl (Z34 _ _) ?_
     dsimp only[go_sem]
     refine Z64 7 rfl ?_
     refine Z94 H.1 trivial (Z46 (l:=i) (h:=(l.length:Int)) rfl rfl (by rw [hln]<;>omega) rfl (by simp only [bnd,hln]) h0 (by omega) (by rw [hln];exact Int.le_refl _)) rfl (Z34 _ _) ?_
     dsimp only[go_sem]
     refine Z64 8 rfl ?_
     refine Z94 (S1:=⟨_,_,_⟩) H.1 trivial (Zi6 (r.map Side.row) rfl rfl rfl rfl (by rw [hr2]<;>omega) (by rw [hln]<;>omega) (by rw [hr2]<;>omega) (by omega) ?_) rfl (fun _ _ _ _ h _ _=>h) ?_
     ·rw [show (i+1).toNat=i.toNat+1 by omega,←hR]
      exact grow2 (by rw [hln]<;>omega) (by rw [hln]<;>omega) (by rw [hln]<;>omega)
     dsimp only[go_sem]
     refine GD ?_
     refine Zv2 100 ?_
     dsimp only[go_sem]
     refine An ?_
     exact Z47 ok81
    ·refine Z94 H.1 trivial (Z46 (l:=i) (h:=(l.length:Int)) rfl rfl (by rw [hln]<;>omega) rfl (by simp only [bnd,hln]) h0 (by omega) (by rw [hln];exact Int.le_refl _)) rfl (Z34 _ _) ?_
     dsimp only[go_sem]
     refine Z64 4 rfl ?_
     refine Z94 H.1 trivial (Z46 (l:=i+1) (h:=(l.length:Int)+1) rfl rfl (by rw [hr2]<;>omega) rfl (by simp only [bnd,hr2];rfl) (by omega) (by omega) (by rw [hr2]<;>omega)) rfl (Z34 _ _) ?_
     dsimp only[go_sem]
     refine Z64 8 rfl ?_
     refine Z94 (S1:=⟨_,_,_⟩) H.1 trivial (Zi6 (r.map Side.row) rfl rfl rfl rfl (by rw [hr2]<;>omega) (by rw [hln]<;>omega) (by rw [hr2]<;>omega) (by omega) ?_) rfl (fun _ _ _ _ h _ _=>h) ?_
     ·rw [show (i+1).toNat=i.toNat+1 by omega,←hR]
      exact grow2 (by rw [hln]<;>omega) (by rw [hln]<;>omega) (by rw [hln]<;>omega)
     dsimp only[go_sem]
     refine GD ?_
     refine Zv2 100 ?_
     dsimp only[go_sem]
     refine An ?_
     exact Z47 ok81
   ·exact absurd e (by simpa using (by omega:(capV (M.σ 0):Int)<l.length+1))
 ·dsimp only[lun,List.cons_append,List.nil_append]
  have hcn:(Ctx.lent Tryz.prog w M [] [some ⟨65,8,l.map Side.row⟩,some ⟨65,8,[y]⟩,none] 0 3).nq=3:=rfl
  have hp0:(Ctx.lent Tryz.prog w M [] [some ⟨65,8,l.map Side.row⟩,some ⟨65,8,[y]⟩,none] 0 3).ps 0 = .slice (some ⟨g,0,none⟩) l.length cap:=by rw [hln] at e1;exact e1
  have hp2:(Ctx.lent Tryz.prog w M [] [some ⟨65,8,l.map Side.row⟩,some ⟨65,8,[y]⟩,none] 0 3).ps 2 = .slice (some ⟨g,0,none⟩) (l.length+1) cap:=by rw [hln] at e2;exact e2
  have hc:l.length+1≤cap:=by rw [hln] at hc;exact hc
  refine Zv2 100 ?_
  dsimp only[go_sem]
  refine An ?_
  refine Z53 trivial (Zh6 (l:=i) rfl rfl rfl h0 (by rw [hln];exact h1)) rfl ?_
  refine Zv2 100 ?_
  dsimp only[go_sem]
  refine An ?_
  refine Z32 rfl (fun e=>by simp at e) fun _=>?_
  refine Zv2 100 ?_
  dsimp only[go_sem]
  refine An ?_
  refine Z32 rfl (fun e=>?_) fun _=>?_
  ·exfalso
   have:i=l.length:=by simpa using e
   omega
  refine Zv2 100 ?_
  dsimp only[go_sem]
  refine An ?_
  refine Z53 trivial (Zd6 rfl rfl (by show 0<3;omega)) rfl ?_
  rw [hp0]
  refine Zv2 100 ?_
  dsimp only [go_sem,capV]
  refine An ?_
  simp only [hln,hr1,hw1]
  refine Z32 rfl (fun e=>?_) fun _=>?_
  ·exfalso
   have:(cap:Int)<l.length+1:=by simpa using e
   omega
  refine Zv2 100 ?_
  dsimp only[go_sem]
  refine An ?_
  simp only [hw1]
  refine Z53 trivial (Ze6 (h:=(l.length:Int)+1) rfl (by show 0<3;omega) (by show 2<3;omega) hp0 hp2 hc rfl rfl rfl) rfl ?_
  refine Zv2 100 ?_
  dsimp only[go_sem]
  refine An ?_
  simp only [hw3]
  refine Z53 trivial (Zf6 (l:=i+1) (h:=(l.length:Int)+1) rfl (by show 2<3;omega) hp2 hc rfl rfl (by omega) (by omega) (by omega)) rfl ?_
  refine Zv2 100 ?_
  dsimp only[go_sem]
  refine An ?_
  refine Z53 trivial (sem_ovl (ft:=Tryz.f119) (tS:=23) (tR:=4) (e:=65) (j:=0) (by kernel_rfl) (by kernel_rfl) (by kernel_rfl) (by kernel_rfl) (by kernel_rfl) (by kernel_rfl) (by kernel_rfl) rfl rfl rfl rfl (by omega) (by show 0<1;omega) (by show 0<(l.map Side.row).length;rw [hln];omega) (by show 0<3;omega) (by show 2<3;omega) hp0 hp2) rfl ?_
  refine Zv2 100 ?_
  dsimp only[go_sem]
  refine An ?_
  have hrs:((l.map Side.row).take (i.toNat+1)++(l.map Side.row).drop i.toNat).length=l.length+1:=by rw [List.length_append,List.length_take,List.length_drop,hln];omega
  refine Zz6 fun all H=>?_
  dsimp only[go_sem]
  refine GN H 6 3 ?_
  dsimp only[go_sem]
  refine An ?_
  simp only [hw3]
  refine Z74 4 7 rfl ?_ ?_
  ·refine Z94 H.1 trivial (Zf6 (l:=i+1) (h:=(l.length:Int)+1) rfl (by show 2<3;omega) hp2 hc rfl rfl (by omega) (by omega) (by omega)) rfl (Z34 _ _) ?_
   dsimp only[go_sem]
   refine Z64 7 rfl ?_
   refine Z94 H.1 trivial (Zf6 (l:=i) (h:=(l.length:Int)+1) rfl (by show 2<3;omega) hp2 hc rfl rfl h0 (by omega) (by omega)) rfl (Z34 _ _) ?_
   dsimp only[go_sem]
   simp only [hw4,hw5,Nat.add_sub_add_right]
   refine Z64 8 rfl ?_
   refine Z94 (S1:=⟨_,_,_⟩) H.1 trivial (Zg6 (i:=i.toNat) rfl rfl rfl hln (by omega) (by show 2<3;omega) (by show 0<3;omega) (by show 2<3;omega) hp0 hp2 hc) rfl (fun _ _ _ _ h _ _=>h) ?_
   dsimp only[go_sem]
   refine GD ?_
   refine Zv2 100 ?_
   dsimp only[go_sem]
   refine An ?_
   refine Z53 trivial (Zf6 (l:=i) (h:=(l.length:Int)+1) rfl (by show 2<3;omega) hp2 hc rfl rfl h0 (by omega) (by omega)) rfl ?_
   refine Zv2 100 ?_
   dsimp only[go_sem]
   refine An ?_
   refine V_asV 81 1 rfl rfl (by show 0<1;omega) ?_
   dsimp only[go_sem]
   refine Z53 trivial (Zi6 (r.map Side.row) rfl rfl rfl rfl (by rw [hrs,hw5]<;>omega) (by show 0+1≤1;omega) (by rw [hrs]<;>omega) (by show 0<1;omega) (by rw [←hR];exact shift1 (by rw [hln]<;>omega) (by omega) rfl)) rfl ?_
   refine Zv2 100 ?_
   dsimp only[go_sem]
   refine An ?_
   exact Z47 ok81
  ·refine Z94 H.1 trivial (Zf6 (l:=i) (h:=(l.length:Int)+1) rfl (by show 2<3;omega) hp2 hc rfl rfl h0 (by omega) (by omega)) rfl (Z34 _ _) ?_
   dsimp only[go_sem]
   refine Z64 4 rfl ?_
   refine Z94 H.1 trivial (Zf6 (l:=i+1) (h:=(l.length:Int)+1) rfl (by show 2<3;omega) hp2 hc rfl rfl (by omega) (by omega) (by omega)) rfl (Z34 _ _) ?_
   dsimp only[go_sem]
   simp only [hw4,hw5,Nat.add_sub_add_right]
   refine Z64 8 rfl ?_
   refine Z94 (S1:=⟨_,_,_⟩) H.1 trivial (Zg6 (i:=i.toNat) rfl rfl rfl hln (by omega) (by show 2<3;omega) (by show 0<3;omega) (by show 2<3;omega) hp0 hp2 hc) rfl (fun _ _ _ _ h _ _=>h) ?_
   dsimp only[go_sem]
   refine GD ?_
   refine Zv2 100 ?_
   dsimp only[go_sem]
   refine An ?_
   refine Z53 trivial (Zf6 (l:=i) (h:=(l.length:Int)+1) rfl (by show 2<3;omega) hp2 hc rfl rfl h0 (by omega) (by omega)) rfl ?_
   refine Zv2 100 ?_
   dsimp only[go_sem]
   refine An ?_
   refine V_asV 81 1 rfl rfl (by show 0<1;omega) ?_
   dsimp only[go_sem]
   refine Z53 trivial (Zi6 (r.map Side.row) rfl rfl rfl rfl (by rw [hrs,hw5]<;>omega) (by show 0+1≤1;omega) (by rw [hrs]<;>omega) (by show 0<1;omega) (by rw [←hR];exact shift1 (by rw [hln]<;>omega) (by omega) rfl)) rfl ?_
   refine Zv2 100 ?_
   dsimp only[go_sem]
   refine An ?_
   exact Z47 ok81
def Zsg (l:List KE) (i:Int) (vs:List KE):Option (List KE):=insS_ 16 l i vs
theorem Ztg (l:List KE) (i:Int) (vs:List KE) (r:List KE) (h:Zsg l i vs=some r):
  Zq5 Tryz.prog 123 [.osl 0,.iv i,.osl 1] [] [some ⟨95,2,l.map KE.row⟩,some ⟨95,2,List.map KE.row vs⟩] (.osl 2) [] [none,none,some ⟨95,2,r.map KE.row⟩]:=by
 obtain ⟨v,rfl,h⟩:=insS_some h
 obtain ⟨hr,h0,h1,hb,h63⟩:=ins_some h
 have hln:(l.map KE.row).length=l.length:=List.length_map _
 have hw1:wr ((l.length:Int)+1)=(l.length:Int)+1:=IntWalk.i64_in _ ⟨by omega,by omega⟩
 have hw2:wr ((l.length:Int)+1-i)=(l.length:Int)+1-i:=IntWalk.i64_in _ ⟨by omega,by omega⟩
 have hw3:wr (i+1)=i+1:=IntWalk.i64_in _ ⟨by omega,by omega⟩
 obtain ⟨y,hy⟩:∃y,y=v.row:=⟨_,rfl⟩
 have hv1: [v].map KE.row=[y]:=by rw [hy];rfl
 rw [hv1]
 have hr1:(([y]:List (List AV)).length:Int)=1:=rfl
 have hR:(l.map KE.row).take i.toNat++y::(l.map KE.row).drop i.toNat=r.map KE.row:=by rw [hr,hy];simp [List.map_take,List.map_drop]
 have hw4:(i+1).toNat=i.toNat+1:=by omega
 have hw5:((l.length:Int)+1).toNat=l.length+1:=by omega
 refine FunT_room (j:=0) ok123 rfl rfl rfl (by first | rfl | simp [go_sem]) rfl rfl (i<l.length) (fun h=>by rw [hln];omega) (fun w M hc=>?_) (fun w M g cap hq e1 hc e2=>?_)
 ·dsimp only[lun,List.cons_append,List.nil_append]
  refine Zv2 100 ?_
  dsimp only[go_sem]
  refine An ?_
  refine Z53 trivial (Zh6 (l:=i) rfl rfl rfl h0 (by rw [hln];exact h1)) rfl ?_
  refine Zv2 100 ?_
  dsimp only[go_sem]
  refine An ?_
  refine Z32 rfl (fun e=>by simp at e) fun _=>?_
  refine Zv2 100 ?_
  dsimp only[go_sem]
  refine An ?_
  refine Z32 rfl (fun e=>?_) fun hne=>?_
  ·have hi:i=l.length:=by simpa using e
   subst hi
   refine Zv2 100 ?_
   dsimp only[go_sem]
   refine An ?_
   rw [←hv1]
   refine Zu4 KE.row (l':=l) (m':=[v]) (v:=r) ?_ trivial rfl rfl rfl ?_
   ·unfold Zj4;rw [if_pos ⟨by simpa using hb,by simpa using h63⟩,hr];simp
   refine Zv2 100 ?_
   dsimp only[go_sem]
   refine An ?_
   exact Z47 ok123
  ·have hi:i<l.length:=by
    have:¬i=l.length:=by simpa using hne
    omega
   have hc:=hc hi
   have hcl:capV (M.σ 0)<l.length+1:=by simpa [hln] using hc
   refine Zv2 100 ?_
   dsimp only[go_sem]
   refine An ?_
   refine Z53 trivial (Zd6 rfl rfl (by show 0<2;omega)) rfl ?_
   refine Zv2 100 ?_
   dsimp only[go_sem]
   refine An ?_
   rw [show (Ctx.lent Tryz.prog w M [] [some ⟨95,2,l.map KE.row⟩,some ⟨95,2,[y]⟩] 0 2).ps 0=M.σ 0 from rfl]
   simp only [hln,hr1,hw1]
   refine Z32 rfl (fun _=>?_) fun e=>?_
   ·refine Zv2 100 ?_
    dsimp only[go_sem]
    refine An ?_
    refine Z53 trivial (Z46 (l:=0) (h:=i) rfl rfl (by rw [hln]<;>omega) rfl rfl (by omega) h0 (by rw [hln];exact h1)) rfl ?_
    refine Zv2 100 ?_
    dsimp only[go_sem]
    refine An ?_
    simp only [hw1,hw2]
    have hik:i=(i.toNat:Int):=by omega
    refine Z53 trivial (sem_apzV (i:=i.toNat) (m:=(l.length:Int)+1-i) rfl rfl (by rw [hln]<;>omega) (by show 0<2;omega) rfl (by omega) ?_ rfl ?_ (by omega) rfl) rfl ?_
    ·show (capV (M.σ 0):Int)<_;omega
    ·have:(i.toNat:Int)+((l.length:Int)+1-i)=((l.length+1:Nat):Int):=by omega
     rw [this];omega
    refine Zv2 100 ?_
    dsimp only[go_sem]
    refine An ?_
    have hrl:((l.map KE.row).take i.toNat++List.replicate ((l.length:Int)+1-i).toNat [AV.iv 0,AV.iv 0]).length=l.length+1:=by
     rw [List.length_append,List.length_take,List.length_replicate,hln];omega
    refine Z53 trivial (Z46 (l:=i) (h:=(l.length:Int)+1) rfl rfl (by rw [hrl]<;>omega) rfl (by simp only [bnd,hrl];rfl) h0 (by omega) (by rw [hrl]<;>omega)) rfl ?_
    refine Zv2 100 ?_
    dsimp only[go_sem]
    refine An ?_
    refine V_asV 44 1 rfl rfl (by show 0<1;omega) ?_
    dsimp only[go_sem]
    refine Z53 trivial (Zi6 ((l.map KE.row).take i.toNat++y::List.replicate ((l.map KE.row).length-i.toNat) [AV.iv 0,AV.iv 0]) rfl rfl rfl rfl (by rw [hrl]<;>omega) (by show 0+1≤1;omega) (by rw [hrl]<;>omega) (by show 0<1;omega) (grow1 (by rw [hln]<;>omega) (by rw [hln]<;>omega) (by omega) rfl)) rfl ?_
    refine Zv2 100 ?_
    dsimp only[go_sem]
    refine An ?_
    refine Zz6 fun all H=>?_
    dsimp only[go_sem]
    refine GN H 6 3 ?_
    dsimp only[go_sem]
    refine An ?_
    simp only [hw3]
    have hr2:((l.map KE.row).take i.toNat++y::List.replicate ((l.map KE.row).length-i.toNat) [AV.iv 0,AV.iv 0]).length=l.length+1:=by
     rw [List.length_append,List.length_take,List.length_cons,List.length_replicate,hln];omega
    refine Z74 4 7 rfl ?_ ?_
    ·refine Z94 H.1 trivial (Z46 (l:=i+1) (h:=(l.length:Int)+1) rfl rfl (by rw [hr2]<;>omega) rfl (by simp only [bnd,hr2];rfl) (by omega) (by omega) (by rw [hr2]<;>omega)) rfl (Z34 _ _) ?_
     dsimp only[go_sem]
     refine Z64 7 rfl ?_
     refine Z94 H.1 trivial (Z46 (l:=i) (h:=(l.length:Int)) rfl rfl (by rw [hln]<;>omega) rfl (by simp only [bnd,hln]) h0 (by omega) (by rw [hln];exact Int.le_refl _)) rfl (Z34 _ _) ?_
     dsimp only[go_sem]
     refine Z64 8 rfl ?_
     refine Z94 (S1:=⟨_,_,_⟩) H.1 trivial (Zi6 (r.map KE.row) rfl rfl rfl rfl (by rw [hr2]<;>omega) (by rw [hln]<;>omega) (by rw [hr2]<;>omega) (by omega) ?_) rfl (fun _ _ _ _ h _ _=>h) ?_
     ·rw [show (i+1).toNat=i.toNat+1 by omega,←hR]
      exact grow2 (by rw [hln]<;>omega) (by rw [hln]<;>omega) (by rw [hln]<;>omega)
     dsimp only[go_sem]
     refine GD ?_
     refine Zv2 100 ?_
     dsimp only[go_sem]
     refine An ?_
     exact Z47 ok123
    ·refine Z94 H.1 trivial (Z46 (l:=i) (h:=(l.length:Int)) rfl rfl (by rw [hln]<;>omega) rfl (by simp only [bnd,hln]) h0 (by omega) (by rw [hln];exact Int.le_refl _)) rfl (Z34 _ _) ?_
     dsimp only[go_sem]
     refine Z64 4 rfl ?_
     refine Z94 H.1 trivial (Z46 (l:=i+1) (h:=(l.length:Int)+1) rfl rfl (by rw [hr2]<;>omega) rfl (by simp only [bnd,hr2];rfl) (by omega) (by omega) (by rw [hr2]<;>omega)) rfl (Z34 _ _) ?_
     dsimp only[go_sem]
     refine Z64 8 rfl ?_
     refine Z94 (S1:=⟨_,_,_⟩) H.1 trivial (Zi6 (r.map KE.row) rfl rfl rfl rfl (by rw [hr2]<;>omega) (by rw [hln]<;>omega) (by rw [hr2]<;>omega) (by omega) ?_) rfl (fun _ _ _ _ h _ _=>h) ?_
     ·rw [show (i+1).toNat=i.toNat+1 by omega,←hR]
      exact grow2 (by rw [hln]<;>omega) (by rw [hln]<;>omega) (by rw [hln]<;>omega)
     dsimp only[go_sem]
     refine GD ?_
     refine Zv2 100 ?_
     dsimp only[go_sem]
     refine An ?_
     exact Z47 ok123
   ·exact absurd e (by simpa using (by omega:(capV (M.σ 0):Int)<l.length+1))
 ·dsimp only[lun,List.cons_append,List.nil_append]
  have hcn:(Ctx.lent Tryz.prog w M [] [some ⟨95,2,l.map KE.row⟩,some ⟨95,2,[y]⟩,none] 0 3).nq=3:=rfl
  have hp0:(Ctx.lent Tryz.prog w M [] [some ⟨95,2,l.map KE.row⟩,some ⟨95,2,[y]⟩,none] 0 3).ps 0 = .slice (some ⟨g,0,none⟩) l.length cap:=by rw [hln] at e1;exact e1
  have hp2:(Ctx.lent Tryz.prog w M [] [some ⟨95,2,l.map KE.row⟩,some ⟨95,2,[y]⟩,none] 0 3).ps 2 = .slice (some ⟨g,0,none⟩) (l.length+1) cap:=by rw [hln] at e2;exact e2
  have hc:l.length+1≤cap:=by rw [hln] at hc;exact hc
  refine Zv2 100 ?_
  dsimp only[go_sem]
  refine An ?_
  refine Z53 trivial (Zh6 (l:=i) rfl rfl rfl h0 (by rw [hln];exact h1)) rfl ?_
  refine Zv2 100 ?_
  dsimp only[go_sem]
  refine An ?_
  refine Z32 rfl (fun e=>by simp at e) fun _=>?_
  refine Zv2 100 ?_
  dsimp only[go_sem]
  refine An ?_
  refine Z32 rfl (fun e=>?_) fun _=>?_
  ·exfalso
   have:i=l.length:=by simpa using e
   omega
  refine Zv2 100 ?_
  dsimp only[go_sem]
  refine An ?_
  refine Z53 trivial (Zd6 rfl rfl (by show 0<3;omega)) rfl ?_
  rw [hp0]
  refine Zv2 100 ?_
  dsimp only [go_sem,capV]
  refine An ?_
  simp only [hln,hr1,hw1]
  refine Z32 rfl (fun e=>?_) fun _=>?_
  ·exfalso
   have:(cap:Int)<l.length+1:=by simpa using e
   omega
  refine Zv2 100 ?_
  dsimp only[go_sem]
  refine An ?_
  simp only [hw1]
  refine Z53 trivial (Ze6 (h:=(l.length:Int)+1) rfl (by show 0<3;omega) (by show 2<3;omega) hp0 hp2 hc rfl rfl rfl) rfl ?_
  refine Zv2 100 ?_
  dsimp only[go_sem]
  refine An ?_
  simp only [hw3]
  refine Z53 trivial (Zf6 (l:=i+1) (h:=(l.length:Int)+1) rfl (by show 2<3;omega) hp2 hc rfl rfl (by omega) (by omega) (by omega)) rfl ?_
  refine Zv2 100 ?_
  dsimp only[go_sem]
  refine An ?_
  refine Z53 trivial (sem_ovl (ft:=Tryz.f151) (tS:=33) (tR:=4) (e:=95) (j:=0) (by kernel_rfl) (by kernel_rfl) (by kernel_rfl) (by kernel_rfl) (by kernel_rfl) (by kernel_rfl) (by kernel_rfl) rfl rfl rfl rfl (by omega) (by show 0<1;omega) (by show 0<(l.map KE.row).length;rw [hln];omega) (by show 0<3;omega) (by show 2<3;omega) hp0 hp2) rfl ?_
  refine Zv2 100 ?_
  dsimp only[go_sem]
  refine An ?_
  have hrs:((l.map KE.row).take (i.toNat+1)++(l.map KE.row).drop i.toNat).length=l.length+1:=by rw [List.length_append,List.length_take,List.length_drop,hln];omega
  refine Zz6 fun all H=>?_
  dsimp only[go_sem]
  refine GN H 6 3 ?_
  dsimp only[go_sem]
  refine An ?_
  simp only [hw3]
  refine Z74 4 7 rfl ?_ ?_
  ·refine Z94 H.1 trivial (Zf6 (l:=i+1) (h:=(l.length:Int)+1) rfl (by show 2<3;omega) hp2 hc rfl rfl (by omega) (by omega) (by omega)) rfl (Z34 _ _) ?_
   dsimp only[go_sem]
   refine Z64 7 rfl ?_
   refine Z94 H.1 trivial (Zf6 (l:=i) (h:=(l.length:Int)+1) rfl (by show 2<3;omega) hp2 hc rfl rfl h0 (by omega) (by omega)) rfl (Z34 _ _) ?_
   dsimp only[go_sem]
   simp only [hw4,hw5,Nat.add_sub_add_right]
   refine Z64 8 rfl ?_
   refine Z94 (S1:=⟨_,_,_⟩) H.1 trivial (Zg6 (i:=i.toNat) rfl rfl rfl hln (by omega) (by show 2<3;omega) (by show 0<3;omega) (by show 2<3;omega) hp0 hp2 hc) rfl (fun _ _ _ _ h _ _=>h) ?_
   dsimp only[go_sem]
   refine GD ?_
   refine Zv2 100 ?_
   dsimp only[go_sem]
   refine An ?_
   refine Z53 trivial (Zf6 (l:=i) (h:=(l.length:Int)+1) rfl (by show 2<3;omega) hp2 hc rfl rfl h0 (by omega) (by omega)) rfl ?_
   refine Zv2 100 ?_
   dsimp only[go_sem]
   refine An ?_
   refine V_asV 81 1 rfl rfl (by show 0<1;omega) ?_
   dsimp only[go_sem]
   refine Z53 trivial (Zi6 (r.map KE.row) rfl rfl rfl rfl (by rw [hrs,hw5]<;>omega) (by show 0+1≤1;omega) (by rw [hrs]<;>omega) (by show 0<1;omega) (by rw [←hR];exact shift1 (by rw [hln]<;>omega) (by omega) rfl)) rfl ?_
   refine Zv2 100 ?_
   dsimp only[go_sem]
   refine An ?_
   exact Z47 ok123
  ·refine Z94 H.1 trivial (Zf6 (l:=i) (h:=(l.length:Int)+1) rfl (by show 2<3;omega) hp2 hc rfl rfl h0 (by omega) (by omega)) rfl (Z34 _ _) ?_
   dsimp only[go_sem]
   refine Z64 4 rfl ?_
   refine Z94 H.1 trivial (Zf6 (l:=i+1) (h:=(l.length:Int)+1) rfl (by show 2<3;omega) hp2 hc rfl rfl (by omega) (by omega) (by omega)) rfl (Z34 _ _) ?_
   dsimp only[go_sem]
   simp only [hw4,hw5,Nat.add_sub_add_right]
   refine Z64 8 rfl ?_
   refine Z94 (S1:=⟨_,_,_⟩) H.1 trivial (Zg6 (i:=i.toNat) rfl rfl rfl hln (by omega) (by show 2<3;omega) (by show 0<3;omega) (by show 2<3;omega) hp0 hp2 hc) rfl (fun _ _ _ _ h _ _=>h) ?_
   dsimp only[go_sem]
   refine GD ?_
   refine Zv2 100 ?_
   dsimp only[go_sem]
   refine An ?_
   refine Z53 trivial (Zf6 (l:=i) (h:=(l.length:Int)+1) rfl (by show 2<3;omega) hp2 hc rfl rfl h0 (by omega) (by omega)) rfl ?_
   refine Zv2 100 ?_
   dsimp only[go_sem]
   refine An ?_
   refine V_asV 81 1 rfl rfl (by show 0<1;omega) ?_
   dsimp only[go_sem]
   refine Z53 trivial (Zi6 (r.map KE.row) rfl rfl rfl rfl (by rw [hrs,hw5]<;>omega) (by show 0+1≤1;omega) (by rw [hrs]<;>omega) (by show 0<1;omega) (by rw [←hR];exact shift1 (by rw [hln]<;>omega) (by omega) rfl)) rfl ?_
   refine Zv2 100 ?_
   dsimp only[go_sem]
   refine An ?_
   exact Z47 ok123
def Zug (x5:Bool):List Int→Option (Bool×List Int)
| x7=>
 some (x5,x7)
def Zvg (x1:Sess) (x3:List Int):Bool→Option (Bool×List Int)
| x5=>
 ifb x5 (
 (Zj4 8 x3 ([x1.ID])).bind fun x6=>
 (Zug x5) x6) (
 (Zug x5) x3)
def Zwg (x1:Sess) (x2:Int) (x3:List Int):Option (Bool×List Int):=
 ifb (decide (x1.State=0)) (
 (Zgd x1.Need x2).bind fun x4=>
 (Zvg x1 x3) x4) (
 (Zvg x1 x3) false)
theorem Zxg (x1:Sess) (x2:Int) (x3:List Int) (r:(Bool×List Int)) (h:Zwg x1 x2 x3=some r):Zq5 Tryz.prog 125 [.agg (Sess.row x1),.ptr 0 0,.ptr 1 0] [some ⟨3,[.iv x2]⟩,some ⟨27,[.osl 0]⟩] [Sq7 x3] (.bv r.1) [some ⟨3,[.iv x2]⟩,some ⟨27,[.osl 2]⟩] [none,none,Sq7 r.2]:=by
 refine FT ok125 fun w0 M0=>?_
 rw [Zwg] at h
 dsimp only[lun,List.cons_append,List.nil_append]
 refine Vg 11 ?_;refine Zo4 (fun (x5:Bool)=>⟨(.any :: .any :: .ptr 1 0 :: .ptr 2 0 :: .any :: .bv x5::an 16 []),[some ⟨3,[.iv x2]⟩,some ⟨27,[.osl 0]⟩,some ⟨60,Sess.row x1⟩],[Sq7 x3]⟩) (Zvg x1 x3) r ?_ fun J1=>?_
 ·intro x5 h;rw [Zvg] at h;(try dsimp only);refine Vg 5 ?_;refine Zo4 (fun (x7:List Int)=>⟨an 5 (.bv x5::an 16 []),[some ⟨3,[.iv x2]⟩,some ⟨27,[.osl 2]⟩],[none,none,Sq7 x7]⟩) (Zug x5) r ?_ fun J2=>?_
  ·intro x7 h;rw [Zug] at h;(try dsimp only);refine Vg 5 ?_;obtain rfl:=Option.some.inj h;exact Z47 ok125
  ·refine MI h (fun h=>?_) fun h=>?_
   ·refine Vg 5 ?_;have ⟨x6,ex6,h⟩:=Bs h;refine Zu4 Z05 ex6 trivial rfl rfl rfl (Vg 2 ?_);exact Zx4 J2 h
   ·refine Vg 1 ?_;refine Z37 3 1 ?_;dsimp only[go_sem];refine Z37 3 1 ?_;dsimp only[go_sem];refine Z07 0 2 ?_;dsimp only[go_sem];exact Zx4 J2 h
 ·refine MC 9 h (fun h=>?_) fun h=>?_
  ·refine Vg 3 ?_;have ⟨x4,ex4,h⟩:=Bs h;refine VC (Zhd x1.Need x2 _ ex4) (Vg 3 ?_);exact Zx4 J1 h
  ·refine Vg 7 ?_;exact Zx4 J1 h
def Zyg (x61:List Side) (x62:List Mail):Int→Option (Int×List Side×List Mail)
| x64=>
 some (x64,x61,x62)
def Zzg (x3:Int) (x61:List Side) (x62:List Mail):Bool→Option (Int×List Side×List Mail)
| x63=>
 ifb x63 (
 (Zyg x61 x62) 2) (
 (Zyg x61 x62) x3)
def Z0h (x3:Int):(Bool×List Side×List Mail)→Option (Int×List Side×List Mail)
| (x60,x61,x62)=>
 ifb (decide (x3=1)) (
 (Zzg x3 x61 x62) x60) (
 (Zzg x3 x61 x62) false)
def Z1h (x28:Int) (x43:List Side) (x44:List Mail):Bool→Option ((Bool×Int×List Side×List Mail) ⊕ (Int×List Side×List Mail))
| x46=>
 some (.inl (x46,wr (x28+1),x43,x44))
def Z2h (x27:Bool) (x28:Int) (x33:Bool):(List Side×List Mail)→Option ((Bool×Int×List Side×List Mail) ⊕ (Int×List Side×List Mail))
| (x43,x44)=>
 ifb x27 (
 ifb (!x33) (
 (Z1h x28 x43 x44) true) (
 (at_ x43 x28).bind fun x45=>
 (Z1h x28 x43 x44) x45.BO)) (
 (Z1h x28 x43 x44) false)
def Z3h (x1 x2 x3:Int) (x5:List Int) (x27:Bool) (x28:Int) (x33:Bool) (x37:List Side) (x38:List Mail):Bool→Option ((Bool×Int×List Side×List Mail) ⊕ (Int×List Side×List Mail))
| x40=>
 ifb x40 (
 (at_ x37 x28).bind fun x41=>
 (Zlc (Side.mk x41.Peer x41.Epoch x41.State x41.Fork x41.DY x41.Token x41.BO false) 4 x1 x2 x3 (x37.set (Int.toNat (x28)) (Side.mk x41.Peer x41.Epoch x41.State x41.Fork x41.DY x41.Token x41.BO false)) x5 x38).bind fun x42=>
 (Z2h x27 x28 x33) ((x37.set (Int.toNat (x28)) (Side.mk x41.Peer x41.Epoch x41.State x41.Fork x41.DY x41.Token x41.BO false)),x42)) (
 (Z2h x27 x28 x33) (x37,x38))
def Z4h (x1 x2 x3:Int) (x5:List Int) (x27:Bool) (x28:Int) (x33:Bool):(List Side×List Mail)→Option ((Bool×Int×List Side×List Mail) ⊕ (Int×List Side×List Mail))
| (x37,x38)=>
 ifb (decide (x3=1)) (
 ifb x33 (
 (at_ x37 x28).bind fun x39=>
 ifb x39.Ask (
 (Z3h x1 x2 x3 x5 x27 x28 x33 x37 x38) (!x39.BO)) (
 (Z3h x1 x2 x3 x5 x27 x28 x33 x37 x38) false)) (
 (Z3h x1 x2 x3 x5 x27 x28 x33 x37 x38) false)) (
 (Z3h x1 x2 x3 x5 x27 x28 x33 x37 x38) false)
def Z5h (x1 x2 x3:Int) (x5:List Int) (x27:Bool) (x28:Int) (x29:List Side) (x30:List Mail) (x31:Side) (x33:Bool):Bool→Option ((Bool×Int×List Side×List Mail) ⊕ (Int×List Side×List Mail))
| x35=>
 ifb x35 (
 (Zlc (Side.mk x31.Peer x31.Epoch x31.State x31.Fork x31.DY x31.Token false x31.Ask) 3 x1 x2 x3 (x29.set (Int.toNat (x28)) (Side.mk x31.Peer x31.Epoch x31.State x31.Fork x31.DY x31.Token false x31.Ask)) x5 x30).bind fun x36=>
 (Z4h x1 x2 x3 x5 x27 x28 x33) ((x29.set (Int.toNat (x28)) (Side.mk x31.Peer x31.Epoch x31.State x31.Fork x31.DY x31.Token false x31.Ask)),x36)) (
 (Z4h x1 x2 x3 x5 x27 x28 x33) (x29,x30))
def Z6h (x1 x2 x3:Int) (x5:List Int) (x27:Bool) (x28:Int) (x29:List Side) (x30:List Mail) (x31:Side) (x33:Bool):Bool→Option ((Bool×Int×List Side×List Mail) ⊕ (Int×List Side×List Mail))
| x34=>
 ifb x31.BO (
 ifb x31.Ask (
 (Z5h x1 x2 x3 x5 x27 x28 x29 x30 x31 x33) (!x34)) (
 (Z5h x1 x2 x3 x5 x27 x28 x29 x30 x31 x33) false)) (
 (Z5h x1 x2 x3 x5 x27 x28 x29 x30 x31 x33) false)
def Z7h (x1 x2 x3:Int) (x5:List Int) (x27:Bool) (x28:Int) (x29:List Side) (x30:List Mail) (x31:Side):Bool→Option ((Bool×Int×List Side×List Mail) ⊕ (Int×List Side×List Mail))
| x33=>
 ifb x33 (
 ifb (decide (x3=2)) (
 (Z6h x1 x2 x3 x5 x27 x28 x29 x30 x31 x33) true) (
 ifb (decide (x3=1)) (
 (Z6h x1 x2 x3 x5 x27 x28 x29 x30 x31 x33) x31.Fork) (
 (Z6h x1 x2 x3 x5 x27 x28 x29 x30 x31 x33) false))) (
 (Z6h x1 x2 x3 x5 x27 x28 x29 x30 x31 x33) false)
def Z8h (x1 x2 x3:Int) (x4:List Side) (x5:List Int):(Bool×Int×List Side×List Mail)→Option ((Bool×Int×List Side×List Mail) ⊕ (Int×List Side×List Mail))
| (x27,x28,x29,x30)=>
 ifb (decide (x28<(ln Side.row x4))) (
 (at_ x29 x28).bind fun x31=>
 (Zgd x5 x31.Peer).bind fun x32=>
 (Z7h x1 x2 x3 x5 x27 x28 x29 x30 x31) x32) (
 Option.map Sum.inr ((Z0h x3) (x27,x29,x30)))
def Z9h (x1 x2 x3:Int) (x4:List Side) (x5:List Int) (x6:List Mail):Option (Int×List Side×List Mail):=
 loop (Z8h x1 x2 x3 x4 x5) (true,0,x4,x6)
theorem Zah (x1 x2 x3:Int) (x4:List Side) (x5:List Int) (x6:List Mail) (r:(Int×List Side×List Mail)) (h:Z9h x1 x2 x3 x4 x5 x6=some r):Zq5 Tryz.prog 175 [.ptr 0 0] [some ⟨178,[.iv x1,.iv x2,.osl 0,.iv x3,.osl 1,.osl 2]⟩] [Sq6 x4,Sq7 x5,Za7 x6] (.tup []) [some ⟨178,[.iv x1,.iv x2,.osl 0,.iv r.1,.osl 1,.osl 4]⟩] [Sq6 r.2.1,Sq7 x5,none,none,Za7 r.2.2]:=by
 refine FT ok175 fun w0 M0=>?_
 rw [Z9h] at h
 dsimp only[lun,List.cons_append,List.nil_append]
 refine Vg 16 ?_;refine Zo4 (fun ((x60,x61,x62):(Bool×List Side×List Mail))=>⟨(.ptr 0 0 :: .any :: .bv x60::an 132 []),[some ⟨178,[.iv x1,.iv x2,.osl 0,.iv x3,.osl 1,.osl 4]⟩],[Sq6 x61,Sq7 x5,none,none,Za7 x62]⟩) (Z0h x3) r ?_ fun J1=>?_
 ·rintro ⟨x60,x61,x62⟩ h;rw [Z0h] at h;(try dsimp only);refine Vg 9 ?_;refine Zo4 (fun (x63:Bool)=>⟨(.ptr 0 0::an 129 (.bv x63::an 4 [])),[some ⟨178,[.iv x1,.iv x2,.osl 0,.iv x3,.osl 1,.osl 4]⟩],[Sq6 x61,Sq7 x5,none,none,Za7 x62]⟩) (Zzg x3 x61 x62) r ?_ fun J9=>?_
  ·intro x63 h;rw [Zzg] at h;(try dsimp only);refine Zo4 (fun (x64:Int)=>⟨an 135 [],[some ⟨178,[.iv x1,.iv x2,.osl 0,.iv x64,.osl 1,.osl 4]⟩],[Sq6 x61,Sq7 x5,none,none,Za7 x62]⟩) (Zyg x61 x62) r ?_ fun J10=>?_
   ·intro x64 h;rw [Zyg] at h;(try dsimp only);obtain rfl:=Option.some.inj h;exact Z57 ok175
   ·refine MI h (fun h=>?_) fun h=>?_
    ·refine Vg 7 ?_;exact Zx4 J10 h
    ·refine Vg 1 ?_;exact Zx4 J10 h
  ·refine MC 128 h (fun h=>?_) fun h=>?_
   ·refine Vg 3 ?_;exact Zx4 J9 h
   ·refine Vg 3 ?_;exact Zx4 J9 h
 ·refine Vg 1 ?_;refine Z37 74 5 ?_;dsimp only[go_sem];refine Z37 74 5 ?_;dsimp only[go_sem];refine Z07 2 4 ?_;dsimp only[go_sem]
  refine Zp4 h (fun ((x27,x28,x29,x30):(Bool×Int×List Side×List Mail))=>⟨(.ptr 0 0 :: .any :: .bv x27::an 10 (.iv (ln Side.row x4) :: .iv x28::an 120 [])),[some ⟨178,[.iv x1,.iv x2,.osl 0,.iv x3,.osl 1,.osl 4]⟩],[Sq6 x29,Sq7 x5,none,none,Za7 x30]⟩) (by simp [go_sem]) (by rintro ⟨x27,x28,x29,x30⟩;first | rfl | simp [go_sem]) ?_;rintro n1 ⟨x27,x28,x29,x30⟩ y1 h hin1 hout1;rw [Z8h] at h;(try dsimp only);refine Zv2 5 ?_
  dsimp only[go_sem];refine An (MI h (fun h=>?_) fun h=>?_)
  ·refine Vg 17 ?_;have ⟨x31,ex31,h⟩:=Bs h;refine Zd5 Side.row ex31 trivial rfl rfl rfl (Vg 3 ?_)
   refine Zo4 (fun (x33:Bool)=>⟨(.ptr 0 0 :: .any :: .bv x27 :: .any :: .oel 0 (Int.toNat (x28)*8) 0 :: .bv x33::an 7 (.iv (ln Side.row x4) :: .iv x28::an 120 [])),[some ⟨178,[.iv x1,.iv x2,.osl 0,.iv x3,.osl 1,.osl 4]⟩],[Sq6 x29,Sq7 x5,none,none,Za7 x30]⟩) (Z7h x1 x2 x3 x5 x27 x28 x29 x30 x31) y1 ?_ fun J2=>?_
   ·intro x33 h;rw [Z7h] at h;(try dsimp only);refine Vg 4 ?_;refine Zo4 (fun (x34:Bool)=>⟨(.ptr 0 0 :: .any :: .bv x27 :: .any :: .oel 0 (Int.toNat (x28)*8) 0 :: .bv x33 :: .bv x34::an 6 (.iv (ln Side.row x4) :: .iv x28::an 120 [])),[some ⟨178,[.iv x1,.iv x2,.osl 0,.iv x3,.osl 1,.osl 4]⟩],[Sq6 x29,Sq7 x5,none,none,Za7 x30]⟩) (Z6h x1 x2 x3 x5 x27 x28 x29 x30 x31 x33) y1 ?_ fun J3=>?_
    ·intro x34 h;rw [Z6h] at h;(try dsimp only);refine Vg 6 ?_;refine Zf5 Side.row ex31 trivial rfl rfl rfl (Vg 1 ?_)
     refine Zo4 (fun (x35:Bool)=>⟨(.ptr 0 0 :: .any :: .bv x27 :: .any :: .oel 0 (Int.toNat (x28)*8) 0 :: .bv x33::an 7 (.iv (ln Side.row x4) :: .iv x28::an 56 (.bv x35::an 63 []))),[some ⟨178,[.iv x1,.iv x2,.osl 0,.iv x3,.osl 1,.osl 4]⟩],[Sq6 x29,Sq7 x5,none,none,Za7 x30]⟩) (Z5h x1 x2 x3 x5 x27 x28 x29 x30 x31 x33) y1 ?_ fun J4=>?_
     ·intro x35 h;rw [Z5h] at h;(try dsimp only);refine Zo4 (fun ((x37,x38):(List Side×List Mail))=>⟨(.ptr 0 0 :: .any :: .bv x27 :: .any :: .oel 0 (Int.toNat (x28)*8) 0 :: .bv x33::an 7 (.iv (ln Side.row x4) :: .iv x28::an 120 [])),[some ⟨178,[.iv x1,.iv x2,.osl 0,.iv x3,.osl 1,.osl 4]⟩],[Sq6 x37,Sq7 x5,none,none,Za7 x38]⟩) (Z4h x1 x2 x3 x5 x27 x28 x33) y1 ?_ fun J5=>?_
      ·rintro ⟨x37,x38⟩ h;rw [Z4h] at h;(try dsimp only);refine Vg 10 ?_
       refine Zo4 (fun (x40:Bool)=>⟨(.ptr 0 0 :: .any :: .bv x27 :: .any :: .oel 0 (Int.toNat (x28)*8) 0 :: .bv x33::an 7 (.iv (ln Side.row x4) :: .iv x28::an 86 (.bv x40::an 33 []))),[some ⟨178,[.iv x1,.iv x2,.osl 0,.iv x3,.osl 1,.osl 4]⟩],[Sq6 x37,Sq7 x5,none,none,Za7 x38]⟩) (Z3h x1 x2 x3 x5 x27 x28 x33 x37 x38) y1 ?_ fun J6=>?_
       ·intro x40 h;rw [Z3h] at h;(try dsimp only);refine Zo4 (fun ((x43,x44):(List Side×List Mail))=>⟨(.ptr 0 0 :: .any :: .bv x27 :: .any :: .oel 0 (Int.toNat (x28)*8) 0 :: .bv x33::an 7 (.iv (ln Side.row x4) :: .iv x28::an 120 [])),[some ⟨178,[.iv x1,.iv x2,.osl 0,.iv x3,.osl 1,.osl 4]⟩],[Sq6 x43,Sq7 x5,none,none,Za7 x44]⟩) (Z2h x27 x28 x33) y1 ?_ fun J7=>?_
        ·rintro ⟨x43,x44⟩ h;rw [Z2h] at h;(try dsimp only);refine Vg 3 ?_;refine Zo4 (fun (x46:Bool)=>⟨(.ptr 0 0 :: .any :: .bv x46::an 10 (.iv (ln Side.row x4) :: .iv x28::an 120 [])),[some ⟨178,[.iv x1,.iv x2,.osl 0,.iv x3,.osl 1,.osl 4]⟩],[Sq6 x43,Sq7 x5,none,none,Za7 x44]⟩) (Z1h x28 x43 x44) y1 ?_ fun J8=>?_
         ·intro x46 h;rw [Z1h] at h;(try dsimp only);refine Vg 5 ?_;exact Zw4 h hin1
         ·refine MC 111 h (fun h=>?_) fun h=>?_
          ·refine Vg 3 ?_;refine MC 114 h (fun h=>?_) fun h=>?_
           ·refine Vg 8 ?_;exact Zx4 J8 h
           ·refine Vg 3 ?_;have ⟨x45,ex45,h⟩:=Bs h;refine Zf5 Side.row ex45 trivial rfl rfl rfl (Vg 4 ?_);exact Zx4 J8 h
          ·refine Vg 11 ?_;exact Zx4 J8 h
        ·refine MI h (fun h=>?_) fun h=>?_
         ·refine Vg 5 ?_;have ⟨x41,ex41,h⟩:=Bs h;refine Zk5 [.bv false] Side.row (y':=(Side.mk x41.Peer x41.Epoch x41.State x41.Fork x41.DY x41.Token x41.BO false)) ex41 trivial rfl rfl rfl (by first | exact Zi4 _ | simp [go_sem]) rfl rfl rfl rfl (Vg 5 ?_);refine Zg5 Side.row (Ze5 ex41) trivial rfl rfl rfl ?_;have ⟨x42,ex42,h⟩:=Bs h
          refine Z67 [0] [0,1,4] 1 5 (Zmc (Side.mk x41.Peer x41.Epoch x41.State x41.Fork x41.DY x41.Token x41.BO false) 4 x1 x2 x3 (x37.set (Int.toNat (x28)) (Side.mk x41.Peer x41.Epoch x41.State x41.Fork x41.DY x41.Token x41.BO false)) x5 x38 _ ex42) ?_;refine Vg 1 ?_;refine Z07 6 4 ?_;dsimp only[go_sem]
          exact Zx4 J7 h
         ·refine Vg 1 ?_;exact Zx4 J7 h
       ·refine MC 86 h (fun h=>?_) fun h=>?_
        ·refine Vg 3 ?_;refine MC 89 h (fun h=>?_) fun h=>?_
         ·refine Vg 3 ?_;have ⟨x39,ex39,h⟩:=Bs h;refine Zf5 Side.row ex39 trivial rfl rfl rfl (Vg 2 ?_);refine MC 95 h (fun h=>?_) fun h=>?_
          ·refine Vg 3 ?_;refine Zf5 Side.row ex39 trivial rfl rfl rfl (Vg 3 ?_);exact Zx4 J6 h
          ·refine Vg 7 ?_;exact Zx4 J6 h
         ·refine Vg 13 ?_;exact Zx4 J6 h
        ·refine Vg 16 ?_;exact Zx4 J6 h
      ·refine MI h (fun h=>?_) fun h=>?_
       ·refine Vg 5 ?_;refine Zk5 [.bv false] Side.row (y':=(Side.mk x31.Peer x31.Epoch x31.State x31.Fork x31.DY x31.Token false x31.Ask)) ex31 trivial rfl rfl rfl (by first | exact Zi4 _ | simp [go_sem]) rfl rfl rfl rfl (Vg 5 ?_);refine Zg5 Side.row (Ze5 ex31) trivial rfl rfl rfl ?_;have ⟨x36,ex36,h⟩:=Bs h
        refine Z67 [0] [0,1,4] 1 5 (Zmc (Side.mk x31.Peer x31.Epoch x31.State x31.Fork x31.DY x31.Token false x31.Ask) 3 x1 x2 x3 (x29.set (Int.toNat (x28)) (Side.mk x31.Peer x31.Epoch x31.State x31.Fork x31.DY x31.Token false x31.Ask)) x5 x30 _ ex36) ?_;refine Vg 1 ?_;refine Z07 6 4 ?_;dsimp only[go_sem]
        exact Zx4 J5 h
       ·refine Vg 1 ?_;exact Zx4 J5 h
     ·refine MC 62 h (fun h=>?_) fun h=>?_
      ·refine Vg 3 ?_;refine Zf5 Side.row ex31 trivial rfl rfl rfl (Vg 2 ?_);refine MC 68 h (fun h=>?_) fun h=>?_
       ·refine Vg 4 ?_;exact Zx4 J4 h
       ·refine Vg 4 ?_;exact Zx4 J4 h
      ·refine Vg 10 ?_;exact Zx4 J4 h
    ·refine MC 36 h (fun h=>?_) fun h=>?_
     ·refine Vg 7 ?_;refine MC 43 h (fun h=>?_) fun h=>?_
      ·refine Vg 16 ?_;exact Zx4 J3 h
      ·refine Vg 7 ?_;refine MC 50 h (fun h=>?_) fun h=>?_
       ·refine Vg 3 ?_;refine Zf5 Side.row ex31 trivial rfl rfl rfl (Vg 5 ?_);exact Zx4 J3 h
       ·refine Vg 9 ?_;exact Zx4 J3 h
     ·refine Vg 23 ?_;exact Zx4 J3 h
   ·refine Zz6 fun all H=>?_;dsimp only[go_sem];refine GP H 7 4 [4,1,3,3] [(25,[.ptr 0 0,.ptr 0 0,.ptr 0 0,.ptr 0 4]),(1,[.oel 0 (Int.toNat (x28)*8) 0,.oel 0 (Int.toNat (x28)*8) 0,.oel 0 (Int.toNat (x28)*8) 0])] ?_;dsimp only[go_sem];refine Z74 4 8 rfl ?_ ?_
    ·refine GV H.1 ?_;dsimp only[go_sem];refine Z64 8 rfl (GL H.1 Side.row ex31 ?_);dsimp only[go_sem];refine Z64 9 rfl ?_;have ⟨x32,ex32,h⟩:=Bs h;refine GK H.1 (LR.slice 1 rfl) (Zhd x5 x31.Peer _ ex32) ?_;refine Gn H 1 0 ?_;refine GD ?_;exact Zx4 J2 h
    ·refine GL H.1 Side.row ex31 ?_;dsimp only[go_sem];refine GE H.1 4 ?_;dsimp only[go_sem];refine Z64 9 rfl ?_;have ⟨x32,ex32,h⟩:=Bs h;refine GK H.1 (LR.slice 1 rfl) (Zhd x5 x31.Peer _ ex32) ?_;refine Gn H 1 0 ?_;refine GD ?_;exact Zx4 J2 h
  ·refine Vg 1 ?_;exact Zx4 J1 (Zn4 h hout1)
end
end NX
end Go.Proofs.YtdjkbodnjhgbcaaGreat
