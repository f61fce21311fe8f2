/-
  The function slices.Insert[[]narthex/api.Known,narthex/api.Known], lent own memory. Written by a program of ours (lb.py). No statement of the seat is proved here.
-/
import Derived.Test.YtdjkbodnjhgbcaaGreatB21
set_option maxRecDepth 100000
set_option maxHeartbeats 4000000
namespace Go.Proofs.YtdjkbodnjhgbcaaGreat
namespace NX
open Go
noncomputable section
def Ztg (l:List KE) (i:Int) (vs:List KE):Option (List KE):=insS_ 16 l i vs
theorem Zug (l:List KE) (i:Int) (vs:List KE) (r:List KE) (h:Ztg l i vs=some r):
  Zr5 Tryz.prog 123 [.osl 0,.iv i,.osl 1] [] [some ⟨95,2,l.map KE.row⟩,some ⟨95,2,List.map KE.row vs⟩] (.osl 2) [] [none,none,some ⟨95,2,r.map KE.row⟩]:=by
 obtain ⟨v,rfl,h⟩:=insS_some h
 obtain ⟨hr,h0,h1,hb,h63⟩:=ins_some h
 have hln:(l.map KE.row).length=l.length:=List.length_map _
 have hw1:wr ((l.length:Int)+1)=(l.length:Int)+1:=IntWalk.i64_in _ ⟨by omega,by omega⟩
 have hw2:wr ((l.length:Int)+1-i)=(l.length:Int)+1-i:=IntWalk.i64_in _ ⟨by omega,by omega⟩
 have hw3:wr (i+1)=i+1:=IntWalk.i64_in _ ⟨by omega,by omega⟩
 obtain ⟨y,hy⟩:∃y,y=v.row:=⟨_,rfl⟩
 have hv1: [v].map KE.row=[y]:=by rw [hy];rfl
 rw [hv1]
 have hr1:(([y]:List (List AV)).length:Int)=1:=rfl
 have hR:(l.map KE.row).take i.toNat++y::(l.map KE.row).drop i.toNat=r.map KE.row:=by rw [hr,hy];simp [List.map_take,List.map_drop]
 have hw4:(i+1).toNat=i.toNat+1:=by omega
 have hw5:((l.length:Int)+1).toNat=l.length+1:=by omega
 refine FunT_room (j:=0) ok123 rfl rfl rfl (by first | rfl | simp [go_sem]) rfl rfl (i<l.length) (fun h=>by rw [hln];omega) (fun w M hc=>?_) (fun w M g cap hq e1 hc e2=>?_)
 ·dsimp only[lun,List.cons_append,List.nil_append]
  refine Zv2 100 ?_
  dsimp only[go_sem]
  refine An ?_
  refine Z53 trivial (Zi6 (l:=i) rfl rfl rfl h0 (by rw [hln];exact h1)) rfl ?_
  refine Zv2 100 ?_
  dsimp only[go_sem]
  refine An ?_
  refine Z32 rfl (fun e=>by simp at e) fun _=>?_
  refine Zv2 100 ?_
  dsimp only[go_sem]
  refine An ?_
  refine Z32 rfl (fun e=>?_) fun hne=>?_
  ·have hi:i=l.length:=by simpa using e
   subst hi
   refine Zv2 100 ?_
   dsimp only[go_sem]
   refine An ?_
   rw [←hv1]
   refine Zu4 KE.row (l':=l) (m':=[v]) (v:=r) ?_ trivial rfl rfl rfl ?_
   ·unfold Zj4;rw [if_pos ⟨by simpa using hb,by simpa using h63⟩,hr];simp
   refine Zv2 100 ?_
   dsimp only[go_sem]
   refine An ?_
   exact Z57 ok123
  ·have hi:i<l.length:=by
    have:¬i=l.length:=by simpa using hne
    omega
   have hc:=hc hi
   have hcl:capV (M.σ 0)<l.length+1:=by simpa [hln] using hc
   refine Zv2 100 ?_
   dsimp only[go_sem]
   refine An ?_
   refine Z53 trivial (Ze6 rfl rfl (by show 0<2;omega)) rfl ?_
   refine Zv2 100 ?_
   dsimp only[go_sem]
   refine An ?_
   rw [show (Ctx.lent Tryz.prog w M [] [some ⟨95,2,l.map KE.row⟩,some ⟨95,2,[y]⟩] 0 2).ps 0=M.σ 0 from rfl]
   simp only [hln,hr1,hw1]
   refine Z32 rfl (fun _=>?_) fun e=>?_
   ·refine Zv2 100 ?_
    dsimp only[go_sem]
    refine An ?_
    refine Z53 trivial (Z56 (l:=0) (h:=i) rfl rfl (by rw [hln]<;>omega) rfl rfl (by omega) h0 (by rw [hln];exact h1)) rfl ?_
    refine Zv2 100 ?_
    dsimp only[go_sem]
    refine An ?_
    simp only [hw1,hw2]
    have hik:i=(i.toNat:Int):=by omega
    refine Z53 trivial (sem_apzV (i:=i.toNat) (m:=(l.length:Int)+1-i) rfl rfl (by rw [hln]<;>omega) (by show 0<2;omega) rfl (by omega) ?_ rfl ?_ (by omega) rfl) rfl ?_
    ·show (capV (M.σ 0):Int)<_;omega
    ·have:(i.toNat:Int)+((l.length:Int)+1-i)=((l.length+1:Nat):Int):=by omega
     rw [this];omega
    refine Zv2 100 ?_
    dsimp only[go_sem]
    refine An ?_
    have hrl:((l.map KE.row).take i.toNat++List.replicate ((l.length:Int)+1-i).toNat [AV.iv 0,AV.iv 0]).length=l.length+1:=by
     rw [List.length_append,List.length_take,List.length_replicate,hln];omega
    refine Z53 trivial (Z56 (l:=i) (h:=(l.length:Int)+1) rfl rfl (by rw [hrl]<;>omega) rfl (by simp only [bnd,hrl];rfl) h0 (by omega) (by rw [hrl]<;>omega)) rfl ?_
    refine Zv2 100 ?_
    dsimp only[go_sem]
    refine An ?_
    refine V_asV 44 1 rfl rfl (by show 0<1;omega) ?_
    dsimp only[go_sem]
    refine Z53 trivial (Zj6 ((l.map KE.row).take i.toNat++y::List.replicate ((l.map KE.row).length-i.toNat) [AV.iv 0,AV.iv 0]) rfl rfl rfl rfl (by rw [hrl]<;>omega) (by show 0+1≤1;omega) (by rw [hrl]<;>omega) (by show 0<1;omega) (grow1 (by rw [hln]<;>omega) (by rw [hln]<;>omega) (by omega) rfl)) rfl ?_
    refine Zv2 100 ?_
    dsimp only[go_sem]
    refine An ?_
    refine Z07 fun all H=>?_
    dsimp only[go_sem]
    refine GN H 6 3 ?_
    dsimp only[go_sem]
    refine An ?_
    simp only [hw3]
    have hr2:((l.map KE.row).take i.toNat++y::List.replicate ((l.map KE.row).length-i.toNat) [AV.iv 0,AV.iv 0]).length=l.length+1:=by
     rw [List.length_append,List.length_take,List.length_cons,List.length_replicate,hln];omega
    refine Z74 4 7 rfl ?_ ?_
    ·refine Z94 H.1 trivial (Z56 (l:=i+1) (h:=(l.length:Int)+1) rfl rfl (by rw [hr2]<;>omega) rfl (by simp only [bnd,hr2];rfl) (by omega) (by omega) (by rw [hr2]<;>omega)) rfl (Z34 _ _) ?_
     dsimp only[go_sem]
     refine Z64 7 rfl ?_
     refine Z94 H.1 trivial (Z56 (l:=i) (h:=(l.length:Int)) rfl rfl (by rw [hln]<;>omega) rfl (by simp only [bnd,hln]) h0 (by omega) (by rw [hln];exact Int.le_refl _)) rfl (Z34 _ _) ?_
     dsimp only[go_sem]
     refine Z64 8 rfl ?_
     refine Z94 (S1:=⟨_,_,_⟩) H.1 trivial (Zj6 (r.map KE.row) rfl rfl rfl rfl (by rw [hr2]<;>omega) (by rw [hln]<;>omega) (by rw [hr2]<;>omega) (by omega) ?_) rfl (fun _ _ _ _ h _ _=>h) ?_
     ·rw [show (i+1).toNat=i.toNat+1 by omega,←hR]
      exact grow2 (by rw [hln]<;>omega) (by rw [hln]<;>omega) (by rw [hln]<;>omega)
     dsimp only[go_sem]
     refine GD ?_
     refine Zv2 100 ?_
     dsimp only[go_sem]
     refine An ?_
     exact Z57 ok123
    ·refine Z94 H.1 trivial (Z56 (l:=i) (h:=(l.length:Int)) rfl rfl (by rw [hln]<;>omega) rfl (by simp only [bnd,hln]) h0 (by omega) (by rw [hln];exact Int.le_refl _)) rfl (Z34 _ _) ?_
     dsimp only[go_sem]
     refine Z64 4 rfl ?_
     refine Z94 H.1 trivial (Z56 (l:=i+1) (h:=(l.length:Int)+1) rfl rfl (by rw [hr2]<;>omega) rfl (by simp only [bnd,hr2];rfl) (by omega) (by omega) (by rw [hr2]<;>omega)) rfl (Z34 _ _) ?_
     dsimp only[go_sem]
     refine Z64 8 rfl ?_
     refine Z94 (S1:=⟨_,_,_⟩) H.1 trivial (Zj6 (r.map KE.row) rfl rfl rfl rfl (by rw [hr2]<;>omega) (by rw [hln]<;>omega) (by rw [hr2]<;>omega) (by omega) ?_) rfl (fun _ _ _ _ h _ _=>h) ?_
     ·rw [show (i+1).toNat=i.toNat+1 by omega,←hR]
      exact grow2 (by rw [hln]<;>omega) (by rw [hln]<;>omega) (by rw [hln]<;>omega)
     dsimp only[go_sem]
     refine GD ?_
     refine Zv2 100 ?_
     dsimp only[go_sem]
     refine An ?_
     exact Z57 ok123
   ·exact absurd e (by simpa using (by omega:(capV (M.σ 0):Int)<l.length+1))
 ·dsimp only[lun,List.cons_append,List.nil_append]
  have hcn:(Ctx.lent Tryz.prog w M [] [some ⟨95,2,l.map KE.row⟩,some ⟨95,2,[y]⟩,none] 0 3).nq=3:=rfl
  have hp0:(Ctx.lent Tryz.prog w M [] [some ⟨95,2,l.map KE.row⟩,some ⟨95,2,[y]⟩,none] 0 3).ps 0 = .slice (some ⟨g,0,none⟩) l.length cap:=by rw [hln] at e1;exact e1
  have hp2:(Ctx.lent Tryz.prog w M [] [some ⟨95,2,l.map KE.row⟩,some ⟨95,2,[y]⟩,none] 0 3).ps 2 = .slice (some ⟨g,0,none⟩) (l.length+1) cap:=by rw [hln] at e2;exact e2
  have hc:l.length+1≤cap:=by rw [hln] at hc;exact hc
  refine Zv2 100 ?_
  dsimp only[go_sem]
  refine An ?_
  refine Z53 trivial (Zi6 (l:=i) rfl rfl rfl h0 (by rw [hln];exact h1)) rfl ?_
  refine Zv2 100 ?_
  dsimp only[go_sem]
  refine An ?_
  refine Z32 rfl (fun e=>by simp at e) fun _=>?_
  refine Zv2 100 ?_
  dsimp only[go_sem]
  refine An ?_
  refine Z32 rfl (fun e=>?_) fun _=>?_
  ·exfalso
   have:i=l.length:=by simpa using e
   omega
  refine Zv2 100 ?_
  dsimp only[go_sem]
  refine An ?_
  refine Z53 trivial (Ze6 rfl rfl (by show 0<3;omega)) rfl ?_
  rw [hp0]
  refine Zv2 100 ?_
  dsimp only [go_sem,capV]
  refine An ?_
  simp only [hln,hr1,hw1]
  refine Z32 rfl (fun e=>?_) fun _=>?_
  ·exfalso
   have:(cap:Int)<l.length+1:=by simpa using e
   omega
  refine Zv2 100 ?_
  dsimp only[go_sem]
  refine An ?_
  simp only [hw1]
  refine Z53 trivial (Zf6 (h:=(l.length:Int)+1) rfl (by show 0<3;omega) (by show 2<3;omega) hp0 hp2 hc rfl rfl rfl) rfl ?_
  refine Zv2 100 ?_
  dsimp only[go_sem]
  refine An ?_
  simp only [hw3]
  refine Z53 trivial (Zg6 (l:=i+1) (h:=(l.length:Int)+1) rfl (by show 2<3;omega) hp2 hc rfl rfl (by omega) (by omega) (by omega)) rfl ?_
  refine Zv2 100 ?_
  dsimp only[go_sem]
  refine An ?_
  refine Z53 trivial (sem_ovl (ft:=Tryz.f151) (tS:=33) (tR:=4) (e:=95) (j:=0) (by kernel_rfl) (by kernel_rfl) (by kernel_rfl) (by kernel_rfl) (by kernel_rfl) (by kernel_rfl) (by kernel_rfl) rfl rfl rfl rfl (by omega) (by show 0<1;omega) (by show 0<(l.map KE.row).length;rw [hln];omega) (by show 0<3;omega) (by show 2<3;omega) hp0 hp2) rfl ?_
  refine Zv2 100 ?_
  dsimp only[go_sem]
  refine An ?_
  have hrs:((l.map KE.row).take (i.toNat+1)++(l.map KE.row).drop i.toNat).length=l.length+1:=by rw [List.length_append,List.length_take,List.length_drop,hln];omega
  refine Z07 fun all H=>?_
  dsimp only[go_sem]
  refine GN H 6 3 ?_
  dsimp only[go_sem]
  refine An ?_
  simp only [hw3]
  refine Z74 4 7 rfl ?_ ?_
  ·refine Z94 H.1 trivial (Zg6 (l:=i+1) (h:=(l.length:Int)+1) rfl (by show 2<3;omega) hp2 hc rfl rfl (by omega) (by omega) (by omega)) rfl (Z34 _ _) ?_
   dsimp only[go_sem]
   refine Z64 7 rfl ?_
   refine Z94 H.1 trivial (Zg6 (l:=i) (h:=(l.length:Int)+1) rfl (by show 2<3;omega) hp2 hc rfl rfl h0 (by omega) (by omega)) rfl (Z34 _ _) ?_
   dsimp only[go_sem]
   simp only [hw4,hw5,Nat.add_sub_add_right]
   refine Z64 8 rfl ?_
   refine Z94 (S1:=⟨_,_,_⟩) H.1 trivial (Zh6 (i:=i.toNat) rfl rfl rfl hln (by omega) (by show 2<3;omega) (by show 0<3;omega) (by show 2<3;omega) hp0 hp2 hc) rfl (fun _ _ _ _ h _ _=>h) ?_
   dsimp only[go_sem]
   refine GD ?_
   refine Zv2 100 ?_
   dsimp only[go_sem]
   refine An ?_
   refine Z53 trivial (Zg6 (l:=i) (h:=(l.length:Int)+1) rfl (by show 2<3;omega) hp2 hc rfl rfl h0 (by omega) (by omega)) rfl ?_
   refine Zv2 100 ?_
   dsimp only[go_sem]
   refine An ?_
   refine V_asV 81 1 rfl rfl (by show 0<1;omega) ?_
   dsimp only[go_sem]
   refine Z53 trivial (Zj6 (r.map KE.row) rfl rfl rfl rfl (by rw [hrs,hw5]<;>omega) (by show 0+1≤1;omega) (by rw [hrs]<;>omega) (by show 0<1;omega) (by rw [←hR];exact shift1 (by rw [hln]<;>omega) (by omega) rfl)) rfl ?_
   refine Zv2 100 ?_
   dsimp only[go_sem]
   refine An ?_
   exact Z57 ok123
  ·refine Z94 H.1 trivial (Zg6 (l:=i) (h:=(l.length:Int)+1) rfl (by show 2<3;omega) hp2 hc rfl rfl h0 (by omega) (by omega)) rfl (Z34 _ _) ?_
   dsimp only[go_sem]
   refine Z64 4 rfl ?_
   refine Z94 H.1 trivial (Zg6 (l:=i+1) (h:=(l.length:Int)+1) rfl (by show 2<3;omega) hp2 hc rfl rfl (by omega) (by omega) (by omega)) rfl (Z34 _ _) ?_
   dsimp only[go_sem]
   simp only [hw4,hw5,Nat.add_sub_add_right]
   refine Z64 8 rfl ?_
   refine Z94 (S1:=⟨_,_,_⟩) H.1 trivial (Zh6 (i:=i.toNat) rfl rfl rfl hln (by omega) (by show 2<3;omega) (by show 0<3;omega) (by show 2<3;omega) hp0 hp2 hc) rfl (fun _ _ _ _ h _ _=>h) ?_
   dsimp only[go_sem]
   refine GD ?_
   refine Zv2 100 ?_
   dsimp only[go_sem]
   refine An ?_
   refine Z53 trivial (Zg6 (l:=i) (h:=(l.length:Int)+1) rfl (by show 2<3;omega) hp2 hc rfl rfl h0 (by omega) (by omega)) rfl ?_
   refine Zv2 100 ?_
   dsimp only[go_sem]
   refine An ?_
   refine V_asV 81 1 rfl rfl (by show 0<1;omega) ?_
   dsimp only[go_sem]
   refine Z53 trivial (Zj6 (r.map KE.row) rfl rfl rfl rfl (by rw [hrs,hw5]<;>omega) (by show 0+1≤1;omega) (by rw [hrs]<;>omega) (by show 0<1;omega) (by rw [←hR];exact shift1 (by rw [hln]<;>omega) (by omega) rfl)) rfl ?_
   refine Zv2 100 ?_
   dsimp only[go_sem]
   refine An ?_
   exact Z57 ok123
def Zvg (x5:Bool):List Int→Option (Bool×List Int)
| x7=>
 some (x5,x7)
def Zwg (x1:Sess) (x3:List Int):Bool→Option (Bool×List Int)
| x5=>
 ifb x5 (
 (Zj4 8 x3 ([x1.ID])).bind fun x6=>
 (Zvg x5) x6) (
 (Zvg x5) x3)
def Zxg (x1:Sess) (x2:Int) (x3:List Int):Option (Bool×List Int):=
 ifb (decide (x1.State=0)) (
 (Zhd x1.Need x2).bind fun x4=>
 (Zwg x1 x3) x4) (
 (Zwg x1 x3) false)
theorem Zyg (x1:Sess) (x2:Int) (x3:List Int) (r:(Bool×List Int)) (h:Zxg x1 x2 x3=some r):Zr5 Tryz.prog 125 [.agg (Sess.row x1),.ptr 0 0,.ptr 1 0] [some ⟨3,[.iv x2]⟩,some ⟨27,[.osl 0]⟩] [Sq7 x3] (.bv r.1) [some ⟨3,[.iv x2]⟩,some ⟨27,[.osl 2]⟩] [none,none,Sq7 r.2]:=by
 refine FT ok125 fun w0 M0=>?_
 rw [Zxg] at h
 dsimp only[lun,List.cons_append,List.nil_append]
 refine Zv2 11 ?_;dsimp only[go_sem];refine An (Zo4 (fun (x5:Bool)=>(⟨(.any :: .any :: .ptr 1 0 :: .ptr 2 0 :: .any :: .bv x5::an 16 []),[some ⟨3,[.iv x2]⟩,some ⟨27,[.osl 0]⟩,some ⟨60,Sess.row x1⟩],[Sq7 x3]⟩:St)) (Zwg x1 x3) r ?_ fun J1=>?_)
 ·intro x5 h;rw [Zwg] at h;(try dsimp only);refine Zv2 5 ?_;dsimp only[go_sem];refine An (Zo4 (fun (x7:List Int)=>(⟨an 5 (.bv x5::an 16 []),[some ⟨3,[.iv x2]⟩,some ⟨27,[.osl 2]⟩],[none,none,Sq7 x7]⟩:St)) (Zvg x5) r ?_ fun J2=>?_)
  ·intro x7 h;rw [Zvg] at h;(try dsimp only);refine Zv2 5 ?_;dsimp only[go_sem];refine An ?_;obtain rfl:=Option.some.inj h;exact Z57 ok125
  ·refine MI h (fun h=>?_) fun h=>?_
   ·refine Zv2 5 ?_;dsimp only[go_sem];refine An ?_;have ⟨x6,ex6,h⟩:=Bs h;refine Zu4 Z15 ex6 trivial rfl rfl rfl (Zv2 2 ?_);dsimp only[go_sem];refine An ?_;exact Zy4 J2 (s:=x6) h
   ·refine Zv2 1 ?_;dsimp only[go_sem];refine An (Z47 3 1 ?_);dsimp only[go_sem];refine Z47 3 1 ?_;dsimp only[go_sem];refine Z17 0 2 ?_;dsimp only[go_sem];exact Zy4 J2 (s:=x3) h
 ·refine MC 9 h (fun h=>?_) fun h=>?_
  ·dsimp only[go_sem];refine Zv2 3 ?_;dsimp only[go_sem];refine An ?_;have ⟨x4,ex4,h⟩:=Bs h;refine VC (Zid x1.Need x2 _ ex4) (Zv2 3 ?_);dsimp only[go_sem];refine An ?_;exact Zy4 J1 (s:=x4) h
  ·dsimp only[go_sem];refine Zv2 7 ?_;dsimp only[go_sem];refine An ?_;exact Zy4 J1 (s:=false) h
def Zzg (x61:List Side) (x62:List Mail):Int→Option (Int×List Side×List Mail)
| x64=>
 some (x64,x61,x62)
def Z0h (x3:Int) (x61:List Side) (x62:List Mail):Bool→Option (Int×List Side×List Mail)
| x63=>
 ifb x63 (
 (Zzg x61 x62) 2) (
 (Zzg x61 x62) x3)
def Z1h (x3:Int):(Bool×List Side×List Mail)→Option (Int×List Side×List Mail)
| (x60,x61,x62)=>
 ifb (decide (x3=1)) (
 (Z0h x3 x61 x62) x60) (
 (Z0h x3 x61 x62) false)
def Z2h (x28:Int) (x43:List Side) (x44:List Mail):Bool→Option ((Bool×Int×List Side×List Mail) ⊕ (Int×List Side×List Mail))
| x46=>
 some (.inl (x46,wr (x28+1),x43,x44))
def Z3h (x27:Bool) (x28:Int) (x33:Bool):(List Side×List Mail)→Option ((Bool×Int×List Side×List Mail) ⊕ (Int×List Side×List Mail))
| (x43,x44)=>
 ifb x27 (
 ifb (!x33) (
 (Z2h x28 x43 x44) true) (
 (at_ x43 x28).bind fun x45=>
 (Z2h x28 x43 x44) x45.BO)) (
 (Z2h x28 x43 x44) false)
def Z4h (x1 x2 x3:Int) (x5:List Int) (x27:Bool) (x28:Int) (x33:Bool) (x37:List Side) (x38:List Mail):Bool→Option ((Bool×Int×List Side×List Mail) ⊕ (Int×List Side×List Mail))
| x40=>
 ifb x40 (
 (at_ x37 x28).bind fun x41=>
 (Zmc (Side.mk x41.Peer x41.Epoch x41.State x41.Fork x41.DY x41.Token x41.BO false) 4 x1 x2 x3 (x37.set (Int.toNat (x28)) (Side.mk x41.Peer x41.Epoch x41.State x41.Fork x41.DY x41.Token x41.BO false)) x5 x38).bind fun x42=>
 (Z3h x27 x28 x33) ((x37.set (Int.toNat (x28)) (Side.mk x41.Peer x41.Epoch x41.State x41.Fork x41.DY x41.Token x41.BO false)),x42)) (
 (Z3h x27 x28 x33) (x37,x38))
def Z5h (x1 x2 x3:Int) (x5:List Int) (x27:Bool) (x28:Int) (x33:Bool):(List Side×List Mail)→Option ((Bool×Int×List Side×List Mail) ⊕ (Int×List Side×List Mail))
| (x37,x38)=>
 ifb (decide (x3=1)) (
 ifb x33 (
 (at_ x37 x28).bind fun x39=>
 ifb x39.Ask (
 (Z4h x1 x2 x3 x5 x27 x28 x33 x37 x38) (!x39.BO)) (
 (Z4h x1 x2 x3 x5 x27 x28 x33 x37 x38) false)) (
 (Z4h x1 x2 x3 x5 x27 x28 x33 x37 x38) false)) (
 (Z4h x1 x2 x3 x5 x27 x28 x33 x37 x38) false)
def Z6h (x1 x2 x3:Int) (x5:List Int) (x27:Bool) (x28:Int) (x29:List Side) (x30:List Mail) (x31:Side) (x33:Bool):Bool→Option ((Bool×Int×List Side×List Mail) ⊕ (Int×List Side×List Mail))
| x35=>
 ifb x35 (
 (Zmc (Side.mk x31.Peer x31.Epoch x31.State x31.Fork x31.DY x31.Token false x31.Ask) 3 x1 x2 x3 (x29.set (Int.toNat (x28)) (Side.mk x31.Peer x31.Epoch x31.State x31.Fork x31.DY x31.Token false x31.Ask)) x5 x30).bind fun x36=>
 (Z5h x1 x2 x3 x5 x27 x28 x33) ((x29.set (Int.toNat (x28)) (Side.mk x31.Peer x31.Epoch x31.State x31.Fork x31.DY x31.Token false x31.Ask)),x36)) (
 (Z5h x1 x2 x3 x5 x27 x28 x33) (x29,x30))
def Z7h (x1 x2 x3:Int) (x5:List Int) (x27:Bool) (x28:Int) (x29:List Side) (x30:List Mail) (x31:Side) (x33:Bool):Bool→Option ((Bool×Int×List Side×List Mail) ⊕ (Int×List Side×List Mail))
| x34=>
 ifb x31.BO (
 ifb x31.Ask (
 (Z6h x1 x2 x3 x5 x27 x28 x29 x30 x31 x33) (!x34)) (
 (Z6h x1 x2 x3 x5 x27 x28 x29 x30 x31 x33) false)) (
 (Z6h x1 x2 x3 x5 x27 x28 x29 x30 x31 x33) false)
def Z8h (x1 x2 x3:Int) (x5:List Int) (x27:Bool) (x28:Int) (x29:List Side) (x30:List Mail) (x31:Side):Bool→Option ((Bool×Int×List Side×List Mail) ⊕ (Int×List Side×List Mail))
| x33=>
 ifb x33 (
 ifb (decide (x3=2)) (
 (Z7h x1 x2 x3 x5 x27 x28 x29 x30 x31 x33) true) (
 ifb (decide (x3=1)) (
 (Z7h x1 x2 x3 x5 x27 x28 x29 x30 x31 x33) x31.Fork) (
 (Z7h x1 x2 x3 x5 x27 x28 x29 x30 x31 x33) false))) (
 (Z7h x1 x2 x3 x5 x27 x28 x29 x30 x31 x33) false)
def Z9h (x1 x2 x3:Int) (x4:List Side) (x5:List Int):(Bool×Int×List Side×List Mail)→Option ((Bool×Int×List Side×List Mail) ⊕ (Int×List Side×List Mail))
| (x27,x28,x29,x30)=>
 ifb (decide (x28<(ln Side.row x4))) (
 (at_ x29 x28).bind fun x31=>
 (Zhd x5 x31.Peer).bind fun x32=>
 (Z8h x1 x2 x3 x5 x27 x28 x29 x30 x31) x32) (
 Option.map Sum.inr ((Z1h x3) (x27,x29,x30)))
def Zah (x1 x2 x3:Int) (x4:List Side) (x5:List Int) (x6:List Mail):Option (Int×List Side×List Mail):=
 loop (Z9h x1 x2 x3 x4 x5) (true,0,x4,x6)
theorem Zbh (x1 x2 x3:Int) (x4:List Side) (x5:List Int) (x6:List Mail) (r:(Int×List Side×List Mail)) (h:Zah x1 x2 x3 x4 x5 x6=some r):Zr5 Tryz.prog 175 [.ptr 0 0] [some ⟨178,[.iv x1,.iv x2,.osl 0,.iv x3,.osl 1,.osl 2]⟩] [Sq6 x4,Sq7 x5,Zb7 x6] (.tup []) [some ⟨178,[.iv x1,.iv x2,.osl 0,.iv r.1,.osl 1,.osl 4]⟩] [Sq6 r.2.1,Sq7 x5,none,none,Zb7 r.2.2]:=by
 refine FT ok175 fun w0 M0=>?_
 rw [Zah] at h
 dsimp only[lun,List.cons_append,List.nil_append]
 refine Zv2 16 ?_;dsimp only[go_sem];refine An (Zo4 (fun ((x60,x61,x62):(Bool×List Side×List Mail))=>(⟨(.ptr 0 0 :: .any :: .bv x60::an 132 []),[some ⟨178,[.iv x1,.iv x2,.osl 0,.iv x3,.osl 1,.osl 4]⟩],[Sq6 x61,Sq7 x5,none,none,Zb7 x62]⟩:St)) (Z1h x3) r ?_ fun J1=>?_)
 ·rintro ⟨x60,x61,x62⟩ h;rw [Z1h] at h;(try dsimp only);refine Zv2 9 ?_;dsimp only[go_sem];refine An (Zo4 (fun (x63:Bool)=>(⟨(.ptr 0 0::an 129 (.bv x63::an 4 [])),[some ⟨178,[.iv x1,.iv x2,.osl 0,.iv x3,.osl 1,.osl 4]⟩],[Sq6 x61,Sq7 x5,none,none,Zb7 x62]⟩:St)) (Z0h x3 x61 x62) r ?_ fun J9=>?_)
  ·intro x63 h;rw [Z0h] at h;(try dsimp only);refine Zo4 (fun (x64:Int)=>(⟨an 135 [],[some ⟨178,[.iv x1,.iv x2,.osl 0,.iv x64,.osl 1,.osl 4]⟩],[Sq6 x61,Sq7 x5,none,none,Zb7 x62]⟩:St)) (Zzg x61 x62) r ?_ fun J10=>?_
   ·intro x64 h;rw [Zzg] at h;(try dsimp only);obtain rfl:=Option.some.inj h;exact Z67 ok175
   ·refine MI h (fun h=>?_) fun h=>?_
    ·refine Zv2 7 ?_;dsimp only[go_sem];refine An ?_;exact Zy4 J10 (s:=2) h
    ·refine Zv2 1 ?_;dsimp only[go_sem];refine An ?_;exact Zy4 J10 (s:=x3) h
  ·refine MC 128 h (fun h=>?_) fun h=>?_
   ·dsimp only[go_sem];refine Zv2 3 ?_;dsimp only[go_sem];refine An ?_;exact Zy4 J9 (s:=x60) h
   ·dsimp only[go_sem];refine Zv2 3 ?_;dsimp only[go_sem];refine An ?_;exact Zy4 J9 (s:=false) h
 ·refine Zv2 1 ?_;dsimp only[go_sem];refine An (Z47 74 5 ?_);dsimp only[go_sem];refine Z47 74 5 ?_;dsimp only[go_sem];refine Z17 2 4 ?_;dsimp only[go_sem]
  refine Zp4 h (fun ((x27,x28,x29,x30):(Bool×Int×List Side×List Mail))=>(⟨(.ptr 0 0 :: .any :: .bv x27::an 10 (.iv (ln Side.row x4) :: .iv x28::an 120 [])),[some ⟨178,[.iv x1,.iv x2,.osl 0,.iv x3,.osl 1,.osl 4]⟩],[Sq6 x29,Sq7 x5,none,none,Zb7 x30]⟩:St)) (by simp [go_sem]) (by rintro ⟨x27,x28,x29,x30⟩;first | rfl | simp [go_sem]) ?_;rintro n1 ⟨x27,x28,x29,x30⟩ y1 h hin1 hout1;rw [Z9h] at h;(try dsimp only);refine Zv2 5 ?_
  dsimp only[go_sem];refine An (MI h (fun h=>?_) fun h=>?_)
  ·refine Zv2 17 ?_;dsimp only[go_sem];refine An ?_;have ⟨x31,ex31,h⟩:=Bs h;refine Ze5 Side.row ex31 trivial rfl rfl rfl (Zv2 3 ?_);dsimp only[go_sem];refine An ?_
   refine Zo4 (fun (x33:Bool)=>(⟨(.ptr 0 0 :: .any :: .bv x27 :: .any :: .oel 0 (Int.toNat (x28)*8) 0 :: .bv x33::an 7 (.iv (ln Side.row x4) :: .iv x28::an 120 [])),[some ⟨178,[.iv x1,.iv x2,.osl 0,.iv x3,.osl 1,.osl 4]⟩],[Sq6 x29,Sq7 x5,none,none,Zb7 x30]⟩:St)) (Z8h x1 x2 x3 x5 x27 x28 x29 x30 x31) y1 ?_ fun J2=>?_
   ·intro x33 h;rw [Z8h] at h;(try dsimp only);refine Zv2 4 ?_;dsimp only[go_sem];refine An (Zo4 (fun (x34:Bool)=>(⟨(.ptr 0 0 :: .any :: .bv x27 :: .any :: .oel 0 (Int.toNat (x28)*8) 0 :: .bv x33 :: .bv x34::an 6 (.iv (ln Side.row x4) :: .iv x28::an 120 [])),[some ⟨178,[.iv x1,.iv x2,.osl 0,.iv x3,.osl 1,.osl 4]⟩],[Sq6 x29,Sq7 x5,none,none,Zb7 x30]⟩:St)) (Z7h x1 x2 x3 x5 x27 x28 x29 x30 x31 x33) y1 ?_ fun J3=>?_)
    ·intro x34 h;rw [Z7h] at h;(try dsimp only);refine Zv2 6 ?_;dsimp only[go_sem];refine An (Zg5 Side.row ex31 trivial rfl rfl rfl (Zv2 1 ?_));dsimp only[go_sem];refine An ?_
     refine Zo4 (fun (x35:Bool)=>(⟨(.ptr 0 0 :: .any :: .bv x27 :: .any :: .oel 0 (Int.toNat (x28)*8) 0 :: .bv x33::an 7 (.iv (ln Side.row x4) :: .iv x28::an 56 (.bv x35::an 63 []))),[some ⟨178,[.iv x1,.iv x2,.osl 0,.iv x3,.osl 1,.osl 4]⟩],[Sq6 x29,Sq7 x5,none,none,Zb7 x30]⟩:St)) (Z6h x1 x2 x3 x5 x27 x28 x29 x30 x31 x33) y1 ?_ fun J4=>?_
     ·intro x35 h;rw [Z6h] at h;(try dsimp only);refine Zo4 (fun ((x37,x38):(List Side×List Mail))=>(⟨(.ptr 0 0 :: .any :: .bv x27 :: .any :: .oel 0 (Int.toNat (x28)*8) 0 :: .bv x33::an 7 (.iv (ln Side.row x4) :: .iv x28::an 120 [])),[some ⟨178,[.iv x1,.iv x2,.osl 0,.iv x3,.osl 1,.osl 4]⟩],[Sq6 x37,Sq7 x5,none,none,Zb7 x38]⟩:St)) (Z5h x1 x2 x3 x5 x27 x28 x33) y1 ?_ fun J5=>?_
      ·rintro ⟨x37,x38⟩ h;rw [Z5h] at h;(try dsimp only);refine Zv2 10 ?_;dsimp only[go_sem];refine An ?_
       refine Zo4 (fun (x40:Bool)=>(⟨(.ptr 0 0 :: .any :: .bv x27 :: .any :: .oel 0 (Int.toNat (x28)*8) 0 :: .bv x33::an 7 (.iv (ln Side.row x4) :: .iv x28::an 86 (.bv x40::an 33 []))),[some ⟨178,[.iv x1,.iv x2,.osl 0,.iv x3,.osl 1,.osl 4]⟩],[Sq6 x37,Sq7 x5,none,none,Zb7 x38]⟩:St)) (Z4h x1 x2 x3 x5 x27 x28 x33 x37 x38) y1 ?_ fun J6=>?_
       ·intro x40 h;rw [Z4h] at h;(try dsimp only);refine Zo4 (fun ((x43,x44):(List Side×List Mail))=>(⟨(.ptr 0 0 :: .any :: .bv x27 :: .any :: .oel 0 (Int.toNat (x28)*8) 0 :: .bv x33::an 7 (.iv (ln Side.row x4) :: .iv x28::an 120 [])),[some ⟨178,[.iv x1,.iv x2,.osl 0,.iv x3,.osl 1,.osl 4]⟩],[Sq6 x43,Sq7 x5,none,none,Zb7 x44]⟩:St)) (Z3h x27 x28 x33) y1 ?_ fun J7=>?_
        ·rintro ⟨x43,x44⟩ h;rw [Z3h] at h;(try dsimp only);refine Zv2 3 ?_;dsimp only[go_sem];refine An (Zo4 (fun (x46:Bool)=>(⟨(.ptr 0 0 :: .any :: .bv x46::an 10 (.iv (ln Side.row x4) :: .iv x28::an 120 [])),[some ⟨178,[.iv x1,.iv x2,.osl 0,.iv x3,.osl 1,.osl 4]⟩],[Sq6 x43,Sq7 x5,none,none,Zb7 x44]⟩:St)) (Z2h x28 x43 x44) y1 ?_ fun J8=>?_)
         ·intro x46 h;rw [Z2h] at h;(try dsimp only);refine Zv2 5 ?_;dsimp only[go_sem];refine An ?_;exact Zx4 h hin1
         ·refine MC 111 h (fun h=>?_) fun h=>?_
          ·dsimp only[go_sem];refine Zv2 3 ?_;dsimp only[go_sem];refine An (MC 114 h (fun h=>?_) fun h=>?_)
           ·dsimp only[go_sem];refine Zv2 8 ?_;dsimp only[go_sem];refine An ?_;exact Zy4 J8 (s:=true) h
           ·dsimp only[go_sem];refine Zv2 3 ?_;dsimp only[go_sem];refine An ?_;have ⟨x45,ex45,h⟩:=Bs h;refine Zg5 Side.row ex45 trivial rfl rfl rfl (Zv2 4 ?_);dsimp only[go_sem];refine An ?_;exact Zy4 J8 (s:=x45.BO) h
          ·dsimp only[go_sem];refine Zv2 11 ?_;dsimp only[go_sem];refine An ?_;exact Zy4 J8 (s:=false) h
        ·refine MI h (fun h=>?_) fun h=>?_
         ·refine Zv2 5 ?_;dsimp only[go_sem];refine An ?_;have ⟨x41,ex41,h⟩:=Bs h;refine Zl5 [.bv false] Side.row (y':=(Side.mk x41.Peer x41.Epoch x41.State x41.Fork x41.DY x41.Token x41.BO false)) ex41 trivial rfl rfl rfl (by first | exact Zi4 _ | simp [go_sem]) rfl rfl rfl rfl (Zv2 5 ?_);dsimp only[go_sem];refine An (Zh5 Side.row (Zf5 ex41) trivial rfl rfl rfl ?_);have ⟨x42,ex42,h⟩:=Bs h
          refine Z77 [0] [0,1,4] 1 5 (Znc (Side.mk x41.Peer x41.Epoch x41.State x41.Fork x41.DY x41.Token x41.BO false) 4 x1 x2 x3 (x37.set (Int.toNat (x28)) (Side.mk x41.Peer x41.Epoch x41.State x41.Fork x41.DY x41.Token x41.BO false)) x5 x38 _ ex42) ?_;dsimp only[go_sem];refine Zv2 1 ?_;dsimp only[go_sem];refine An (Z17 6 4 ?_);dsimp only[go_sem]
          exact Zy4 J7 (s:=((x37.set (Int.toNat (x28)) (Side.mk x41.Peer x41.Epoch x41.State x41.Fork x41.DY x41.Token x41.BO false)),x42)) h
         ·refine Zv2 1 ?_;dsimp only[go_sem];refine An ?_;exact Zy4 J7 (s:=(x37,x38)) h
       ·refine MC 86 h (fun h=>?_) fun h=>?_
        ·dsimp only[go_sem];refine Zv2 3 ?_;dsimp only[go_sem];refine An (MC 89 h (fun h=>?_) fun h=>?_)
         ·dsimp only[go_sem];refine Zv2 3 ?_;dsimp only[go_sem];refine An ?_;have ⟨x39,ex39,h⟩:=Bs h;refine Zg5 Side.row ex39 trivial rfl rfl rfl (Zv2 2 ?_);dsimp only[go_sem];refine An (MC 95 h (fun h=>?_) fun h=>?_)
          ·dsimp only[go_sem];refine Zv2 3 ?_;dsimp only[go_sem];refine An (Zg5 Side.row ex39 trivial rfl rfl rfl (Zv2 3 ?_));dsimp only[go_sem];refine An ?_;exact Zy4 J6 (s:=!x39.BO) h
          ·dsimp only[go_sem];refine Zv2 7 ?_;dsimp only[go_sem];refine An ?_;exact Zy4 J6 (s:=false) h
         ·dsimp only[go_sem];refine Zv2 13 ?_;dsimp only[go_sem];refine An ?_;exact Zy4 J6 (s:=false) h
        ·dsimp only[go_sem];refine Zv2 16 ?_;dsimp only[go_sem];refine An ?_;exact Zy4 J6 (s:=false) h
      ·refine MI h (fun h=>?_) fun h=>?_
       ·refine Zv2 5 ?_;dsimp only[go_sem];refine An (Zl5 [.bv false] Side.row (y':=(Side.mk x31.Peer x31.Epoch x31.State x31.Fork x31.DY x31.Token false x31.Ask)) ex31 trivial rfl rfl rfl (by first | exact Zi4 _ | simp [go_sem]) rfl rfl rfl rfl (Zv2 5 ?_));dsimp only[go_sem];refine An (Zh5 Side.row (Zf5 ex31) trivial rfl rfl rfl ?_);have ⟨x36,ex36,h⟩:=Bs h
        refine Z77 [0] [0,1,4] 1 5 (Znc (Side.mk x31.Peer x31.Epoch x31.State x31.Fork x31.DY x31.Token false x31.Ask) 3 x1 x2 x3 (x29.set (Int.toNat (x28)) (Side.mk x31.Peer x31.Epoch x31.State x31.Fork x31.DY x31.Token false x31.Ask)) x5 x30 _ ex36) ?_;dsimp only[go_sem];refine Zv2 1 ?_;dsimp only[go_sem];refine An (Z17 6 4 ?_);dsimp only[go_sem]
        exact Zy4 J5 (s:=((x29.set (Int.toNat (x28)) (Side.mk x31.Peer x31.Epoch x31.State x31.Fork x31.DY x31.Token false x31.Ask)),x36)) h
       ·refine Zv2 1 ?_;dsimp only[go_sem];refine An ?_;exact Zy4 J5 (s:=(x29,x30)) h
     ·refine MC 62 h (fun h=>?_) fun h=>?_
      ·dsimp only[go_sem];refine Zv2 3 ?_;dsimp only[go_sem];refine An (Zg5 Side.row ex31 trivial rfl rfl rfl (Zv2 2 ?_));dsimp only[go_sem];refine An (MC 68 h (fun h=>?_) fun h=>?_)
       ·dsimp only[go_sem];refine Zv2 4 ?_;dsimp only[go_sem];refine An ?_;exact Zy4 J4 (s:=!x34) h
       ·dsimp only[go_sem];refine Zv2 4 ?_;dsimp only[go_sem];refine An ?_;exact Zy4 J4 (s:=false) h
      ·dsimp only[go_sem];refine Zv2 10 ?_;dsimp only[go_sem];refine An ?_;exact Zy4 J4 (s:=false) h
    ·refine MC 36 h (fun h=>?_) fun h=>?_
     ·dsimp only[go_sem];refine Zv2 7 ?_;dsimp only[go_sem];refine An (MC 43 h (fun h=>?_) fun h=>?_)
      ·dsimp only[go_sem];refine Zv2 16 ?_;dsimp only[go_sem];refine An ?_;exact Zy4 J3 (s:=true) h
      ·dsimp only[go_sem];refine Zv2 7 ?_;dsimp only[go_sem];refine An (MC 50 h (fun h=>?_) fun h=>?_)
       ·dsimp only[go_sem];refine Zv2 3 ?_;dsimp only[go_sem];refine An (Zg5 Side.row ex31 trivial rfl rfl rfl (Zv2 5 ?_));dsimp only[go_sem];refine An ?_;exact Zy4 J3 (s:=x31.Fork) h
       ·dsimp only[go_sem];refine Zv2 9 ?_;dsimp only[go_sem];refine An ?_;exact Zy4 J3 (s:=false) h
     ·dsimp only[go_sem];refine Zv2 23 ?_;dsimp only[go_sem];refine An ?_;exact Zy4 J3 (s:=false) h
   ·refine Z07 fun all H=>?_;dsimp only[go_sem];refine GP H 7 4 [4,1,3,3] [(25,[.ptr 0 0,.ptr 0 0,.ptr 0 0,.ptr 0 4]),(1,[.oel 0 (Int.toNat (x28)*8) 0,.oel 0 (Int.toNat (x28)*8) 0,.oel 0 (Int.toNat (x28)*8) 0])] ?_;dsimp only[go_sem];refine Z74 4 8 rfl ?_ ?_
    ·refine GV H.1 ?_;dsimp only[go_sem];refine Z64 8 rfl (GL H.1 Side.row ex31 ?_);dsimp only[go_sem];refine Z64 9 rfl ?_;have ⟨x32,ex32,h⟩:=Bs h;refine GK H.1 (LR.slice 1 rfl) (Zid x5 x31.Peer _ ex32) ?_;dsimp only[go_sem];refine GN H 1 0 ?_;dsimp only[go_sem];refine An (GD ?_);exact Zy4 J2 (s:=x32) h
    ·refine GL H.1 Side.row ex31 ?_;dsimp only[go_sem];refine GE H.1 4 ?_;dsimp only[go_sem];refine Z64 9 rfl ?_;have ⟨x32,ex32,h⟩:=Bs h;refine GK H.1 (LR.slice 1 rfl) (Zid x5 x31.Peer _ ex32) ?_;dsimp only[go_sem];refine GN H 1 0 ?_;dsimp only[go_sem];refine An (GD ?_);exact Zy4 J2 (s:=x32) h
  ·refine Zv2 1 ?_;dsimp only[go_sem];refine An ?_;exact Zy4 J1 (s:=(x27,x29,x30)) (Zn4 h hout1)
def Zch:(List Side×List Mail)→Option ((List Side×List Mail) ⊕ (List Mail×List Side))
| (x100,x101)=>
 Option.map Sum.inr (some (x101,x100))
def Zdh (x71:Int):(List Side×List Mail)→Option ((Int×List Side×List Mail) ⊕ ((List Side×List Mail) ⊕ (List Mail×List Side)))
| (x80,x81)=>
 some (.inl (wr (x71+1),x80,x81))
def Zeh (x1 x2:Int) (x3 x4:Int) (x5:List Sess) (x6:List Int) (x7:Int) (x9:List Int) (x10 x11:List KE) (x13:List Event) (x71:Int) (x72:List Side) (x73:List Mail) (x74:Side):Bool→Option ((Int×List Side×List Mail) ⊕ ((List Side×List Mail) ⊕ (List Mail×List Side)))
| x76=>
 ifb x76 (
 (Zdh x71) (x72,x73)) (
 ifb (decide (x1<x74.Peer)) (
 (Zqc x74 7 x1 x2 x3 x4 x5 x6 x7 (x72.set (Int.toNat (x71)) (Side.mk x74.Peer x74.Epoch 3 x74.Fork x74.DY x74.Token x74.BO x74.Ask)) x9 x10 x11 x73 x13).bind fun x77=>
 (Zdh x71) ((x72.set (Int.toNat (x71)) (Side.mk x74.Peer x74.Epoch 3 x74.Fork x74.DY x74.Token x74.BO x74.Ask)),x77)) (
 (Z1g x74.Peer x1 x2 x3 x4 x5 x6 x7 x72 x9 x10 x11 x73 x13).bind fun x78=>
 (Zqc x74 8 x1 x2 x3 x4 x5 x6 x7 x78 x9 x10 x11 x73 x13).bind fun x79=>
 Option.map Sum.inr (some (.inl (x78,x79)))))
def Zfh (x1 x2:Int) (x3 x4:Int) (x5:List Sess) (x6:List Int) (x7:Int) (x9:List Int) (x10 x11:List KE) (x13:List Event) (x58:List Side):(Int×List Side×List Mail)→Option ((Int×List Side×List Mail) ⊕ ((List Side×List Mail) ⊕ (List Mail×List Side)))
| (x71,x72,x73)=>
 ifb (decide (x71<(ln Side.row x58))) (
 (at_ x72 x71).bind fun x74=>
 ifb (!decide (x74.State=2)) (
 (Zeh x1 x2 x3 x4 x5 x6 x7 x9 x10 x11 x13 x71 x72 x73 x74) true) (
 ifb (decide (x3=2)) (
 (Zhd x9 x74.Peer).bind fun x75=>
 (Zeh x1 x2 x3 x4 x5 x6 x7 x9 x10 x11 x13 x71 x72 x73 x74) x75) (
 (Zeh x1 x2 x3 x4 x5 x6 x7 x9 x10 x11 x13 x71 x72 x73 x74) false))) (
 Option.map Sum.inr (Zch (x72,x73)))
def Zgh (x1 x2:Int) (x3 x4:Int) (x5:List Sess) (x6:List Int) (x7:Int) (x9:List Int) (x10 x11:List KE) (x13:List Event):(List Side×List Mail)→Option ((List Side×List Mail) ⊕ (List Mail×List Side))
| (x58,x59)=>
 loop (Zfh x1 x2 x3 x4 x5 x6 x7 x9 x10 x11 x13 x58) (0,x58,x59)
def Zhh (x1 x2:Int) (x3 x4:Int) (x5:List Sess) (x6:List Int) (x7:Int) (x8:List Side) (x9:List Int) (x10 x11:List KE) (x12:List Mail) (x13:List Event):Option (List Mail×List Side):=
 loop (Zgh x1 x2 x3 x4 x5 x6 x7 x9 x10 x11 x13) (x8,x12)
theorem Zih (x1 x2:Int) (x3 x4:Int) (x5:List Sess) (x6:List Int) (x7:Int) (x8:List Side) (x9:List Int) (x10 x11:List KE) (x12:List Mail) (x13:List Event) (r:(List Mail×List Side)) (h:Zhh x1 x2 x3 x4 x5 x6 x7 x8 x9 x10 x11 x12 x13=some r):Zr5 Tryz.prog 133 [.ptr 0 0] [some ⟨81,[.iv x1,.iv x2,.osl 0,.iv x3,.osl 1,.iv x4,Sp3 x5,.osl 2,Sp0 x6,.osl 3,.osl 4,.osl 5,.iv x7]⟩] [Sq6 x8,Sq7 x9,Sq8 x10,Sq8 x11,Zb7 x12,Za7 x13] (.tup []) [some ⟨81,[.iv x1,.iv x2,.osl 8,.iv x3,.osl 1,.iv x4,Sp3 x5,.osl 2,Sp0 x6,.osl 3,.osl 7,.osl 5,.iv x7]⟩] [none,Sq7 x9,Sq8 x10,Sq8 x11,none,Za7 x13,none,Zb7 r.1,Sq6 r.2]:=by
 refine FT ok133 fun w0 M0=>?_
 rw [Zhh] at h
 dsimp only[lun,List.cons_append,List.nil_append]
 refine Zv2 3 ?_;dsimp only[go_sem];refine An (Z47 74 5 ?_);dsimp only[go_sem];refine Z47 74 5 ?_;dsimp only[go_sem];refine Z47 74 5 ?_;dsimp only[go_sem];refine Z47 74 5 ?_;dsimp only[go_sem];refine Z47 74 5 ?_;dsimp only[go_sem];refine Z17 4 10 (Z17 0 8 ?_);dsimp only[go_sem]
 refine M_jump h (fun ((x58,x59):(List Side×List Mail))=>(⟨(.ptr 0 0::an 70 []),[some ⟨81,[.iv x1,.iv x2,.osl 8,.iv x3,.osl 1,.iv x4,Sp3 x5,.osl 2,Sp0 x6,.osl 3,.osl 10,.osl 5,.iv x7]⟩],[none,Sq7 x9,Sq8 x10,Sq8 x11,none,Za7 x13,none,none,Sq6 x58,none,Zb7 x59]⟩:St)) (by simp [go_sem]) (by rintro ⟨x58,x59⟩;first | rfl | simp [go_sem]) (by rintro ⟨x58,x59⟩;rfl) (by rintro ⟨x58,x59⟩;rfl) ?_
 rintro ⟨x58,x59⟩ y1 h hin1 hout1;rw [Zgh] at h;(try dsimp only);refine Zv2 12 ?_;dsimp only[go_sem];refine An ?_
 refine Zo4 (fun ((x100,x101):(List Side×List Mail))=>(⟨an 71 [],[some ⟨81,[.iv x1,.iv x2,.osl 8,.iv x3,.osl 1,.iv x4,Sp3 x5,.osl 2,Sp0 x6,.osl 3,.osl 10,.osl 5,.iv x7]⟩],[none,Sq7 x9,Sq8 x10,Sq8 x11,none,Za7 x13,none,none,Sq6 x100,none,Zb7 x101]⟩:St)) Zch y1 ?_ fun J1=>?_
 ·rintro ⟨x100,x101⟩ h;rw [Zch] at h;(try dsimp only);refine Zv2 1 ?_;dsimp only[go_sem];refine An (Z17 10 7 ?_);dsimp only[go_sem];obtain rfl:=Option.some.inj (Zn4 h hout1);exact Z67 ok133
 ·refine Zv2 1 ?_;dsimp only[go_sem];refine An ?_
  refine Zp4 h (fun ((x71,x72,x73):(Int×List Side×List Mail))=>(⟨(.ptr 0 0::an 9 (.osl 8 :: .iv (ln Side.row x58) :: .iv x71::an 58 [])),[some ⟨81,[.iv x1,.iv x2,.osl 8,.iv x3,.osl 1,.iv x4,Sp3 x5,.osl 2,Sp0 x6,.osl 3,.osl 10,.osl 5,.iv x7]⟩],[none,Sq7 x9,Sq8 x10,Sq8 x11,none,Za7 x13,none,none,Sq6 x72,none,Zb7 x73]⟩:St)) (by simp [go_sem]) (by rintro ⟨x71,x72,x73⟩;first | rfl | simp [go_sem]) ?_
  rintro n2 ⟨x71,x72,x73⟩ y2 h hin2 hout2;rw [Zfh] at h;(try dsimp only);refine Zv2 5 ?_;dsimp only[go_sem];refine An (MI h (fun h=>?_) fun h=>?_)
  ·refine Zv2 2 ?_;dsimp only[go_sem];refine An ?_
   refine Zo4 (fun ((x80,x81):(List Side×List Mail))=>(⟨(.ptr 0 0::an 9 (.osl 8 :: .iv (ln Side.row x58) :: .iv x71::an 58 [])),[some ⟨81,[.iv x1,.iv x2,.osl 8,.iv x3,.osl 1,.iv x4,Sp3 x5,.osl 2,Sp0 x6,.osl 3,.osl 10,.osl 5,.iv x7]⟩],[none,Sq7 x9,Sq8 x10,Sq8 x11,none,Za7 x13,none,none,Sq6 x80,none,Zb7 x81]⟩:St)) (Zdh x71) y2 ?_ fun J2=>?_
   ·rintro ⟨x80,x81⟩ h;rw [Zdh] at h;(try dsimp only);refine Zv2 4 ?_;dsimp only[go_sem];refine An ?_;exact Zx4 h hin2
   ·refine Zv2 4 ?_;dsimp only[go_sem];refine An ?_;have ⟨x74,ex74,h⟩:=Bs h;refine Ze5 Side.row ex74 trivial rfl rfl rfl (Zh5 Side.row ex74 trivial rfl rfl rfl (Zv2 6 ?_));dsimp only[go_sem];refine An ?_
    refine Zo4 (fun (x76:Bool)=>(⟨(.ptr 0 0 :: .any :: .iv x71 :: .ptr 1 0::an 6 (.osl 8 :: .iv (ln Side.row x58) :: .iv x71::an 26 (.bv x76::an 31 []))),[some ⟨81,[.iv x1,.iv x2,.osl 8,.iv x3,.osl 1,.iv x4,Sp3 x5,.osl 2,Sp0 x6,.osl 3,.osl 10,.osl 5,.iv x7]⟩,some ⟨65,Side.row x74⟩],[none,Sq7 x9,Sq8 x10,Sq8 x11,none,Za7 x13,none,none,Sq6 x72,none,Zb7 x73]⟩:St)) (Zeh x1 x2 x3 x4 x5 x6 x7 x9 x10 x11 x13 x71 x72 x73 x74) y2 ?_ fun J3=>?_
    ·intro x76 h;rw [Zeh] at h;(try dsimp only);refine MI h (fun h=>?_) fun h=>?_
     ·refine Zv2 1 ?_;dsimp only[go_sem];refine An ?_;exact Zy4 J2 (s:=(x72,x73)) h
     ·refine Zv2 3 ?_;dsimp only[go_sem];refine An (Z07 fun all H=>?_);dsimp only[go_sem];refine GP H 10 0 [10] [(40,[.ptr 1 0,.iv x74.Peer,.ptr 0 0,.ptr 0 0,.ptr 0 0,.ptr 0 0,.ptr 0 0,.ptr 0 0,.iv x1,.bv (decide (x1<x74.Peer))])] ?_;dsimp only[go_sem];refine GD (MI h (fun h=>?_) fun h=>?_)
      ·refine Zv2 10 ?_;dsimp only[go_sem];refine An (Ze5 Side.row ex74 trivial rfl rfl rfl (Zv2 1 ?_));dsimp only[go_sem];refine An (Zl5 [.iv 3] Side.row (y':=(Side.mk x74.Peer x74.Epoch 3 x74.Fork x74.DY x74.Token x74.BO x74.Ask)) ex74 trivial rfl rfl rfl (by first | exact Zi4 _ | simp [go_sem]) rfl rfl rfl rfl (Zv2 5 ?_));dsimp only[go_sem];refine An ?_;have ⟨x77,ex77,h⟩:=Bs h
       refine Z77 [0] [8,1,2,3,10,5] 2 11 (Zrc x74 7 x1 x2 x3 x4 x5 x6 x7 (x72.set (Int.toNat (x71)) (Side.mk x74.Peer x74.Epoch 3 x74.Fork x74.DY x74.Token x74.BO x74.Ask)) x9 x10 x11 x73 x13 _ ex77) ?_;dsimp only[go_sem];refine Zv2 2 ?_;dsimp only[go_sem];refine An (Z17 12 10 ?_);dsimp only[go_sem]
       exact Zy4 J2 (s:=((x72.set (Int.toNat (x71)) (Side.mk x74.Peer x74.Epoch 3 x74.Fork x74.DY x74.Token x74.BO x74.Ask)),x77)) h
      ·refine Zv2 6 ?_;dsimp only[go_sem];refine An ?_;have ⟨x78,ex78,h⟩:=Bs h;refine Z77 [0] [8,1,2,3,10,5] 2 11 (Z2g x74.Peer x1 x2 x3 x4 x5 x6 x7 x72 x9 x10 x11 x73 x13 _ ex78) ?_;dsimp only[go_sem];refine Zv2 5 ?_;dsimp only[go_sem];refine An ?_;have ⟨x79,ex79,h⟩:=Bs h
       refine Z77 [0] [11,1,2,3,10,5] 2 12 (Zrc x74 8 x1 x2 x3 x4 x5 x6 x7 x78 x9 x10 x11 x73 x13 _ ex79) ?_;dsimp only[go_sem];refine Zv2 4 ?_;dsimp only[go_sem];refine An (Z17 13 10 (Z17 11 8 ?_));dsimp only[go_sem];exact Zx4 (Zn4 h hout2) hin1
    ·refine Z07 fun all H=>?_;dsimp only[go_sem];refine GP H 4 19 [4,19] [(17,[.ptr 1 2,.iv x74.State,.bv (!decide (x74.State=2)),.bv (!decide (x74.State=2))])] ?_;dsimp only[go_sem];refine Z35 20 h rfl (fun _ h=>?_) fun _ h=>?_
     ·dsimp only[go_sem];refine GP H 19 0 [23] [(21,[.un,.un,.un,.un,.un,.un,.un,.un,.un,.un,.un,.un,.un,.un,.un,.un,.un,.un,.tt])] ?_;dsimp only[go_sem];refine GD ?_;exact Zy4 J3 (s:=true) h
     ·dsimp only[go_sem];refine GP H 8 11 [12,11] [(21,[.ptr 0 0,.ptr 0 0,.ptr 0 0,.ptr 0 0,.ptr 0 3,.iv x3,.bv (decide (x3=2)),.bv (decide (x3=2))])] ?_;dsimp only[go_sem];refine Z35 28 h rfl (fun _ h=>?_) fun _ h=>?_
      ·dsimp only[go_sem];refine GP H 7 4 [17,1,2,3] [(29,[.ptr 0 0,.ptr 0 0,.ptr 0 0,.ptr 0 0,.ptr 0 4]),(1,[.ptr 1 0,.iv x74.Peer])] ?_;dsimp only[go_sem];refine GE H.1 17 ?_;dsimp only[go_sem];refine Z64 20 rfl ?_;have ⟨x75,ex75,h⟩:=Bs h;refine GK H.1 (LR.slice 1 rfl) (Zid x9 x74.Peer _ ex75) ?_;dsimp only[go_sem];refine GN H 2 0 ?_;dsimp only[go_sem];refine An (GD ?_);exact Zy4 J3 (s:=x75) h
      ·dsimp only[go_sem];refine GP H 11 0 [23] [(29,[.un,.un,.un,.un,.un,.un,.un,.un,.un,.ff,.ff])] ?_;dsimp only[go_sem];refine GD ?_;exact Zy4 J3 (s:=false) h
  ·refine Zv2 1 ?_;dsimp only[go_sem];refine An ?_;exact Zy4 J1 (s:=(x72,x73)) (Zn4 h hout2)
@[go_sem] def e106:EC:=(by have h:=hF Tryz.f106;(conv at h=>rhs;reduce);dsimp only[go_sem] at h;exact ⟨_,h⟩:DP Tryz.f106).1
theorem ok106:FnOK Tryz.prog 106 Tryz.f106 e106 [.t 4] 2 6:=okA
def Zjh (x1 x2:List Int):Option (List Int):=
 (Zjf x1 ((fun z=>Z7g z x2))).bind fun x3=>
 some x3
theorem k_set_Both (x1 x2 r:List Int) (h:Zjh x1 x2=some r):Z03 Tryz.prog 106 [Sp0 x1,Sp0 x2] (Sp0 r):=by
 refine FP ok106 fun w0 H0=>?_
 rw [Zjh] at h
 refine Zv2 9 ?_;dsimp only[go_sem];refine An (Zk3 0 rfl rfl ?_);dsimp only[go_sem];have ⟨x3,ex3,h⟩:=Bs h;refine VC (Zkf x1 _ _ ((fun z=>Z7g z x2)) ⟨by kernel_rfl,rfl,fun z r hz=>k_set_Both_1 z x2 r hz⟩ _ ex3) (Zv2 2 ?_);dsimp only[go_sem];refine An ?_;exact Zw4 (res:=fun (r:List Int)=>Sp0 r) ok106 h
@[go_sem] def e46:EC:=(by have h:=hF Tryz.f46;(conv at h=>rhs;reduce);dsimp only[go_sem] at h;exact ⟨_,h⟩:DP Tryz.f46).1
theorem ok46:FnOK Tryz.prog 46 Tryz.f46 e46 [.t 4] 2 7:=okA
def Zkh (x1:List Int) (x2:Int):Option (List Int):=
 (Zbg x1 ([x2])).bind fun x3=>
 some x3
theorem Zlh (x1:List Int) (x2:Int) (r:List Int) (h:Zkh x1 x2=some r):Z03 Tryz.prog 46 [Sp0 x1,.iv x2] (Sp0 r):=by
 refine FP ok46 fun w0 H0=>?_
 rw [Zkh] at h
 refine Zv2 9 ?_;dsimp only[go_sem];refine An (Z27 0 ?_);dsimp only[go_sem];have ⟨x3,ex3,h⟩:=Bs h;refine VC (Zcg x1 ([x2]) _ ex3) (Zv2 2 ?_);dsimp only[go_sem];refine An ?_;exact Zw4 (res:=fun (r:List Int)=>Sp0 r) ok46 h
@[go_sem] def e70:EC:=(by have h:=hF Tryz.f70;(conv at h=>rhs;reduce);dsimp only[go_sem] at h;exact ⟨_,h⟩:DP Tryz.f70).1
theorem ok70:FnOK Tryz.prog 70 Tryz.f70 e70 [.t 4] 2 8:=okA
def Zmh (x1 x2:List Int):Option Bool:=
 (Zbg x1 x2).bind fun x3=>
 some (decide ((ln Z15 x3)=0))
theorem Znh (x1 x2:List Int) (r:Bool) (h:Zmh x1 x2=some r):Z03 Tryz.prog 70 [Sp0 x1,Sp0 x2] (.bv r):=by
 refine FP ok70 fun w0 H0=>?_
 rw [Zmh] at h
 refine Zv2 8 ?_;dsimp only[go_sem];refine An ?_;have ⟨x3,ex3,h⟩:=Bs h;refine VC (Zcg x1 x2 _ ex3) (Zv2 4 ?_);dsimp only[go_sem];refine An ?_;exact Zw4 (res:=fun (r:Bool)=>.bv r) ok70 h
end
end NX
end Go.Proofs.YtdjkbodnjhgbcaaGreat
