/-
  The function slices.Insert[[]narthex/api.Known,narthex/api.Known], lent own memory. Written by a program of ours (lb.py). No statement of the seat is proved here.
-/
import Derived.Test.YtgamgemlekpepaaGreatK35
set_option maxRecDepth 100000
set_option maxHeartbeats 40000000
namespace Go.Proofs.YtgamgemlekpepaaGreat
namespace NX
open Go
noncomputable section
def Zj21 (l:List KE) (i:Int) (vs:List KE):Option (List KE):=Zfi 16 l i vs
theorem Zk21 {l i vs r} (h:Zj21 l i vs=some r):
  Z1f Tryz.prog 175 [.osl 0,.iv i,.osl 1] [] [some ⟨121,2,l.map KE.row⟩,some ⟨121,2,List.map KE.row vs⟩] (.osl 2) [] [none,none,some ⟨121,2,r.map KE.row⟩]:=by
 obtain ⟨v,rfl,h⟩:=Zgi h;obtain ⟨hr,h0,h1,hb,h63⟩:=Zhi h;have hln:(l.map KE.row).length=l.length:=List.length_map _;have hw1:wr ((l.length:Int)+1)=(l.length:Int)+1:=IntWalk.i64_in _ ⟨by omega,by omega⟩;have hw2:wr ((l.length:Int)+1-i)=(l.length:Int)+1-i:=IntWalk.i64_in _ ⟨by omega,by omega⟩;have hw3:wr (i+1)=i+1:=IntWalk.i64_in _ ⟨by omega,by omega⟩;obtain ⟨y,hy⟩:∃y,y=v.row:=⟨_,rfl⟩
 have hv1: [v].map KE.row=[y]:=by rw [hy];rfl
 rw [hv1];have hr1:(([y]:List (List AV)).length:Int)=1:=rfl;have hR:(l.map KE.row).take i.toNat++y::(l.map KE.row).drop i.toNat=r.map KE.row:=by rw [hr,hy];simp [List.map_take,List.map_drop]
 have hw4:(i+1).toNat=i.toNat+1:=by omega
 have hw5:((l.length:Int)+1).toNat=l.length+1:=by omega
 refine Z7i (j:=0) Zk01 rfl rfl rfl (by first | rfl | simp [go_sem]) rfl rfl (i<l.length) (fun h=>by rw [hln];omega) (fun w M hc=>?_) (fun w M g cap hq e1 hc e2=>?_)
 ·dsimp only[lun,List.cons_append,List.nil_append];refine Zg6 100 ?_;dsimp only[go_sem];refine An ?_;refine Z87 trivial (Zai (l:=i) rfl rfl rfl h0 (by rw [hln];exact h1)) rfl ?_;refine Zg6 100 ?_;dsimp only[go_sem];refine An ?_;refine Z44 rfl (fun e=>by simp at e) fun _=>?_;refine Zg6 100 ?_;dsimp only[go_sem];refine An ?_;refine Z44 rfl (fun e=>?_) fun hne=>?_
  ·have hi:i=l.length:=by simpa using e
   subst hi;refine Zg6 100 ?_;dsimp only[go_sem];refine An ?_;rw [←hv1];refine Zmc KE.row (l':=l) (m':=[v]) (v:=r) ?_ trivial rfl rfl rfl ?_
   ·unfold Z8c;rw [if_pos ⟨by simpa using hb,by simpa using h63⟩,hr];simp
   refine Zg6 100 ?_;dsimp only[go_sem];refine An ?_;exact Zmj Zk01
  ·have hi:i<l.length:=by
    have:¬i=l.length:=by simpa using hne
    omega
   have hc:=hc hi;have hcl:Zth (M.σ 0)<l.length+1:=by simpa [hln] using hc
   refine Zg6 100 ?_;dsimp only[go_sem];refine An ?_;refine Z87 trivial (Zxh rfl rfl (by show 0<2;omega)) rfl ?_;refine Zg6 100 ?_;dsimp only[go_sem];refine An ?_;rw [show (Ctx.lent Tryz.prog w M [] [some ⟨121,2,l.map KE.row⟩,some ⟨121,2,[y]⟩] 0 2).ps 0=M.σ 0 from rfl];simp only [hln,hr1,hw1];refine Z44 rfl (fun _=>?_) fun e=>?_
   ·refine Zg6 100 ?_;dsimp only[go_sem];refine An ?_;refine Z87 trivial (Zig (l:=0) (h:=i) rfl rfl (by rw [hln]<;>omega) rfl rfl (by omega) h0 (by rw [hln];exact h1)) rfl ?_;refine Zg6 100 ?_;dsimp only[go_sem];refine An ?_;simp only [hw1,hw2];have hik:i=(i.toNat:Int):=by omega
    refine Z87 trivial (Z5i (i:=i.toNat) (m:=(l.length:Int)+1-i) rfl rfl (by rw [hln]<;>omega) (by show 0<2;omega) rfl (by omega) ?_ rfl ?_ (by omega) rfl) rfl ?_
    ·show (Zth (M.σ 0):Int)<_;omega
    ·have:(i.toNat:Int)+((l.length:Int)+1-i)=((l.length+1:Nat):Int):=by omega
     rw [this];omega
    refine Zg6 100 ?_;dsimp only[go_sem];refine An ?_;have hrl:((l.map KE.row).take i.toNat++List.replicate ((l.length:Int)+1-i).toNat [AV.iv 0,AV.iv 0]).length=l.length+1:=by rw [List.length_append,List.length_take,List.length_replicate,hln];omega
    refine Z87 trivial (Zig (l:=i) (h:=(l.length:Int)+1) rfl rfl (by rw [hrl]<;>omega) rfl (by simp only [bnd,hrl];rfl) h0 (by omega) (by rw [hrl]<;>omega)) rfl ?_;refine Zg6 100 ?_;dsimp only[go_sem];refine An ?_;refine Z4i 44 1 rfl rfl (by show 0<1;omega) ?_;dsimp only[go_sem];refine Z87 trivial (Zbi ((l.map KE.row).take i.toNat++y::List.replicate ((l.map KE.row).length-i.toNat) [AV.iv 0,AV.iv 0]) rfl rfl rfl rfl (by rw [hrl]<;>omega) (by show 0+1≤1;omega) (by rw [hrl]<;>omega) (by show 0<1;omega) (Zci (by rw [hln]<;>omega) (by rw [hln]<;>omega) (by omega) rfl)) rfl ?_;refine Zg6 100 ?_;dsimp only[go_sem];refine An ?_;refine Zgj fun all H=>?_;dsimp only[go_sem];refine GN H 6 3 ?_;dsimp only[go_sem];refine An ?_;simp only [hw3];have hr2:((l.map KE.row).take i.toNat++y::List.replicate ((l.map KE.row).length-i.toNat) [AV.iv 0,AV.iv 0]).length=l.length+1:=by rw [List.length_append,List.length_take,List.length_cons,List.length_replicate,hln];omega
    refine Zoa 4 7 rfl ?_ ?_
    ·refine Zqa H.1 trivial (Zig (l:=i+1) (h:=(l.length:Int)+1) rfl rfl (by rw [hr2]<;>omega) rfl (by simp only [bnd,hr2];rfl) (by omega) (by omega) (by rw [hr2]<;>omega)) rfl (Z8a _ _) ?_;dsimp only[go_sem];refine Zna 7 rfl ?_;refine Zqa H.1 trivial (Zig (l:=i) (h:=(l.length:Int)) rfl rfl (by rw [hln]<;>omega) rfl (by simp only [bnd,hln]) h0 (by omega) (by rw [hln];exact Int.le_refl _)) rfl (Z8a _ _) ?_;dsimp only[go_sem];refine Zna 8 rfl ?_;refine Zqa (S1:=⟨_,_,_⟩) H.1 trivial (Zbi (r.map KE.row) rfl rfl rfl rfl (by rw [hr2]<;>omega) (by rw [hln]<;>omega) (by rw [hr2]<;>omega) (by omega) ?_) rfl (fun _ _ _ _ h _ _=>h) ?_
     ·rw [show (i+1).toNat=i.toNat+1 by omega,←hR];exact Zdi (by rw [hln]<;>omega) (by rw [hln]<;>omega) (by rw [hln]<;>omega)
     dsimp only[go_sem];refine GD ?_;refine Zg6 100 ?_;dsimp only[go_sem];refine An ?_;exact Zmj Zk01
    ·refine Zqa H.1 trivial (Zig (l:=i) (h:=(l.length:Int)) rfl rfl (by rw [hln]<;>omega) rfl (by simp only [bnd,hln]) h0 (by omega) (by rw [hln];exact Int.le_refl _)) rfl (Z8a _ _) ?_;dsimp only[go_sem];refine Zna 4 rfl ?_;refine Zqa H.1 trivial (Zig (l:=i+1) (h:=(l.length:Int)+1) rfl rfl (by rw [hr2]<;>omega) rfl (by simp only [bnd,hr2];rfl) (by omega) (by omega) (by rw [hr2]<;>omega)) rfl (Z8a _ _) ?_;dsimp only[go_sem];refine Zna 8 rfl ?_;refine Zqa (S1:=⟨_,_,_⟩) H.1 trivial (Zbi (r.map KE.row) rfl rfl rfl rfl (by rw [hr2]<;>omega) (by rw [hln]<;>omega) (by rw [hr2]<;>omega) (by omega) ?_) rfl (fun _ _ _ _ h _ _=>h) ?_
     ·rw [show (i+1).toNat=i.toNat+1 by omega,←hR];exact Zdi (by rw [hln]<;>omega) (by rw [hln]<;>omega) (by rw [hln]<;>omega)
     dsimp only[go_sem];refine GD ?_;refine Zg6 100 ?_;dsimp only[go_sem];refine An ?_;exact Zmj Zk01
   ·exact absurd e (by simpa using (by omega:(Zth (M.σ 0):Int)<l.length+1))
 ·dsimp only[lun,List.cons_append,List.nil_append];have hcn:(Ctx.lent Tryz.prog w M [] [some ⟨121,2,l.map KE.row⟩,some ⟨121,2,[y]⟩,none] 0 3).nq=3:=rfl;have hp0:(Ctx.lent Tryz.prog w M [] [some ⟨121,2,l.map KE.row⟩,some ⟨121,2,[y]⟩,none] 0 3).ps 0 = .slice (some ⟨g,0,none⟩) l.length cap:=by rw [hln] at e1;exact e1
  have hp2:(Ctx.lent Tryz.prog w M [] [some ⟨121,2,l.map KE.row⟩,some ⟨121,2,[y]⟩,none] 0 3).ps 2 = .slice (some ⟨g,0,none⟩) (l.length+1) cap:=by rw [hln] at e2;exact e2
  have hc:l.length+1≤cap:=by rw [hln] at hc;exact hc
  refine Zg6 100 ?_;dsimp only[go_sem];refine An ?_;refine Z87 trivial (Zai (l:=i) rfl rfl rfl h0 (by rw [hln];exact h1)) rfl ?_;refine Zg6 100 ?_;dsimp only[go_sem];refine An ?_;refine Z44 rfl (fun e=>by simp at e) fun _=>?_;refine Zg6 100 ?_;dsimp only[go_sem];refine An ?_;refine Z44 rfl (fun e=>?_) fun _=>?_
  ·exfalso;have:i=l.length:=by simpa using e
   omega
  refine Zg6 100 ?_;dsimp only[go_sem];refine An ?_;refine Z87 trivial (Zxh rfl rfl (by show 0<3;omega)) rfl ?_;rw [hp0];refine Zg6 100 ?_;dsimp only [go_sem,Zth];refine An ?_;simp only [hln,hr1,hw1];refine Z44 rfl (fun e=>?_) fun _=>?_
  ·exfalso;have:(cap:Int)<l.length+1:=by simpa using e
   omega
  refine Zg6 100 ?_;dsimp only[go_sem];refine An ?_;simp only [hw1];refine Z87 trivial (Zyh (h:=(l.length:Int)+1) rfl (by show 0<3;omega) (by show 2<3;omega) hp0 hp2 hc rfl rfl rfl) rfl ?_;refine Zg6 100 ?_;dsimp only[go_sem];refine An ?_;simp only [hw3];refine Z87 trivial (Zzh (l:=i+1) (h:=(l.length:Int)+1) rfl (by show 2<3;omega) hp2 hc rfl rfl (by omega) (by omega) (by omega)) rfl ?_;refine Zg6 100 ?_;dsimp only[go_sem];refine An ?_;refine Z87 trivial (Z1i (ft:=Tryz.f208) (tS:=65) (tR:=4) (e:=121) (j:=0) (by kernel_rfl) (by kernel_rfl) (by kernel_rfl) (by kernel_rfl) (by kernel_rfl) (by kernel_rfl) (by kernel_rfl) rfl rfl rfl rfl (by omega) (by show 0<1;omega) (by show 0<(l.map KE.row).length;rw [hln];omega) (by show 0<3;omega) (by show 2<3;omega) hp0 hp2) rfl ?_;refine Zg6 100 ?_;dsimp only[go_sem];refine An ?_;have hrs:((l.map KE.row).take (i.toNat+1)++(l.map KE.row).drop i.toNat).length=l.length+1:=by rw [List.length_append,List.length_take,List.length_drop,hln];omega
  refine Zgj fun all H=>?_;dsimp only[go_sem];refine GN H 6 3 ?_;dsimp only[go_sem];refine An ?_;simp only [hw3];refine Zoa 4 7 rfl ?_ ?_
  ·refine Zqa H.1 trivial (Zzh (l:=i+1) (h:=(l.length:Int)+1) rfl (by show 2<3;omega) hp2 hc rfl rfl (by omega) (by omega) (by omega)) rfl (Z8a _ _) ?_;dsimp only[go_sem];refine Zna 7 rfl ?_;refine Zqa H.1 trivial (Zzh (l:=i) (h:=(l.length:Int)+1) rfl (by show 2<3;omega) hp2 hc rfl rfl h0 (by omega) (by omega)) rfl (Z8a _ _) ?_;dsimp only[go_sem];simp only [hw4,hw5,Nat.add_sub_add_right];refine Zna 8 rfl ?_;refine Zqa (S1:=⟨_,_,_⟩) H.1 trivial (Z2i (i:=i.toNat) rfl rfl rfl hln (by omega) (by show 2<3;omega) (by show 0<3;omega) (by show 2<3;omega) hp0 hp2 hc) rfl (fun _ _ _ _ h _ _=>h) ?_;dsimp only[go_sem];refine GD ?_;refine Zg6 100 ?_;dsimp only[go_sem];refine An ?_;refine Z87 trivial (Zzh (l:=i) (h:=(l.length:Int)+1) rfl (by show 2<3;omega) hp2 hc rfl rfl h0 (by omega) (by omega)) rfl ?_;refine Zg6 100 ?_;dsimp only[go_sem];refine An ?_;refine Z4i 81 1 rfl rfl (by show 0<1;omega) ?_;dsimp only[go_sem];refine Z87 trivial (Zbi (r.map KE.row) rfl rfl rfl rfl (by rw [hrs,hw5]<;>omega) (by show 0+1≤1;omega) (by rw [hrs]<;>omega) (by show 0<1;omega) (by rw [←hR];exact Zei (by rw [hln]<;>omega) (by omega) rfl)) rfl ?_;refine Zg6 100 ?_;dsimp only[go_sem];refine An ?_;exact Zmj Zk01
  ·refine Zqa H.1 trivial (Zzh (l:=i) (h:=(l.length:Int)+1) rfl (by show 2<3;omega) hp2 hc rfl rfl h0 (by omega) (by omega)) rfl (Z8a _ _) ?_;dsimp only[go_sem];refine Zna 4 rfl ?_;refine Zqa H.1 trivial (Zzh (l:=i+1) (h:=(l.length:Int)+1) rfl (by show 2<3;omega) hp2 hc rfl rfl (by omega) (by omega) (by omega)) rfl (Z8a _ _) ?_;dsimp only[go_sem];simp only [hw4,hw5,Nat.add_sub_add_right];refine Zna 8 rfl ?_;refine Zqa (S1:=⟨_,_,_⟩) H.1 trivial (Z2i (i:=i.toNat) rfl rfl rfl hln (by omega) (by show 2<3;omega) (by show 0<3;omega) (by show 2<3;omega) hp0 hp2 hc) rfl (fun _ _ _ _ h _ _=>h) ?_;dsimp only[go_sem];refine GD ?_;refine Zg6 100 ?_;dsimp only[go_sem];refine An ?_;refine Z87 trivial (Zzh (l:=i) (h:=(l.length:Int)+1) rfl (by show 2<3;omega) hp2 hc rfl rfl h0 (by omega) (by omega)) rfl ?_;refine Zg6 100 ?_;dsimp only[go_sem];refine An ?_;refine Z4i 81 1 rfl rfl (by show 0<1;omega) ?_;dsimp only[go_sem];refine Z87 trivial (Zbi (r.map KE.row) rfl rfl rfl rfl (by rw [hrs,hw5]<;>omega) (by show 0+1≤1;omega) (by rw [hrs]<;>omega) (by show 0<1;omega) (by rw [←hR];exact Zei (by rw [hln]<;>omega) (by omega) rfl)) rfl ?_;refine Zg6 100 ?_;dsimp only[go_sem];refine An ?_;exact Zmj Zk01
def Zl21 (x5:Bool):List Int→Option (Bool×List Int)
| x7=>some (x5,x7)
def Zm21 (x1:SE) (x3:List Int):Bool→Option (Bool×List Int)
| x5=>
 ifb x5 (
 (Z8c 8 x3 ([x1.ID])).bind fun x6=>
 (Zl21 x5) x6) (
 (Zl21 x5) x3)
def Zn21 (x1:SE) (x2:Int) (x3:List Int):Option (Bool×List Int):=
 ifb (decide (x1.SS=0)) (
 (Z1x x1.NE x2).bind fun x4=>
 (Zm21 x1 x3) x4) (
 (Zm21 x1 x3) false)
theorem Zo21 {x1 x2 x3 r} (h:Zn21 x1 x2 x3=some r):FTx 177 [.agg (SE.row x1),.ptr 0 0,.ptr 1 0] [some ⟨3,[.iv x2]⟩,some ⟨40,[.osl 0]⟩] [Sq4 x3] (.bv r.1) [some ⟨3,[.iv x2]⟩,some ⟨40,[.osl 2]⟩] [none,none,Sq4 r.2]:=by
 refine Ft Zl01 fun w0 M0=>?_;have ok:=Zl01;rw [Zn21] at h;refine Vg 11 ?_;refine Vk [2,2] (fun x5=>[(5,.bv x5)]) (Zm21 x1 x3) r ?_ fun J1=>?_
 ·intro x5 h;rw [Zm21] at h;refine Vg 5 ?_;refine Vl [5,1] (fun x7=>([],[some ⟨3,[.iv x2]⟩,some ⟨40,[.osl 2]⟩],[none,none,Sq4 x7])) (Zl21 x5) r ?_ fun J2=>?_
  ·intro x7 h;rw [Zl21] at h;exact W
  ·refine MI h (fun h=>?_) fun h=>?_
   ·refine Vg 5 ?_;have ⟨x6,ex6,h⟩:=Bs h;refine Zmc Z4d ex6 trivial rfl rfl rfl ?_;exact W
   ·refine Vg 1 ?_;refine Zlj 3 1 (Ds ?_);refine Zlj 3 1 (Ds ?_);refine Zij 0 2 ?_;exact W
 ·refine MC 9 h (fun h=>?_) fun h=>?_
  ·refine Vg 3 ?_;refine VB h Z2x fun _ _ h=>?_;exact W
  ·exact W
def Zp21 (x61:List SX) (x62:List ML):Int→Option (Int×List SX×List ML)
| x64=>some (x64,x61,x62)
def Zq21 (x3:Int) (x61:List SX) (x62:List ML):Bool→Option (Int×List SX×List ML)
| x63=>
 ifb x63 (
 (Zp21 x61 x62) 2) (
 (Zp21 x61 x62) x3)
def Zr21 (x3:Int):(Bool×List SX×List ML)→Option (Int×List SX×List ML)
| (x60,x61,x62)=>
 ifb (decide (x3=1)) (
 (Zq21 x3 x61 x62) x60) (
 (Zq21 x3 x61 x62) false)
def Zs21 (x28:Int) (x43:List SX) (x44:List ML):Bool→Option ((Bool×Int×List SX×List ML) ⊕ (Int×List SX×List ML))
| x46=>some (.inl (x46,wr (x28+1),x43,x44))
def Zt21 (x27:Bool) (x28:Int) (x33:Bool):(List SX×List ML)→Option ((Bool×Int×List SX×List ML) ⊕ (Int×List SX×List ML))
| (x43,x44)=>
 ifb x27 (
 ifb (!x33) (
 (Zs21 x28 x43 x44) true) (
 (at_ x43 x28).bind fun x45=>
 (Zs21 x28 x43 x44) x45.BO)) (
 (Zs21 x28 x43 x44) false)
def Zu21 (x1 x2 x3:Int) (x5:List Int) (x27:Bool) (x28:Int) (x33:Bool) (x37:List SX) (x38:List ML):Bool→Option ((Bool×Int×List SX×List ML) ⊕ (Int×List SX×List ML))
| x40=>
 ifb x40 (
 (at_ x37 x28).bind fun x41=>
 (Z6u (SX.mk x41.PE x41.EP x41.SS x41.FK x41.DY x41.TO x41.BO false) 4 x1 x2 x3 (x37.set (Int.toNat (x28)) (SX.mk x41.PE x41.EP x41.SS x41.FK x41.DY x41.TO x41.BO false)) x5 x38).bind fun x42=>
 (Zt21 x27 x28 x33) ((x37.set (Int.toNat (x28)) (SX.mk x41.PE x41.EP x41.SS x41.FK x41.DY x41.TO x41.BO false)),x42)) (
 (Zt21 x27 x28 x33) (x37,x38))
def Zv21 (x1 x2 x3:Int) (x5:List Int) (x27:Bool) (x28:Int) (x33:Bool):(List SX×List ML)→Option ((Bool×Int×List SX×List ML) ⊕ (Int×List SX×List ML))
| (x37,x38)=>
 ifb (decide (x3=1)) (
 ifb x33 (
 (at_ x37 x28).bind fun x39=>
 ifb x39.Ask (
 (Zu21 x1 x2 x3 x5 x27 x28 x33 x37 x38) (!x39.BO)) (
 (Zu21 x1 x2 x3 x5 x27 x28 x33 x37 x38) false)) (
 (Zu21 x1 x2 x3 x5 x27 x28 x33 x37 x38) false)) (
 (Zu21 x1 x2 x3 x5 x27 x28 x33 x37 x38) false)
def Zw21 (x1 x2 x3:Int) (x5:List Int) (x27:Bool) (x28:Int) (x29:List SX) (x30:List ML) (x31:SX) (x33:Bool):Bool→Option ((Bool×Int×List SX×List ML) ⊕ (Int×List SX×List ML))
| x35=>
 ifb x35 (
 (Z6u (SX.mk x31.PE x31.EP x31.SS x31.FK x31.DY x31.TO false x31.Ask) 3 x1 x2 x3 (x29.set (Int.toNat (x28)) (SX.mk x31.PE x31.EP x31.SS x31.FK x31.DY x31.TO false x31.Ask)) x5 x30).bind fun x36=>
 (Zv21 x1 x2 x3 x5 x27 x28 x33) ((x29.set (Int.toNat (x28)) (SX.mk x31.PE x31.EP x31.SS x31.FK x31.DY x31.TO false x31.Ask)),x36)) (
 (Zv21 x1 x2 x3 x5 x27 x28 x33) (x29,x30))
def Zx21 (x1 x2 x3:Int) (x5:List Int) (x27:Bool) (x28:Int) (x29:List SX) (x30:List ML) (x31:SX) (x33:Bool):Bool→Option ((Bool×Int×List SX×List ML) ⊕ (Int×List SX×List ML))
| x34=>
 ifb x31.BO (
 ifb x31.Ask (
 (Zw21 x1 x2 x3 x5 x27 x28 x29 x30 x31 x33) (!x34)) (
 (Zw21 x1 x2 x3 x5 x27 x28 x29 x30 x31 x33) false)) (
 (Zw21 x1 x2 x3 x5 x27 x28 x29 x30 x31 x33) false)
def Zy21 (x1 x2 x3:Int) (x5:List Int) (x27:Bool) (x28:Int) (x29:List SX) (x30:List ML) (x31:SX):Bool→Option ((Bool×Int×List SX×List ML) ⊕ (Int×List SX×List ML))
| x33=>
 ifb x33 (
 ifb (decide (x3=2)) (
 (Zx21 x1 x2 x3 x5 x27 x28 x29 x30 x31 x33) true) (
 ifb (decide (x3=1)) (
 (Zx21 x1 x2 x3 x5 x27 x28 x29 x30 x31 x33) x31.FK) (
 (Zx21 x1 x2 x3 x5 x27 x28 x29 x30 x31 x33) false))) (
 (Zx21 x1 x2 x3 x5 x27 x28 x29 x30 x31 x33) false)
def Zz21 (x1 x2 x3:Int) (x4:List SX) (x5:List Int):(Bool×Int×List SX×List ML)→Option ((Bool×Int×List SX×List ML) ⊕ (Int×List SX×List ML))
| (x27,x28,x29,x30)=>
 ifb (decide (x28<(ln SX.row x4))) (
 (at_ x29 x28).bind fun x31=>
 (Z1x x5 x31.PE).bind fun x32=>
 (Zy21 x1 x2 x3 x5 x27 x28 x29 x30 x31) x32) (
 Option.map Sum.inr ((Zr21 x3) (x27,x29,x30)))
def Z031 (x1 x2 x3:Int) (x4:List SX) (x5:List Int) (x6:List ML):Option (Int×List SX×List ML):=loop (Zz21 x1 x2 x3 x4 x5) (true,0,x4,x6)
theorem Z131 {x1 x2 x3 x4 x5 x6 r} (h:Z031 x1 x2 x3 x4 x5 x6=some r):FTx 233 [.ptr 0 0] [some ⟨248,[.iv x1,.iv x2,.osl 0,.iv x3,.osl 1,.osl 2]⟩] [Z5k x4,Sq4 x5,Sq6 x6] (.tup []) [some ⟨248,[.iv x1,.iv x2,.osl 0,.iv r.1,.osl 1,.osl 4]⟩] [Z5k r.2.1,Sq4 x5,none,none,Sq6 r.2.2]:=by
 refine Ft Zi01 fun w0 M0=>?_;have ok:=Zi01;rw [Z031] at h;refine Vg 16 ?_;refine Vl [0,1] (fun s=>([(2,.bv s.1)],[some ⟨248,[.iv x1,.iv x2,.osl 0,.iv x3,.osl 1,.osl 4]⟩],[Z5k s.2.1,Sq4 x5,none,none,Sq6 s.2.2])) (Zr21 x3) r ?_ fun J1=>?_
 ·rintro ⟨x60,x61,x62⟩ h;rw [Zr21] at h;refine Vg 9 ?_;refine Vk [0,1] (fun x63=>[(130,.bv x63)]) (Zq21 x3 x61 x62) r ?_ fun J9=>?_
  ·intro x63 h;rw [Zq21] at h;refine Vm [] (fun x64=>([],[(0,3,.iv x64)],[],[])) (Zp21 x61 x62) r ?_ fun J10=>?_
   ·intro x64 h;rw [Zp21] at h;exact W
   ·refine MI h (fun h=>?_) fun h=>?_
    ·refine Vg 7 ?_;exact Ztc J10 h
    ·refine Vg 1 ?_;exact Ztc J10 h
  ·exact W
 ·refine Vg 1 ?_;refine Zlj 53 5 (Ds ?_);refine Zlj 53 5 (Ds ?_);refine Zij 2 4 (Ds ?_);refine Mm h [0,1,12,1] (fun s=>([(2,.bv s.1),(14,.iv s.2.1)],[],[],[(0,Z5k s.2.2.1),(3,none),(4,Sq6 s.2.2.2)])) ?_;rintro n1 ⟨x27,x28,x29,x30⟩ y1 h hin1 hout1;rw [Zz21] at h;refine Vg 5 ?_;refine MI h (fun h=>?_) fun h=>?_
  ·refine Vg 17 ?_;have ⟨x31,ex31,h⟩:=Bs h;refine Zee SX.row ex31 trivial rfl rfl rfl (Vg 3 ?_);refine Vk [0,1,1,1,1,1,8,2] (fun x33=>[(5,.bv x33)]) (Zy21 x1 x2 x3 x5 x27 x28 x29 x30 x31) y1 ?_ fun J2=>?_
   ·intro x33 h;rw [Zy21] at h;refine Vg 4 ?_;refine Vk [0,1,1,1,1,2,7,2] (fun x34=>[(6,.bv x34)]) (Zx21 x1 x2 x3 x5 x27 x28 x29 x30 x31 x33) y1 ?_ fun J3=>?_
    ·intro x34 h;rw [Zx21] at h;refine Vg 6 ?_;refine Zle SX.row ex31 trivial rfl rfl rfl (Vg 1 ?_);refine Vk [0,1,1,1,1,2,7,2] (fun x35=>[(71,.bv x35)]) (Zw21 x1 x2 x3 x5 x27 x28 x29 x30 x31 x33) y1 ?_ fun J4=>?_
     ·intro x35 h;rw [Zw21] at h;refine Vm [0,1,1,1,1,2,7,2] (fun s=>([],[],[],[(0,Z5k s.1),(4,Sq6 s.2)])) (Zv21 x1 x2 x3 x5 x27 x28 x33) y1 ?_ fun J5=>?_
      ·rintro ⟨x37,x38⟩ h;rw [Zv21] at h;refine Vg 10 ?_;refine Vk [0,1,1,1,1,2,7,2] (fun x40=>[(101,.bv x40)]) (Zu21 x1 x2 x3 x5 x27 x28 x33 x37 x38) y1 ?_ fun J6=>?_
       ·intro x40 h;rw [Zu21] at h;refine Vm [0,1,1,1,1,2,7,2] (fun s=>([],[],[],[(0,Z5k s.1),(4,Sq6 s.2)])) (Zt21 x27 x28 x33) y1 ?_ fun J7=>?_
        ·rintro ⟨x43,x44⟩ h;rw [Zt21] at h;refine Vg 3 ?_;refine Vk [0,1,12,2] (fun x46=>[(2,.bv x46)]) (Zs21 x28 x43 x44) y1 ?_ fun J8=>?_
         ·intro x46 h;rw [Zs21] at h;exact W
         ·refine MC 111 h (fun h=>?_) fun h=>?_
          ·refine Vg 3 ?_;refine MC 114 h (fun h=>?_) fun h=>?_
           ·exact W
           ·refine Vg 3 ?_;have ⟨x45,ex45,h⟩:=Bs h;refine Zle SX.row ex45 trivial rfl rfl rfl ?_;exact W
          ·exact W
        ·refine MI h (fun h=>?_) fun h=>?_
         ·refine Vg 5 ?_;have ⟨x41,ex41,h⟩:=Bs h;refine Zve [.bv false] SX.row (y':=(SX.mk x41.PE x41.EP x41.SS x41.FK x41.DY x41.TO x41.BO false)) ex41 trivial rfl rfl rfl (by first | exact Zrb _ | simp [go_sem]) rfl rfl rfl rfl (Vg 5 ?_);refine Zne SX.row (Zfe ex41) trivial rfl rfl rfl (VR [0] [0,1,4] 1 5 h Z7u fun _ _ h=>?_);refine Vg 1 ?_;refine Zij 6 4 ?_;exact W
         ·exact W
       ·refine MC 86 h (fun h=>?_) fun h=>?_
        ·refine Vg 3 ?_;refine MC 89 h (fun h=>?_) fun h=>?_
         ·refine Vg 3 ?_;have ⟨x39,ex39,h⟩:=Bs h;refine Zle SX.row ex39 trivial rfl rfl rfl (Vg 2 ?_);refine MC 95 h (fun h=>?_) fun h=>?_
          ·refine Vg 3 ?_;refine Zle SX.row ex39 trivial rfl rfl rfl ?_;exact W
          ·exact W
         ·exact W
        ·exact W
      ·refine MI h (fun h=>?_) fun h=>?_
       ·refine Vg 5 ?_;refine Zve [.bv false] SX.row (y':=(SX.mk x31.PE x31.EP x31.SS x31.FK x31.DY x31.TO false x31.Ask)) ex31 trivial rfl rfl rfl (by first | exact Zrb _ | simp [go_sem]) rfl rfl rfl rfl (Vg 5 ?_);refine Zne SX.row (Zfe ex31) trivial rfl rfl rfl (VR [0] [0,1,4] 1 5 h Z7u fun _ _ h=>?_);refine Vg 1 ?_;refine Zij 6 4 ?_;exact W
       ·exact W
     ·refine MC 62 h (fun h=>?_) fun h=>?_
      ·refine Vg 3 ?_;refine Zle SX.row ex31 trivial rfl rfl rfl ?_;exact W
      ·exact W
    ·refine MC 36 h (fun h=>?_) fun h=>?_
     ·refine Vg 7 ?_;refine MC 43 h (fun h=>?_) fun h=>?_
      ·exact W
      ·refine Vg 7 ?_;refine MC 50 h (fun h=>?_) fun h=>?_
       ·refine Vg 3 ?_;refine Zle SX.row ex31 trivial rfl rfl rfl ?_;exact W
       ·exact W
     ·exact W
   ·refine Zgj fun all H=>Ds (GP H 7 4 [4,1,3,3] [(25,[.ptr 0 0,.ptr 0 0,.ptr 0 0,.ptr 0 4]),(1,[.oel 0 (Int.toNat (x28)*8) 0,.oel 0 (Int.toNat (x28)*8) 0,.oel 0 (Int.toNat (x28)*8) 0])] (Ds ?_));refine Zoa 4 8 rfl ?_ ?_
    ·refine RV ?_;refine RO ?_;refine RL ?_;refine RQ (LR.slice 1 rfl) h Z2x fun x32 ex32 h=>?_;refine Gn H 1 0 ?_;refine GD ?_;exact W
    ·refine RL ?_;refine R1 ?_;refine RQ (LR.slice 1 rfl) h Z2x fun _ _ h=>?_;refine Gn H 1 0 ?_;refine GD ?_;exact W
  ·exact W
def Z231:(List SX×List ML)→Option ((List SX×List ML) ⊕ (List ML×List SX))
| (x100,x101)=>Option.map Sum.inr (some (x101,x100))
def Z331 (x71:Int):(List SX×List ML)→Option ((Int×List SX×List ML) ⊕ ((List SX×List ML) ⊕ (List ML×List SX)))
| (x80,x81)=>some (.inl (wr (x71+1),x80,x81))
def Z431 (x1 x2:Int) (x3 x4:Int) (x5:List SE) (x6:List Int) (x7:Int) (x9:List Int) (x10 x11:List KE) (x13:List EV) (x71:Int) (x72:List SX) (x73:List ML) (x74:SX):Bool→Option ((Int×List SX×List ML) ⊕ ((List SX×List ML) ⊕ (List ML×List SX)))
| x76=>
 ifb x76 (
 (Z331 x71) (x72,x73)) (
 ifb (decide (x1<x74.PE)) (
 (Zau x74 7 x1 x2 x3 x4 x5 x6 x7 (x72.set (Int.toNat (x71)) (SX.mk x74.PE x74.EP 3 x74.FK x74.DY x74.TO x74.BO x74.Ask)) x9 x10 x11 x73 x13).bind fun x77=>
 (Z331 x71) ((x72.set (Int.toNat (x71)) (SX.mk x74.PE x74.EP 3 x74.FK x74.DY x74.TO x74.BO x74.Ask)),x77)) (
 (Zt01 x74.PE x1 x2 x3 x4 x5 x6 x7 x72 x9 x10 x11 x73 x13).bind fun x78=>
 (Zau x74 8 x1 x2 x3 x4 x5 x6 x7 x78 x9 x10 x11 x73 x13).bind fun x79=>
 Option.map Sum.inr (some (.inl (x78,x79)))))
def Z531 (x1 x2:Int) (x3 x4:Int) (x5:List SE) (x6:List Int) (x7:Int) (x9:List Int) (x10 x11:List KE) (x13:List EV) (x58:List SX):(Int×List SX×List ML)→Option ((Int×List SX×List ML) ⊕ ((List SX×List ML) ⊕ (List ML×List SX)))
| (x71,x72,x73)=>
 ifb (decide (x71<(ln SX.row x58))) (
 (at_ x72 x71).bind fun x74=>
 ifb (!decide (x74.SS=2)) (
 (Z431 x1 x2 x3 x4 x5 x6 x7 x9 x10 x11 x13 x71 x72 x73 x74) true) (
 ifb (decide (x3=2)) (
 (Z1x x9 x74.PE).bind fun x75=>
 (Z431 x1 x2 x3 x4 x5 x6 x7 x9 x10 x11 x13 x71 x72 x73 x74) x75) (
 (Z431 x1 x2 x3 x4 x5 x6 x7 x9 x10 x11 x13 x71 x72 x73 x74) false))) (
 Option.map Sum.inr (Z231 (x72,x73)))
def Z631 (x1 x2:Int) (x3 x4:Int) (x5:List SE) (x6:List Int) (x7:Int) (x9:List Int) (x10 x11:List KE) (x13:List EV):(List SX×List ML)→Option ((List SX×List ML) ⊕ (List ML×List SX))
| (x58,x59)=>loop (Z531 x1 x2 x3 x4 x5 x6 x7 x9 x10 x11 x13 x58) (0,x58,x59)
def Z731 (x1 x2:Int) (x3 x4:Int) (x5:List SE) (x6:List Int) (x7:Int) (x8:List SX) (x9:List Int) (x10 x11:List KE) (x12:List ML) (x13:List EV):Option (List ML×List SX):=loop (Z631 x1 x2 x3 x4 x5 x6 x7 x9 x10 x11 x13) (x8,x12)
theorem Z831 {x1 x2 x3 x4 x5 x6 x7 x8 x9 x10 x11 x12 x13 r} (h:Z731 x1 x2 x3 x4 x5 x6 x7 x8 x9 x10 x11 x12 x13=some r):FTx 184 [.ptr 0 0] [some ⟨138,[.iv x1,.iv x2,.osl 0,.iv x3,.osl 1,.iv x4,Sp5 x5,.osl 2,Sp1 x6,.osl 3,.osl 4,.osl 5,.iv x7]⟩] [Z5k x8,Sq4 x9,Z6k x10,Z6k x11,Sq6 x12,Z8k x13] (.tup []) [some ⟨138,[.iv x1,.iv x2,.osl 8,.iv x3,.osl 1,.iv x4,Sp5 x5,.osl 2,Sp1 x6,.osl 3,.osl 7,.osl 5,.iv x7]⟩] [none,Sq4 x9,Z6k x10,Z6k x11,none,Z8k x13,none,Sq6 r.1,Z5k r.2]:=by
 refine Ft Zp01 fun w0 M0=>?_;have ok:=Zp01;rw [Z731] at h;refine Vg 3 ?_;refine Zlj 53 5 (Ds ?_);refine Zlj 53 5 (Ds ?_);refine Zlj 53 5 (Ds ?_);refine Zlj 53 5 (Ds ?_);refine Zlj 53 5 (Ds ?_);refine Zij 4 10 (Zij 0 8 (Ds ?_));refine Zrc h (fun ((x58,x59):(List SX×List ML))=>⟨(.ptr 0 0::an 70 []),[some ⟨138,[.iv x1,.iv x2,.osl 8,.iv x3,.osl 1,.iv x4,Sp5 x5,.osl 2,Sp1 x6,.osl 3,.osl 10,.osl 5,.iv x7]⟩],[none,Sq4 x9,Z6k x10,Z6k x11,none,Z8k x13,none,none,Z5k x58,none,Sq6 x59]⟩) (by simp [go_sem]) (by rintro ⟨x58,x59⟩;first | rfl | simp [go_sem]) (by rintro ⟨x58,x59⟩;rfl) (by rintro ⟨x58,x59⟩;rfl) ?_;rintro ⟨x58,x59⟩ y1 h hin1 hout1;rw [Z631] at h;refine Vg 12 ?_;refine Vm [] (fun s=>([],[],[],[(8,Z5k s.1),(10,Sq6 s.2)])) Z231 y1 ?_ fun J1=>?_
 ·rintro ⟨x100,x101⟩ h;rw [Z231] at h;refine Vg 1 ?_;refine Zij 10 7 ?_;exact W
 ·refine Vg 1 ?_;refine Mm h [0,1,9,2] (fun s=>([(12,.iv s.1)],[],[],[(8,Z5k s.2.1),(10,Sq6 s.2.2)])) ?_;rintro n2 ⟨x71,x72,x73⟩ y2 h hin2 hout2;rw [Z531] at h;refine Vg 5 ?_;refine MI h (fun h=>?_) fun h=>?_
  ·refine Vg 2 ?_;refine Vm [0,1,9,3] (fun s=>([],[],[],[(8,Z5k s.1),(10,Sq6 s.2)])) (Z331 x71) y2 ?_ fun J2=>?_
   ·rintro ⟨x80,x81⟩ h;rw [Z331] at h;exact W
   ·refine Vg 4 ?_;have ⟨x74,ex74,h⟩:=Bs h;refine Zee SX.row ex74 trivial rfl rfl rfl (Zne SX.row ex74 trivial rfl rfl rfl (Vg 6 ?_));refine Vk [0,1,1,2,6,3] (fun x76=>[(39,.bv x76)]) (Z431 x1 x2 x3 x4 x5 x6 x7 x9 x10 x11 x13 x71 x72 x73 x74) y2 ?_ fun J3=>?_
    ·intro x76 h;rw [Z431] at h;refine MI h (fun h=>?_) fun h=>?_
     ·exact W
     ·refine Vg 3 ?_;refine Zgj fun all H=>Ds (GP H 10 0 [10] [(40,[.ptr 1 0,.iv x74.PE,.ptr 0 0,.ptr 0 0,.ptr 0 0,.ptr 0 0,.ptr 0 0,.ptr 0 0,.iv x1,.bv (decide (x1<x74.PE))])] (Ds ?_));refine GD (MI h (fun h=>?_) fun h=>?_)
      ·refine Vg 10 ?_;refine Zee SX.row ex74 trivial rfl rfl rfl (Vg 1 ?_);refine Zve [.iv 3] SX.row (y':=(SX.mk x74.PE x74.EP 3 x74.FK x74.DY x74.TO x74.BO x74.Ask)) ex74 trivial rfl rfl rfl (by first | exact Zrb _ | simp [go_sem]) rfl rfl rfl rfl (Vg 5 ?_);refine VR [0] [8,1,2,3,10,5] 2 11 h Zbu fun _ _ h=>?_;refine Vg 2 ?_;refine Zij 12 10 ?_;exact W
      ·refine Vg 6 ?_;refine VR [0] [8,1,2,3,10,5] 2 11 h Zu01 fun _ _ h=>?_;refine Vg 5 ?_;refine VR [0] [11,1,2,3,10,5] 2 12 h Zbu fun _ _ h=>?_;refine Vg 4 ?_;refine Zij 13 10 (Zij 11 8 (Ds ?_));exact Zsc (Zec h hout2) hin1
    ·refine Zgj fun all H=>Ds (GP H 4 19 [4,19] [(17,[.ptr 1 2,.iv x74.SS,.bv (!decide (x74.SS=2)),.bv (!decide (x74.SS=2))])] (Ds ?_));refine Zdd 20 h rfl (fun _ h=>?_) fun _ h=>?_
     ·refine Ds (GP H 19 0 [23] [(21,[.un,.un,.un,.un,.un,.un,.un,.un,.un,.un,.un,.un,.un,.un,.un,.un,.un,.un,.tt])] (Ds ?_));refine GD ?_;exact W
     ·refine Ds (GP H 8 11 [12,11] [(21,[.ptr 0 0,.ptr 0 0,.ptr 0 0,.ptr 0 0,.ptr 0 3,.iv x3,.bv (decide (x3=2)),.bv (decide (x3=2))])] (Ds ?_));refine Zdd 28 h rfl (fun _ h=>?_) fun _ h=>?_
      ·refine Ds (GP H 7 4 [17,1,2,3] [(29,[.ptr 0 0,.ptr 0 0,.ptr 0 0,.ptr 0 0,.ptr 0 4]),(1,[.ptr 1 0,.iv x74.PE])] (Ds ?_));refine R1 ?_;refine RQ (LR.slice 1 rfl) h Z2x fun _ _ h=>?_;refine Gn H 2 0 ?_;refine GD ?_;exact W
      ·refine Ds (GP H 11 0 [23] [(29,[.un,.un,.un,.un,.un,.un,.un,.un,.un,.ff,.ff])] (Ds ?_));refine GD ?_;exact W
  ·exact W
end
end NX
end Go.Proofs.YtgamgemlekpepaaGreat
