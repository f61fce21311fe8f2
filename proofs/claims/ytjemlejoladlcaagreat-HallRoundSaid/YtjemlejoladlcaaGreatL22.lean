/-
  The function slices.Insert[[]narthex/api.Side,narthex/api.Side], lent own memory. Written by a program of ours (lb.py). No statement of the seat is proved here.
-/
import Derived.Test.YtjemlejoladlcaaGreatL21
set_option maxRecDepth 100000
set_option maxHeartbeats 40000000
namespace Go.Proofs.YtjemlejoladlcaaGreat
namespace NX
open Go
noncomputable section
def TG (l:List SX) (i:Int) (vs:List SX):Option (List SX):=PU 32 l i vs
theorem Zk {l i vs r} (h:TG l i vs=some r):
  Cr Tryz.prog 153 [.osl 0,.iv i,.osl 1] [] [some ⟨66,8,l.map SX.row⟩,some ⟨66,8,List.map SX.row vs⟩] (.osl 2) [] [none,none,some ⟨66,8,r.map SX.row⟩]:=by
 obtain ⟨v,rfl,h⟩:=ie h;obtain ⟨hr,h0,h1,hb,h63⟩:=ii h;have hln:(l.map SX.row).length=l.length:=List.length_map _;have hw1:wr ((l.length:Int)+1)=(l.length:Int)+1:=IntWalk.i64_in _ ⟨Om,Om⟩;have hw2:wr ((l.length:Int)+1-i)=(l.length:Int)+1-i:=IntWalk.i64_in _ ⟨Om,Om⟩;have hw3:wr (i+1)=i+1:=IntWalk.i64_in _ ⟨Om,Om⟩;obtain ⟨y,hy⟩:∃y,y=v.row:=⟨_,rfl⟩
 have hv1: [v].map SX.row=[y]:=by rw [hy];rfl
 rw [hv1];have hr1:(([y]:List (List AV)).length:Int)=1:=rfl;have hR:(l.map SX.row).take i.toNat++y::(l.map SX.row).drop i.toNat=r.map SX.row:=by rw [hr,hy];simp [List.map_take,List.map_drop]
 have hw4:(i+1).toNat=i.toNat+1:=by omega
 have hw5:((l.length:Int)+1).toNat=l.length+1:=by omega
 refine eK (j:=0) ON rfl rfl rfl (by first | rfl | simp [go_sem]) rfl rfl (i<l.length) (fun h=>by rw [hln];omega) (fun w M hc=>?_) (fun w M g cap hq e1 hc e2=>?_)
 ·dsimp only[D6,List.cons_append,List.nil_append];refine Ah 100 ?_;dsimp only[go_sem];refine An ?_;refine AU trivial (Z9 (l:=i) rfl rfl rfl h0 (by rw [hln];exact h1)) rfl ?_;refine Ah 100 ?_;dsimp only[go_sem];refine An ?_;refine Ex rfl (fun e=>by simp at e) fun _=>?_;refine Ah 100 ?_;dsimp only[go_sem];refine An ?_;refine Ex rfl (fun e=>?_) fun hne=>?_
  ·have hi:i=l.length:=by simpa using e
   subst hi;refine Ah 100 ?_;dsimp only[go_sem];refine An ?_;rw [←hv1];refine BP SX.row (l':=l) (m':=[v]) (v:=r) ?_ trivial rfl rfl rfl ?_
   ·unfold AI;rw [if_pos ⟨by simpa using hb,by simpa using h63⟩,hr];simp
   refine Ah 100 ?_;dsimp only[go_sem];refine An ?_;exact En ON
  ·have hi:i<l.length:=by
    have:¬i=l.length:=by simpa using hne
    omega
   have hc:=hc hi;have hcl:Ed (M.σ 0)<l.length+1:=by simpa [hln] using hc
   refine Ah 100 ?_;dsimp only[go_sem];refine An ?_;refine AU trivial (Z6 rfl rfl (by show 0<2;omega)) rfl ?_;refine Ah 100 ?_;dsimp only[go_sem];refine An ?_;rw [show (Ctx.lent Tryz.prog w M [] [some ⟨66,8,l.map SX.row⟩,some ⟨66,8,[y]⟩] 0 2).ps 0=M.σ 0 from rfl];simp only [hln,hr1,hw1];refine Ex rfl (fun _=>?_) fun e=>?_
   ·refine Ah 100 ?_;dsimp only[go_sem];refine An ?_;refine AU trivial (E9 (l:=0) (h:=i) rfl rfl (by rw [hln]<;>omega) rfl rfl Om h0 (by rw [hln];exact h1)) rfl ?_;refine Ah 100 ?_;dsimp only[go_sem];refine An ?_;simp only [hw1,hw2];have hik:i=(i.toNat:Int):=by omega
    refine AU trivial (mX (i:=i.toNat) (m:=(l.length:Int)+1-i) rfl rfl (by rw [hln]<;>omega) (by show 0<2;omega) rfl Om ?_ rfl ?_ Om rfl) rfl ?_
    ·show (Ed (M.σ 0):Int)<_;omega
    ·have:(i.toNat:Int)+((l.length:Int)+1-i)=((l.length+1:Nat):Int):=by omega
     rw [this];omega
    refine Ah 100 ?_;dsimp only[go_sem];refine An ?_;have hrl:((l.map SX.row).take i.toNat++List.replicate ((l.length:Int)+1-i).toNat [AV.iv 0,AV.iv 0,AV.iv 0,AV.ff,AV.ff,AV.ff,AV.ff,AV.ff]).length=l.length+1:=by rw [List.length_append,List.length_take,List.length_replicate,hln];omega
    refine AU trivial (E9 (l:=i) (h:=(l.length:Int)+1) rfl rfl (by rw [hrl]<;>omega) rfl (by simp only [AY,hrl];rfl) h0 Om (by rw [hrl]<;>omega)) rfl ?_;refine Ah 100 ?_;dsimp only[go_sem];refine An ?_;refine LO 44 1 rfl rfl (by show 0<1;omega) ?_;dsimp only[go_sem];refine AU trivial (HH ((l.map SX.row).take i.toNat++y::List.replicate ((l.map SX.row).length-i.toNat) [AV.iv 0,AV.iv 0,AV.iv 0,AV.ff,AV.ff,AV.ff,AV.ff,AV.ff]) rfl rfl rfl rfl (by rw [hrl]<;>omega) (by show 0+1≤1;omega) (by rw [hrl]<;>omega) (by show 0<1;omega) (gX (by rw [hln]<;>omega) (by rw [hln]<;>omega) Om rfl)) rfl ?_;refine Ah 100 ?_;dsimp only[go_sem];refine An ?_;refine Ai fun all H=>?_;dsimp only[go_sem];refine GN H 6 3 ?_;dsimp only[go_sem];refine An ?_;simp only [hw3];have hr2:((l.map SX.row).take i.toNat++y::List.replicate ((l.map SX.row).length-i.toNat) [AV.iv 0,AV.iv 0,AV.iv 0,AV.ff,AV.ff,AV.ff,AV.ff,AV.ff]).length=l.length+1:=by rw [List.length_append,List.length_take,List.length_cons,List.length_replicate,hln];omega
    refine Ag 4 7 rfl ?_ ?_
    ·refine Bk H.1 trivial (E9 (l:=i+1) (h:=(l.length:Int)+1) rfl rfl (by rw [hr2]<;>omega) rfl (by simp only [AY,hr2];rfl) Om Om (by rw [hr2]<;>omega)) rfl (Cg _ _) ?_;dsimp only[go_sem];refine A6 7 rfl ?_;refine Bk H.1 trivial (E9 (l:=i) (h:=(l.length:Int)) rfl rfl (by rw [hln]<;>omega) rfl (by simp only [AY,hln]) h0 Om (by rw [hln];exact Int.le_refl _)) rfl (Cg _ _) ?_;dsimp only[go_sem];refine A6 8 rfl ?_;refine Bk (S1:=⟨_,_,_⟩) H.1 trivial (HH (r.map SX.row) rfl rfl rfl rfl (by rw [hr2]<;>omega) (by rw [hln]<;>omega) (by rw [hr2]<;>omega) Om ?_) rfl (fun _ _ _ _ h _ _=>h) ?_
     ·rw [show (i+1).toNat=i.toNat+1 by omega,←hR];exact V6 (by rw [hln]<;>omega) (by rw [hln]<;>omega) (by rw [hln]<;>omega)
     dsimp only[go_sem];refine GD ?_;refine Ah 100 ?_;dsimp only[go_sem];refine An ?_;exact En ON
    ·refine Bk H.1 trivial (E9 (l:=i) (h:=(l.length:Int)) rfl rfl (by rw [hln]<;>omega) rfl (by simp only [AY,hln]) h0 Om (by rw [hln];exact Int.le_refl _)) rfl (Cg _ _) ?_;dsimp only[go_sem];refine A6 4 rfl ?_;refine Bk H.1 trivial (E9 (l:=i+1) (h:=(l.length:Int)+1) rfl rfl (by rw [hr2]<;>omega) rfl (by simp only [AY,hr2];rfl) Om Om (by rw [hr2]<;>omega)) rfl (Cg _ _) ?_;dsimp only[go_sem];refine A6 8 rfl ?_;refine Bk (S1:=⟨_,_,_⟩) H.1 trivial (HH (r.map SX.row) rfl rfl rfl rfl (by rw [hr2]<;>omega) (by rw [hln]<;>omega) (by rw [hr2]<;>omega) Om ?_) rfl (fun _ _ _ _ h _ _=>h) ?_
     ·rw [show (i+1).toNat=i.toNat+1 by omega,←hR];exact V6 (by rw [hln]<;>omega) (by rw [hln]<;>omega) (by rw [hln]<;>omega)
     dsimp only[go_sem];refine GD ?_;refine Ah 100 ?_;dsimp only[go_sem];refine An ?_;exact En ON
   ·exact absurd e (by simpa using (by omega:(Ed (M.σ 0):Int)<l.length+1))
 ·dsimp only[D6,List.cons_append,List.nil_append];have hcn:(Ctx.lent Tryz.prog w M [] [some ⟨66,8,l.map SX.row⟩,some ⟨66,8,[y]⟩,none] 0 3).nq=3:=rfl;have hp0:(Ctx.lent Tryz.prog w M [] [some ⟨66,8,l.map SX.row⟩,some ⟨66,8,[y]⟩,none] 0 3).ps 0 = .slice (some ⟨g,0,none⟩) l.length cap:=by rw [hln] at e1;exact e1
  have hp2:(Ctx.lent Tryz.prog w M [] [some ⟨66,8,l.map SX.row⟩,some ⟨66,8,[y]⟩,none] 0 3).ps 2 = .slice (some ⟨g,0,none⟩) (l.length+1) cap:=by rw [hln] at e2;exact e2
  have hc:l.length+1≤cap:=by rw [hln] at hc;exact hc
  refine Ah 100 ?_;dsimp only[go_sem];refine An ?_;refine AU trivial (Z9 (l:=i) rfl rfl rfl h0 (by rw [hln];exact h1)) rfl ?_;refine Ah 100 ?_;dsimp only[go_sem];refine An ?_;refine Ex rfl (fun e=>by simp at e) fun _=>?_;refine Ah 100 ?_;dsimp only[go_sem];refine An ?_;refine Ex rfl (fun e=>?_) fun _=>?_
  ·exfalso;have:i=l.length:=by simpa using e
   omega
  refine Ah 100 ?_;dsimp only[go_sem];refine An ?_;refine AU trivial (Z6 rfl rfl (by show 0<3;omega)) rfl ?_;rw [hp0];refine Ah 100 ?_;dsimp only [go_sem,Ed];refine An ?_;simp only [hln,hr1,hw1];refine Ex rfl (fun e=>?_) fun _=>?_
  ·exfalso;have:(cap:Int)<l.length+1:=by simpa using e
   omega
  refine Ah 100 ?_;dsimp only[go_sem];refine An ?_;simp only [hw1];refine AU trivial (nh (h:=(l.length:Int)+1) rfl (by show 0<3;omega) (by show 2<3;omega) hp0 hp2 hc rfl rfl rfl) rfl ?_;refine Ah 100 ?_;dsimp only[go_sem];refine An ?_;simp only [hw3];refine AU trivial (Ff (l:=i+1) (h:=(l.length:Int)+1) rfl (by show 2<3;omega) hp2 hc rfl rfl Om Om Om) rfl ?_;refine Ah 100 ?_;dsimp only[go_sem];refine An ?_;refine AU trivial (nc (ft:=Tryz.f202) (tS:=36) (tR:=4) (e:=66) (j:=0) (by kernel_rfl) (by kernel_rfl) (by kernel_rfl) (by kernel_rfl) (by kernel_rfl) (by kernel_rfl) (by kernel_rfl) rfl rfl rfl rfl Om (by show 0<1;omega) (by show 0<(l.map SX.row).length;rw [hln];omega) (by show 0<3;omega) (by show 2<3;omega) hp0 hp2) rfl ?_;refine Ah 100 ?_;dsimp only[go_sem];refine An ?_;have hrs:((l.map SX.row).take (i.toNat+1)++(l.map SX.row).drop i.toNat).length=l.length+1:=by rw [List.length_append,List.length_take,List.length_drop,hln];omega
  refine Ai fun all H=>?_;dsimp only[go_sem];refine GN H 6 3 ?_;dsimp only[go_sem];refine An ?_;simp only [hw3];refine Ag 4 7 rfl ?_ ?_
  ·refine Bk H.1 trivial (Ff (l:=i+1) (h:=(l.length:Int)+1) rfl (by show 2<3;omega) hp2 hc rfl rfl Om Om Om) rfl (Cg _ _) ?_;dsimp only[go_sem];refine A6 7 rfl ?_;refine Bk H.1 trivial (Ff (l:=i) (h:=(l.length:Int)+1) rfl (by show 2<3;omega) hp2 hc rfl rfl h0 Om Om) rfl (Cg _ _) ?_;dsimp only[go_sem];simp only [hw4,hw5,Nat.add_sub_add_right];refine A6 8 rfl ?_;refine Bk (S1:=⟨_,_,_⟩) H.1 trivial (Z8 (i:=i.toNat) rfl rfl rfl hln Om (by show 2<3;omega) (by show 0<3;omega) (by show 2<3;omega) hp0 hp2 hc) rfl (fun _ _ _ _ h _ _=>h) ?_;dsimp only[go_sem];refine GD ?_;refine Ah 100 ?_;dsimp only[go_sem];refine An ?_;refine AU trivial (Ff (l:=i) (h:=(l.length:Int)+1) rfl (by show 2<3;omega) hp2 hc rfl rfl h0 Om Om) rfl ?_;refine Ah 100 ?_;dsimp only[go_sem];refine An ?_;refine LO 81 1 rfl rfl (by show 0<1;omega) ?_;dsimp only[go_sem];refine AU trivial (HH (r.map SX.row) rfl rfl rfl rfl (by rw [hrs,hw5]<;>omega) (by show 0+1≤1;omega) (by rw [hrs]<;>omega) (by show 0<1;omega) (by rw [←hR];exact Zb (by rw [hln]<;>omega) Om rfl)) rfl ?_;refine Ah 100 ?_;dsimp only[go_sem];refine An ?_;exact En ON
  ·refine Bk H.1 trivial (Ff (l:=i) (h:=(l.length:Int)+1) rfl (by show 2<3;omega) hp2 hc rfl rfl h0 Om Om) rfl (Cg _ _) ?_;dsimp only[go_sem];refine A6 4 rfl ?_;refine Bk H.1 trivial (Ff (l:=i+1) (h:=(l.length:Int)+1) rfl (by show 2<3;omega) hp2 hc rfl rfl Om Om Om) rfl (Cg _ _) ?_;dsimp only[go_sem];simp only [hw4,hw5,Nat.add_sub_add_right];refine A6 8 rfl ?_;refine Bk (S1:=⟨_,_,_⟩) H.1 trivial (Z8 (i:=i.toNat) rfl rfl rfl hln Om (by show 2<3;omega) (by show 0<3;omega) (by show 2<3;omega) hp0 hp2 hc) rfl (fun _ _ _ _ h _ _=>h) ?_;dsimp only[go_sem];refine GD ?_;refine Ah 100 ?_;dsimp only[go_sem];refine An ?_;refine AU trivial (Ff (l:=i) (h:=(l.length:Int)+1) rfl (by show 2<3;omega) hp2 hc rfl rfl h0 Om Om) rfl ?_;refine Ah 100 ?_;dsimp only[go_sem];refine An ?_;refine LO 81 1 rfl rfl (by show 0<1;omega) ?_;dsimp only[go_sem];refine AU trivial (HH (r.map SX.row) rfl rfl rfl rfl (by rw [hrs,hw5]<;>omega) (by show 0+1≤1;omega) (by rw [hrs]<;>omega) (by show 0<1;omega) (by rw [←hR];exact Zb (by rw [hln]<;>omega) Om rfl)) rfl ?_;refine Ah 100 ?_;dsimp only[go_sem];refine An ?_;exact En ON
def On (l:List KE) (i:Int) (vs:List KE):Option (List KE):=PU 16 l i vs
theorem nZ {l i vs r} (h:On l i vs=some r):
  Cr Tryz.prog 206 [.osl 0,.iv i,.osl 1] [] [some ⟨169,2,l.map KE.row⟩,some ⟨169,2,List.map KE.row vs⟩] (.osl 2) [] [none,none,some ⟨169,2,r.map KE.row⟩]:=by
 obtain ⟨v,rfl,h⟩:=ie h;obtain ⟨hr,h0,h1,hb,h63⟩:=ii h;have hln:(l.map KE.row).length=l.length:=List.length_map _;have hw1:wr ((l.length:Int)+1)=(l.length:Int)+1:=IntWalk.i64_in _ ⟨Om,Om⟩;have hw2:wr ((l.length:Int)+1-i)=(l.length:Int)+1-i:=IntWalk.i64_in _ ⟨Om,Om⟩;have hw3:wr (i+1)=i+1:=IntWalk.i64_in _ ⟨Om,Om⟩;obtain ⟨y,hy⟩:∃y,y=v.row:=⟨_,rfl⟩
 have hv1: [v].map KE.row=[y]:=by rw [hy];rfl
 rw [hv1];have hr1:(([y]:List (List AV)).length:Int)=1:=rfl;have hR:(l.map KE.row).take i.toNat++y::(l.map KE.row).drop i.toNat=r.map KE.row:=by rw [hr,hy];simp [List.map_take,List.map_drop]
 have hw4:(i+1).toNat=i.toNat+1:=by omega
 have hw5:((l.length:Int)+1).toNat=l.length+1:=by omega
 refine eK (j:=0) OO rfl rfl rfl (by first | rfl | simp [go_sem]) rfl rfl (i<l.length) (fun h=>by rw [hln];omega) (fun w M hc=>?_) (fun w M g cap hq e1 hc e2=>?_)
 ·dsimp only[D6,List.cons_append,List.nil_append];refine Ah 100 ?_;dsimp only[go_sem];refine An ?_;refine AU trivial (Z9 (l:=i) rfl rfl rfl h0 (by rw [hln];exact h1)) rfl ?_;refine Ah 100 ?_;dsimp only[go_sem];refine An ?_;refine Ex rfl (fun e=>by simp at e) fun _=>?_;refine Ah 100 ?_;dsimp only[go_sem];refine An ?_;refine Ex rfl (fun e=>?_) fun hne=>?_
  ·have hi:i=l.length:=by simpa using e
   subst hi;refine Ah 100 ?_;dsimp only[go_sem];refine An ?_;rw [←hv1];refine BP KE.row (l':=l) (m':=[v]) (v:=r) ?_ trivial rfl rfl rfl ?_
   ·unfold AI;rw [if_pos ⟨by simpa using hb,by simpa using h63⟩,hr];simp
   refine Ah 100 ?_;dsimp only[go_sem];refine An ?_;exact En OO
  ·have hi:i<l.length:=by
    have:¬i=l.length:=by simpa using hne
    omega
   have hc:=hc hi;have hcl:Ed (M.σ 0)<l.length+1:=by simpa [hln] using hc
   refine Ah 100 ?_;dsimp only[go_sem];refine An ?_;refine AU trivial (Z6 rfl rfl (by show 0<2;omega)) rfl ?_;refine Ah 100 ?_;dsimp only[go_sem];refine An ?_;rw [show (Ctx.lent Tryz.prog w M [] [some ⟨169,2,l.map KE.row⟩,some ⟨169,2,[y]⟩] 0 2).ps 0=M.σ 0 from rfl];simp only [hln,hr1,hw1];refine Ex rfl (fun _=>?_) fun e=>?_
   ·refine Ah 100 ?_;dsimp only[go_sem];refine An ?_;refine AU trivial (E9 (l:=0) (h:=i) rfl rfl (by rw [hln]<;>omega) rfl rfl Om h0 (by rw [hln];exact h1)) rfl ?_;refine Ah 100 ?_;dsimp only[go_sem];refine An ?_;simp only [hw1,hw2];have hik:i=(i.toNat:Int):=by omega
    refine AU trivial (mX (i:=i.toNat) (m:=(l.length:Int)+1-i) rfl rfl (by rw [hln]<;>omega) (by show 0<2;omega) rfl Om ?_ rfl ?_ Om rfl) rfl ?_
    ·show (Ed (M.σ 0):Int)<_;omega
    ·have:(i.toNat:Int)+((l.length:Int)+1-i)=((l.length+1:Nat):Int):=by omega
     rw [this];omega
    refine Ah 100 ?_;dsimp only[go_sem];refine An ?_;have hrl:((l.map KE.row).take i.toNat++List.replicate ((l.length:Int)+1-i).toNat [AV.iv 0,AV.iv 0]).length=l.length+1:=by rw [List.length_append,List.length_take,List.length_replicate,hln];omega
    refine AU trivial (E9 (l:=i) (h:=(l.length:Int)+1) rfl rfl (by rw [hrl]<;>omega) rfl (by simp only [AY,hrl];rfl) h0 Om (by rw [hrl]<;>omega)) rfl ?_;refine Ah 100 ?_;dsimp only[go_sem];refine An ?_;refine LO 44 1 rfl rfl (by show 0<1;omega) ?_;dsimp only[go_sem];refine AU trivial (HH ((l.map KE.row).take i.toNat++y::List.replicate ((l.map KE.row).length-i.toNat) [AV.iv 0,AV.iv 0]) rfl rfl rfl rfl (by rw [hrl]<;>omega) (by show 0+1≤1;omega) (by rw [hrl]<;>omega) (by show 0<1;omega) (gX (by rw [hln]<;>omega) (by rw [hln]<;>omega) Om rfl)) rfl ?_;refine Ah 100 ?_;dsimp only[go_sem];refine An ?_;refine Ai fun all H=>?_;dsimp only[go_sem];refine GN H 6 3 ?_;dsimp only[go_sem];refine An ?_;simp only [hw3];have hr2:((l.map KE.row).take i.toNat++y::List.replicate ((l.map KE.row).length-i.toNat) [AV.iv 0,AV.iv 0]).length=l.length+1:=by rw [List.length_append,List.length_take,List.length_cons,List.length_replicate,hln];omega
    refine Ag 4 7 rfl ?_ ?_
    ·refine Bk H.1 trivial (E9 (l:=i+1) (h:=(l.length:Int)+1) rfl rfl (by rw [hr2]<;>omega) rfl (by simp only [AY,hr2];rfl) Om Om (by rw [hr2]<;>omega)) rfl (Cg _ _) ?_;dsimp only[go_sem];refine A6 7 rfl ?_;refine Bk H.1 trivial (E9 (l:=i) (h:=(l.length:Int)) rfl rfl (by rw [hln]<;>omega) rfl (by simp only [AY,hln]) h0 Om (by rw [hln];exact Int.le_refl _)) rfl (Cg _ _) ?_;dsimp only[go_sem];refine A6 8 rfl ?_;refine Bk (S1:=⟨_,_,_⟩) H.1 trivial (HH (r.map KE.row) rfl rfl rfl rfl (by rw [hr2]<;>omega) (by rw [hln]<;>omega) (by rw [hr2]<;>omega) Om ?_) rfl (fun _ _ _ _ h _ _=>h) ?_
     ·rw [show (i+1).toNat=i.toNat+1 by omega,←hR];exact V6 (by rw [hln]<;>omega) (by rw [hln]<;>omega) (by rw [hln]<;>omega)
     dsimp only[go_sem];refine GD ?_;refine Ah 100 ?_;dsimp only[go_sem];refine An ?_;exact En OO
    ·refine Bk H.1 trivial (E9 (l:=i) (h:=(l.length:Int)) rfl rfl (by rw [hln]<;>omega) rfl (by simp only [AY,hln]) h0 Om (by rw [hln];exact Int.le_refl _)) rfl (Cg _ _) ?_;dsimp only[go_sem];refine A6 4 rfl ?_;refine Bk H.1 trivial (E9 (l:=i+1) (h:=(l.length:Int)+1) rfl rfl (by rw [hr2]<;>omega) rfl (by simp only [AY,hr2];rfl) Om Om (by rw [hr2]<;>omega)) rfl (Cg _ _) ?_;dsimp only[go_sem];refine A6 8 rfl ?_;refine Bk (S1:=⟨_,_,_⟩) H.1 trivial (HH (r.map KE.row) rfl rfl rfl rfl (by rw [hr2]<;>omega) (by rw [hln]<;>omega) (by rw [hr2]<;>omega) Om ?_) rfl (fun _ _ _ _ h _ _=>h) ?_
     ·rw [show (i+1).toNat=i.toNat+1 by omega,←hR];exact V6 (by rw [hln]<;>omega) (by rw [hln]<;>omega) (by rw [hln]<;>omega)
     dsimp only[go_sem];refine GD ?_;refine Ah 100 ?_;dsimp only[go_sem];refine An ?_;exact En OO
   ·exact absurd e (by simpa using (by omega:(Ed (M.σ 0):Int)<l.length+1))
 ·dsimp only[D6,List.cons_append,List.nil_append];have hcn:(Ctx.lent Tryz.prog w M [] [some ⟨169,2,l.map KE.row⟩,some ⟨169,2,[y]⟩,none] 0 3).nq=3:=rfl;have hp0:(Ctx.lent Tryz.prog w M [] [some ⟨169,2,l.map KE.row⟩,some ⟨169,2,[y]⟩,none] 0 3).ps 0 = .slice (some ⟨g,0,none⟩) l.length cap:=by rw [hln] at e1;exact e1
  have hp2:(Ctx.lent Tryz.prog w M [] [some ⟨169,2,l.map KE.row⟩,some ⟨169,2,[y]⟩,none] 0 3).ps 2 = .slice (some ⟨g,0,none⟩) (l.length+1) cap:=by rw [hln] at e2;exact e2
  have hc:l.length+1≤cap:=by rw [hln] at hc;exact hc
  refine Ah 100 ?_;dsimp only[go_sem];refine An ?_;refine AU trivial (Z9 (l:=i) rfl rfl rfl h0 (by rw [hln];exact h1)) rfl ?_;refine Ah 100 ?_;dsimp only[go_sem];refine An ?_;refine Ex rfl (fun e=>by simp at e) fun _=>?_;refine Ah 100 ?_;dsimp only[go_sem];refine An ?_;refine Ex rfl (fun e=>?_) fun _=>?_
  ·exfalso;have:i=l.length:=by simpa using e
   omega
  refine Ah 100 ?_;dsimp only[go_sem];refine An ?_;refine AU trivial (Z6 rfl rfl (by show 0<3;omega)) rfl ?_;rw [hp0];refine Ah 100 ?_;dsimp only [go_sem,Ed];refine An ?_;simp only [hln,hr1,hw1];refine Ex rfl (fun e=>?_) fun _=>?_
  ·exfalso;have:(cap:Int)<l.length+1:=by simpa using e
   omega
  refine Ah 100 ?_;dsimp only[go_sem];refine An ?_;simp only [hw1];refine AU trivial (nh (h:=(l.length:Int)+1) rfl (by show 0<3;omega) (by show 2<3;omega) hp0 hp2 hc rfl rfl rfl) rfl ?_;refine Ah 100 ?_;dsimp only[go_sem];refine An ?_;simp only [hw3];refine AU trivial (Ff (l:=i+1) (h:=(l.length:Int)+1) rfl (by show 2<3;omega) hp2 hc rfl rfl Om Om Om) rfl ?_;refine Ah 100 ?_;dsimp only[go_sem];refine An ?_;refine AU trivial (nc (ft:=Tryz.f238) (tS:=46) (tR:=4) (e:=169) (j:=0) (by kernel_rfl) (by kernel_rfl) (by kernel_rfl) (by kernel_rfl) (by kernel_rfl) (by kernel_rfl) (by kernel_rfl) rfl rfl rfl rfl Om (by show 0<1;omega) (by show 0<(l.map KE.row).length;rw [hln];omega) (by show 0<3;omega) (by show 2<3;omega) hp0 hp2) rfl ?_;refine Ah 100 ?_;dsimp only[go_sem];refine An ?_;have hrs:((l.map KE.row).take (i.toNat+1)++(l.map KE.row).drop i.toNat).length=l.length+1:=by rw [List.length_append,List.length_take,List.length_drop,hln];omega
  refine Ai fun all H=>?_;dsimp only[go_sem];refine GN H 6 3 ?_;dsimp only[go_sem];refine An ?_;simp only [hw3];refine Ag 4 7 rfl ?_ ?_
  ·refine Bk H.1 trivial (Ff (l:=i+1) (h:=(l.length:Int)+1) rfl (by show 2<3;omega) hp2 hc rfl rfl Om Om Om) rfl (Cg _ _) ?_;dsimp only[go_sem];refine A6 7 rfl ?_;refine Bk H.1 trivial (Ff (l:=i) (h:=(l.length:Int)+1) rfl (by show 2<3;omega) hp2 hc rfl rfl h0 Om Om) rfl (Cg _ _) ?_;dsimp only[go_sem];simp only [hw4,hw5,Nat.add_sub_add_right];refine A6 8 rfl ?_;refine Bk (S1:=⟨_,_,_⟩) H.1 trivial (Z8 (i:=i.toNat) rfl rfl rfl hln Om (by show 2<3;omega) (by show 0<3;omega) (by show 2<3;omega) hp0 hp2 hc) rfl (fun _ _ _ _ h _ _=>h) ?_;dsimp only[go_sem];refine GD ?_;refine Ah 100 ?_;dsimp only[go_sem];refine An ?_;refine AU trivial (Ff (l:=i) (h:=(l.length:Int)+1) rfl (by show 2<3;omega) hp2 hc rfl rfl h0 Om Om) rfl ?_;refine Ah 100 ?_;dsimp only[go_sem];refine An ?_;refine LO 81 1 rfl rfl (by show 0<1;omega) ?_;dsimp only[go_sem];refine AU trivial (HH (r.map KE.row) rfl rfl rfl rfl (by rw [hrs,hw5]<;>omega) (by show 0+1≤1;omega) (by rw [hrs]<;>omega) (by show 0<1;omega) (by rw [←hR];exact Zb (by rw [hln]<;>omega) Om rfl)) rfl ?_;refine Ah 100 ?_;dsimp only[go_sem];refine An ?_;exact En OO
  ·refine Bk H.1 trivial (Ff (l:=i) (h:=(l.length:Int)+1) rfl (by show 2<3;omega) hp2 hc rfl rfl h0 Om Om) rfl (Cg _ _) ?_;dsimp only[go_sem];refine A6 4 rfl ?_;refine Bk H.1 trivial (Ff (l:=i+1) (h:=(l.length:Int)+1) rfl (by show 2<3;omega) hp2 hc rfl rfl Om Om Om) rfl (Cg _ _) ?_;dsimp only[go_sem];simp only [hw4,hw5,Nat.add_sub_add_right];refine A6 8 rfl ?_;refine Bk (S1:=⟨_,_,_⟩) H.1 trivial (Z8 (i:=i.toNat) rfl rfl rfl hln Om (by show 2<3;omega) (by show 0<3;omega) (by show 2<3;omega) hp0 hp2 hc) rfl (fun _ _ _ _ h _ _=>h) ?_;dsimp only[go_sem];refine GD ?_;refine Ah 100 ?_;dsimp only[go_sem];refine An ?_;refine AU trivial (Ff (l:=i) (h:=(l.length:Int)+1) rfl (by show 2<3;omega) hp2 hc rfl rfl h0 Om Om) rfl ?_;refine Ah 100 ?_;dsimp only[go_sem];refine An ?_;refine LO 81 1 rfl rfl (by show 0<1;omega) ?_;dsimp only[go_sem];refine AU trivial (HH (r.map KE.row) rfl rfl rfl rfl (by rw [hrs,hw5]<;>omega) (by show 0+1≤1;omega) (by rw [hrs]<;>omega) (by show 0<1;omega) (by rw [←hR];exact Zb (by rw [hln]<;>omega) Om rfl)) rfl ?_;refine Ah 100 ?_;dsimp only[go_sem];refine An ?_;exact En OO
def SL (x5:Bool):List Int→Option (Bool×List Int)
| x7=>some (x5,x7)
def SK (x1:SE) (x3:List Int):Bool→Option (Bool×List Int)
| x5=>
 A0 x5 (
 (AI 8 x3 ([x1.ID])).bind fun x6=>
 (SL x5) x6) (
 (SL x5) x3)
def NW (x1:SE) (x2:Int) (x3:List Int):Option (Bool×List Int):=
 A0 (decide (x1.SS=0)) (
 (G6 x1.NE x2).bind fun x4=>
 (SK x1 x3) x4) (
 (SK x1 x3) false)
theorem nX {x1 x2 x3 r} (h:NW x1 x2 x3=some r):FTx 208 [.agg (SE.row x1),.ptr 0 0,.ptr 1 0] [some ⟨3,[.iv x2]⟩,some ⟨40,[.osl 0]⟩] [A5 x3] (.bv r.1) [some ⟨3,[.iv x2]⟩,some ⟨40,[.osl 2]⟩] [none,none,A5 r.2]:=by
 refine Ft ku fun w0 M0=>?_;have ok:=ku;rw [NW] at h;refine Vg 11 ?_;refine Vk [2,2] (fun x5=>[(5,.bv x5)]) (SK x1 x3) r ?_ fun J1=>?_
 ·intro x5 h;rw [SK] at h;refine Vg 5 ?_;refine Vl [5,1] (fun x7=>([],[some ⟨3,[.iv x2]⟩,some ⟨40,[.osl 2]⟩],[none,none,A5 x7])) (SL x5) r ?_ fun J2=>?_
  ·intro x7 h;rw [SL] at h;exact W
  ·refine MI h (fun h=>?_) fun h=>?_
   ·refine Vg 5 ?_;have ⟨x6,ex6,h⟩:=Bs h;refine BP Ad ex6 trivial rfl rfl rfl ?_;exact W
   ·refine Vg 1 ?_;refine As 3 1 (Ds ?_);refine As 3 1 (Ds ?_);refine A7 0 2 ?_;exact W
 ·refine MC 9 h (fun h=>?_) fun h=>W;refine Vg 3 ?_;refine VB h Gq fun _ _ h=>?_;exact W
def VP (x61:List SX) (x62:List ML):Int→Option (Int×List SX×List ML)
| x64=>some (x64,x61,x62)
def VS (x3:Int) (x61:List SX) (x62:List ML):Bool→Option (Int×List SX×List ML)
| x63=>
 A0 x63 (
 (VP x61 x62) 2) (
 (VP x61 x62) x3)
def VO (x3:Int):(Bool×List SX×List ML)→Option (Int×List SX×List ML)
| (x60,x61,x62)=>
 A0 (decide (x3=1)) (
 (VS x3 x61 x62) x60) (
 (VS x3 x61 x62) false)
def KG (x28:Int) (x43:List SX) (x44:List ML):Bool→Option ((Bool×Int×List SX×List ML) ⊕ (Int×List SX×List ML))
| x46=>some (.inl (x46,wr (x28+1),x43,x44))
def N8 (x27:Bool) (x28:Int) (x33:Bool):(List SX×List ML)→Option ((Bool×Int×List SX×List ML) ⊕ (Int×List SX×List ML))
| (x43,x44)=>
 A0 x27 (
 A0 (!x33) (
 (KG x28 x43 x44) true) (
 (A4 x43 x28).bind fun x45=>
 (KG x28 x43 x44) x45.BO)) (
 (KG x28 x43 x44) false)
def Ig (x1 x2 x3:Int) (x5:List Int) (x27:Bool) (x28:Int) (x33:Bool) (x37:List SX) (x38:List ML):Bool→Option ((Bool×Int×List SX×List ML) ⊕ (Int×List SX×List ML))
| x40=>
 A0 x40 (
 (A4 x37 x28).bind fun x41=>
 (Na (SX.mk x41.PE x41.EP x41.SS x41.FK x41.DY x41.TO x41.BO false) 4 x1 x2 x3 (x37.set (Int.toNat (x28)) (SX.mk x41.PE x41.EP x41.SS x41.FK x41.DY x41.TO x41.BO false)) x5 x38).bind fun x42=>
 (N8 x27 x28 x33) ((x37.set (Int.toNat (x28)) (SX.mk x41.PE x41.EP x41.SS x41.FK x41.DY x41.TO x41.BO false)),x42)) (
 (N8 x27 x28 x33) (x37,x38))
def Ju (x1 x2 x3:Int) (x5:List Int) (x27:Bool) (x28:Int) (x33:Bool):(List SX×List ML)→Option ((Bool×Int×List SX×List ML) ⊕ (Int×List SX×List ML))
| (x37,x38)=>
 A0 (decide (x3=1)) (
 A0 x33 (
 (A4 x37 x28).bind fun x39=>
 A0 x39.Ask (
 (Ig x1 x2 x3 x5 x27 x28 x33 x37 x38) (!x39.BO)) (
 (Ig x1 x2 x3 x5 x27 x28 x33 x37 x38) false)) (
 (Ig x1 x2 x3 x5 x27 x28 x33 x37 x38) false)) (
 (Ig x1 x2 x3 x5 x27 x28 x33 x37 x38) false)
def Hn (x1 x2 x3:Int) (x5:List Int) (x27:Bool) (x28:Int) (x29:List SX) (x30:List ML) (x31:SX) (x33:Bool):Bool→Option ((Bool×Int×List SX×List ML) ⊕ (Int×List SX×List ML))
| x35=>
 A0 x35 (
 (Na (SX.mk x31.PE x31.EP x31.SS x31.FK x31.DY x31.TO false x31.Ask) 3 x1 x2 x3 (x29.set (Int.toNat (x28)) (SX.mk x31.PE x31.EP x31.SS x31.FK x31.DY x31.TO false x31.Ask)) x5 x30).bind fun x36=>
 (Ju x1 x2 x3 x5 x27 x28 x33) ((x29.set (Int.toNat (x28)) (SX.mk x31.PE x31.EP x31.SS x31.FK x31.DY x31.TO false x31.Ask)),x36)) (
 (Ju x1 x2 x3 x5 x27 x28 x33) (x29,x30))
def Jt (x1 x2 x3:Int) (x5:List Int) (x27:Bool) (x28:Int) (x29:List SX) (x30:List ML) (x31:SX) (x33:Bool):Bool→Option ((Bool×Int×List SX×List ML) ⊕ (Int×List SX×List ML))
| x34=>
 A0 x31.BO (
 A0 x31.Ask (
 (Hn x1 x2 x3 x5 x27 x28 x29 x30 x31 x33) (!x34)) (
 (Hn x1 x2 x3 x5 x27 x28 x29 x30 x31 x33) false)) (
 (Hn x1 x2 x3 x5 x27 x28 x29 x30 x31 x33) false)
def VQ (x1 x2 x3:Int) (x5:List Int) (x27:Bool) (x28:Int) (x29:List SX) (x30:List ML) (x31:SX):Bool→Option ((Bool×Int×List SX×List ML) ⊕ (Int×List SX×List ML))
| x33=>
 A0 x33 (
 A0 (decide (x3=2)) (
 (Jt x1 x2 x3 x5 x27 x28 x29 x30 x31 x33) true) (
 A0 (decide (x3=1)) (
 (Jt x1 x2 x3 x5 x27 x28 x29 x30 x31 x33) x31.FK) (
 (Jt x1 x2 x3 x5 x27 x28 x29 x30 x31 x33) false))) (
 (Jt x1 x2 x3 x5 x27 x28 x29 x30 x31 x33) false)
def KH (x1 x2 x3:Int) (x4:List SX) (x5:List Int):(Bool×Int×List SX×List ML)→Option ((Bool×Int×List SX×List ML) ⊕ (Int×List SX×List ML))
| (x27,x28,x29,x30)=>
 A0 (decide (x28<(ln SX.row x4))) (
 (A4 x29 x28).bind fun x31=>
 (G6 x5 x31.PE).bind fun x32=>
 (VQ x1 x2 x3 x5 x27 x28 x29 x30 x31) x32) (
 Option.map Sum.inr ((VO x3) (x27,x29,x30)))
def QU (x1 x2 x3:Int) (x4:List SX) (x5:List Int) (x6:List ML):Option (Int×List SX×List ML):=loop (KH x1 x2 x3 x4 x5) (true,0,x4,x6)
theorem Z1l {x1 x2 x3 x4 x5 x6 r} (h:QU x1 x2 x3 x4 x5 x6=some r):FTx 267 [.ptr 0 0] [some ⟨299,[.iv x1,.iv x2,.osl 0,.iv x3,.osl 1,.osl 2]⟩] [Ac x4,A5 x5,Az x6] (.tup []) [some ⟨299,[.iv x1,.iv x2,.osl 0,.iv r.1,.osl 1,.osl 4]⟩] [Ac r.2.1,A5 x5,none,none,Az r.2.2]:=by
 refine Ft kI fun w0 M0=>?_;have ok:=kI;rw [QU] at h;refine Vg 16 ?_;refine Vl [0,1] (fun s=>([(2,.bv s.1)],[some ⟨299,[.iv x1,.iv x2,.osl 0,.iv x3,.osl 1,.osl 4]⟩],[Ac s.2.1,A5 x5,none,none,Az s.2.2])) (VO x3) r ?_ fun J1=>?_
 ·rintro ⟨x60,x61,x62⟩ h;rw [VO] at h;refine Vg 9 ?_;refine Vk [0,1] (fun x63=>[(130,.bv x63)]) (VS x3 x61 x62) r ?_ fun J9=>?_
  ·intro x63 h;rw [VS] at h;refine Vm [] (fun x64=>([],[(0,3,.iv x64)],[],[])) (VP x61 x62) r ?_ fun J10=>?_
   ·intro x64 h;rw [VP] at h;exact W
   ·refine MI h (fun h=>?_) fun h=>?_
    ·refine Vg 7 ?_;exact AQ J10 h
    ·refine Vg 1 ?_;exact AQ J10 h
  ·exact W
 ·refine Vg 1 ?_;refine As 113 5 (Ds ?_);refine As 113 5 (Ds ?_);refine A7 2 4 (Ds ?_);refine Mm h [0,1,12,1] (fun s=>([(2,.bv s.1),(14,.iv s.2.1)],[],[],[(0,Ac s.2.2.1),(3,none),(4,Az s.2.2.2)])) ?_;rintro n1 ⟨x27,x28,x29,x30⟩ y1 h hin1 hout1;rw [KH] at h;refine Vg 5 ?_;refine MI h (fun h=>?_) fun h=>W;refine Vg 17 ?_;have ⟨x31,ex31,h⟩:=Bs h;refine BR SX.row ex31 trivial rfl rfl rfl (Vg 3 ?_);refine Vk [0,1,1,1,1,1,8,2] (fun x33=>[(5,.bv x33)]) (VQ x1 x2 x3 x5 x27 x28 x29 x30 x31) y1 ?_ fun J2=>?_
  ·intro x33 h;rw [VQ] at h;refine Vg 4 ?_;refine Vk [0,1,1,1,1,2,7,2] (fun x34=>[(6,.bv x34)]) (Jt x1 x2 x3 x5 x27 x28 x29 x30 x31 x33) y1 ?_ fun J3=>?_
   ·intro x34 h;rw [Jt] at h;refine Vg 6 ?_;refine CA SX.row ex31 trivial rfl rfl rfl (Vg 1 ?_);refine Vk [0,1,1,1,1,2,7,2] (fun x35=>[(71,.bv x35)]) (Hn x1 x2 x3 x5 x27 x28 x29 x30 x31 x33) y1 ?_ fun J4=>?_
    ·intro x35 h;rw [Hn] at h;refine Vm [0,1,1,1,1,2,7,2] (fun s=>([],[],[],[(0,Ac s.1),(4,Az s.2)])) (Ju x1 x2 x3 x5 x27 x28 x33) y1 ?_ fun J5=>?_
     ·rintro ⟨x37,x38⟩ h;rw [Ju] at h;refine Vg 10 ?_;refine Vk [0,1,1,1,1,2,7,2] (fun x40=>[(101,.bv x40)]) (Ig x1 x2 x3 x5 x27 x28 x33 x37 x38) y1 ?_ fun J6=>?_
      ·intro x40 h;rw [Ig] at h;refine Vm [0,1,1,1,1,2,7,2] (fun s=>([],[],[],[(0,Ac s.1),(4,Az s.2)])) (N8 x27 x28 x33) y1 ?_ fun J7=>?_
       ·rintro ⟨x43,x44⟩ h;rw [N8] at h;refine Vg 3 ?_;refine Vk [0,1,12,2] (fun x46=>[(2,.bv x46)]) (KG x28 x43 x44) y1 ?_ fun J8=>?_
        ·intro x46 h;rw [KG] at h;exact W
        ·refine MC 111 h (fun h=>?_) fun h=>W;refine Vg 3 ?_;refine MC 114 h (fun h=>W) fun h=>?_;refine Vg 3 ?_;have ⟨x45,ex45,h⟩:=Bs h;refine CA SX.row ex45 trivial rfl rfl rfl ?_;exact W
       ·refine MI h (fun h=>?_) fun h=>W;refine Vg 5 ?_;have ⟨x41,ex41,h⟩:=Bs h;refine Dz [.bv false] SX.row (y':=(SX.mk x41.PE x41.EP x41.SS x41.FK x41.DY x41.TO x41.BO false)) ex41 trivial rfl rfl rfl (by first | exact Am _ | simp [go_sem]) rfl rfl rfl rfl (Vg 5 ?_);refine Fm SX.row (FW ex41) trivial rfl rfl rfl (VR [0] [0,1,4] 1 5 h nQ fun _ _ h=>?_);refine Vg 1 ?_;refine A7 6 4 ?_;exact W
      ·refine MC 86 h (fun h=>?_) fun h=>W;refine Vg 3 ?_;refine MC 89 h (fun h=>?_) fun h=>W;refine Vg 3 ?_;have ⟨x39,ex39,h⟩:=Bs h;refine CA SX.row ex39 trivial rfl rfl rfl (Vg 2 ?_);refine MC 95 h (fun h=>?_) fun h=>W;refine Vg 3 ?_;refine CA SX.row ex39 trivial rfl rfl rfl ?_;exact W
     ·refine MI h (fun h=>?_) fun h=>W;refine Vg 5 ?_;refine Dz [.bv false] SX.row (y':=(SX.mk x31.PE x31.EP x31.SS x31.FK x31.DY x31.TO false x31.Ask)) ex31 trivial rfl rfl rfl (by first | exact Am _ | simp [go_sem]) rfl rfl rfl rfl (Vg 5 ?_);refine Fm SX.row (FW ex31) trivial rfl rfl rfl (VR [0] [0,1,4] 1 5 h nQ fun _ _ h=>?_);refine Vg 1 ?_;refine A7 6 4 ?_;exact W
    ·refine MC 62 h (fun h=>?_) fun h=>W;refine Vg 3 ?_;refine CA SX.row ex31 trivial rfl rfl rfl ?_;exact W
   ·refine MC 36 h (fun h=>?_) fun h=>W;refine Vg 7 ?_;refine MC 43 h (fun h=>W) fun h=>?_;refine Vg 7 ?_;refine MC 50 h (fun h=>?_) fun h=>W;refine Vg 3 ?_;refine CA SX.row ex31 trivial rfl rfl rfl ?_;exact W
  ·refine Ai fun all H=>Ds (GP H 7 4 [4,1,3,3] [(25,[.ptr 0 0,.ptr 0 0,.ptr 0 0,.ptr 0 4]),(1,[.oel 0 (Int.toNat (x28)*8) 0,.oel 0 (Int.toNat (x28)*8) 0,.oel 0 (Int.toNat (x28)*8) 0])] (Ds ?_));refine Ag 4 8 rfl ?_ ?_
   ·refine RV ?_;refine RO ?_;refine RL ?_;refine RQ (LR.slice 1 rfl) h Gq fun x32 ex32 h=>?_;refine Gn H 1 0 ?_;refine GD ?_;exact W
   ·refine RL ?_;refine R1 ?_;refine RQ (LR.slice 1 rfl) h Gq fun _ _ h=>?_;refine Gn H 1 0 ?_;refine GD ?_;exact W
def WS:(List SX×List ML)→Option ((List SX×List ML) ⊕ (List ML×List SX))
| (x100,x101)=>Option.map Sum.inr (some (x101,x100))
def Nx (x71:Int):(List SX×List ML)→Option ((Int×List SX×List ML) ⊕ ((List SX×List ML) ⊕ (List ML×List SX)))
| (x80,x81)=>some (.inl (wr (x71+1),x80,x81))
def JP (x1 x2:Int) (x3 x4:Int) (x5:List SE) (x6:List Int) (x7:Int) (x9:List Int) (x10 x11:List KE) (x13:List EV) (x71:Int) (x72:List SX) (x73:List ML) (x74:SX):Bool→Option ((Int×List SX×List ML) ⊕ ((List SX×List ML) ⊕ (List ML×List SX)))
| x76=>
 A0 x76 (
 (Nx x71) (x72,x73)) (
 A0 (decide (x1<x74.PE)) (
 (JQ x74 7 x1 x2 x3 x4 x5 x6 x7 (x72.set (Int.toNat (x71)) (SX.mk x74.PE x74.EP 3 x74.FK x74.DY x74.TO x74.BO x74.Ask)) x9 x10 x11 x73 x13).bind fun x77=>
 (Nx x71) ((x72.set (Int.toNat (x71)) (SX.mk x74.PE x74.EP 3 x74.FK x74.DY x74.TO x74.BO x74.Ask)),x77)) (
 (S2 x74.PE x1 x2 x3 x4 x5 x6 x7 x72 x9 x10 x11 x73 x13).bind fun x78=>
 (JQ x74 8 x1 x2 x3 x4 x5 x6 x7 x78 x9 x10 x11 x73 x13).bind fun x79=>
 Option.map Sum.inr (some (.inl (x78,x79)))))
def Hs (x1 x2:Int) (x3 x4:Int) (x5:List SE) (x6:List Int) (x7:Int) (x9:List Int) (x10 x11:List KE) (x13:List EV) (x58:List SX):(Int×List SX×List ML)→Option ((Int×List SX×List ML) ⊕ ((List SX×List ML) ⊕ (List ML×List SX)))
| (x71,x72,x73)=>
 A0 (decide (x71<(ln SX.row x58))) (
 (A4 x72 x71).bind fun x74=>
 A0 (!decide (x74.SS=2)) (
 (JP x1 x2 x3 x4 x5 x6 x7 x9 x10 x11 x13 x71 x72 x73 x74) true) (
 A0 (decide (x3=2)) (
 (G6 x9 x74.PE).bind fun x75=>
 (JP x1 x2 x3 x4 x5 x6 x7 x9 x10 x11 x13 x71 x72 x73 x74) x75) (
 (JP x1 x2 x3 x4 x5 x6 x7 x9 x10 x11 x13 x71 x72 x73 x74) false))) (
 Option.map Sum.inr (WS (x72,x73)))
def S8 (x1 x2:Int) (x3 x4:Int) (x5:List SE) (x6:List Int) (x7:Int) (x9:List Int) (x10 x11:List KE) (x13:List EV):(List SX×List ML)→Option ((List SX×List ML) ⊕ (List ML×List SX))
| (x58,x59)=>loop (Hs x1 x2 x3 x4 x5 x6 x7 x9 x10 x11 x13 x58) (0,x58,x59)
def WR (x1 x2:Int) (x3 x4:Int) (x5:List SE) (x6:List Int) (x7:Int) (x8:List SX) (x9:List Int) (x10 x11:List KE) (x12:List ML) (x13:List EV):Option (List ML×List SX):=loop (S8 x1 x2 x3 x4 x5 x6 x7 x9 x10 x11 x13) (x8,x12)
theorem Z1x {x1 x2 x3 x4 x5 x6 x7 x8 x9 x10 x11 x12 x13 r} (h:WR x1 x2 x3 x4 x5 x6 x7 x8 x9 x10 x11 x12 x13=some r):FTx 215 [.ptr 0 0] [some ⟨173,[.iv x1,.iv x2,.osl 0,.iv x3,.osl 1,.iv x4,Av x5,.osl 2,Ab x6,.osl 3,.osl 4,.osl 5,.iv x7]⟩] [Ac x8,A5 x9,A9 x10,A9 x11,Az x12,Be x13] (.tup []) [some ⟨173,[.iv x1,.iv x2,.osl 8,.iv x3,.osl 1,.iv x4,Av x5,.osl 2,Ab x6,.osl 3,.osl 7,.osl 5,.iv x7]⟩] [none,A5 x9,A9 x10,A9 x11,none,Be x13,none,Az r.1,Ac r.2]:=by
 refine Ft kA fun w0 M0=>?_;have ok:=kA;rw [WR] at h;refine Vg 3 ?_;refine As 113 5 (Ds ?_);refine As 113 5 (Ds ?_);refine As 113 5 (Ds ?_);refine As 113 5 (Ds ?_);refine As 113 5 (Ds ?_);refine A7 4 10 (A7 0 8 (Ds ?_));refine eW h (fun ((x58,x59):(List SX×List ML))=>⟨(.ptr 0 0::an 70 []),[some ⟨173,[.iv x1,.iv x2,.osl 8,.iv x3,.osl 1,.iv x4,Av x5,.osl 2,Ab x6,.osl 3,.osl 10,.osl 5,.iv x7]⟩],[none,A5 x9,A9 x10,A9 x11,none,Be x13,none,none,Ac x58,none,Az x59]⟩) (by simp [go_sem]) (by rintro ⟨x58,x59⟩;first | rfl | simp [go_sem]) (by rintro ⟨x58,x59⟩;rfl) (by rintro ⟨x58,x59⟩;rfl) ?_;rintro ⟨x58,x59⟩ y1 h hin1 hout1;rw [S8] at h;refine Vg 12 ?_;refine Vm [] (fun s=>([],[],[],[(8,Ac s.1),(10,Az s.2)])) WS y1 ?_ fun J1=>?_
 ·rintro ⟨x100,x101⟩ h;rw [WS] at h;refine Vg 1 ?_;refine A7 10 7 ?_;exact W
 ·refine Vg 1 ?_;refine Mm h [0,1,9,2] (fun s=>([(12,.iv s.1)],[],[],[(8,Ac s.2.1),(10,Az s.2.2)])) ?_;rintro n2 ⟨x71,x72,x73⟩ y2 h hin2 hout2;rw [Hs] at h;refine Vg 5 ?_;refine MI h (fun h=>?_) fun h=>W;refine Vg 2 ?_;refine Vm [0,1,9,3] (fun s=>([],[],[],[(8,Ac s.1),(10,Az s.2)])) (Nx x71) y2 ?_ fun J2=>?_
  ·rintro ⟨x80,x81⟩ h;rw [Nx] at h;exact W
  ·refine Vg 4 ?_;have ⟨x74,ex74,h⟩:=Bs h;refine BR SX.row ex74 trivial rfl rfl rfl (Fm SX.row ex74 trivial rfl rfl rfl (Vg 6 ?_));refine Vk [0,1,1,2,6,3] (fun x76=>[(39,.bv x76)]) (JP x1 x2 x3 x4 x5 x6 x7 x9 x10 x11 x13 x71 x72 x73 x74) y2 ?_ fun J3=>?_
   ·intro x76 h;rw [JP] at h;refine MI h (fun h=>W) fun h=>?_;refine Vg 3 ?_;refine Ai fun all H=>Ds (GP H 10 0 [10] [(40,[.ptr 1 0,.iv x74.PE,.ptr 0 0,.ptr 0 0,.ptr 0 0,.ptr 0 0,.ptr 0 0,.ptr 0 0,.iv x1,.bv (decide (x1<x74.PE))])] (Ds ?_));refine GD (MI h (fun h=>?_) fun h=>?_)
    ·refine Vg 10 ?_;refine BR SX.row ex74 trivial rfl rfl rfl (Vg 1 ?_);refine Dz [.iv 3] SX.row (y':=(SX.mk x74.PE x74.EP 3 x74.FK x74.DY x74.TO x74.BO x74.Ask)) ex74 trivial rfl rfl rfl (by first | exact Am _ | simp [go_sem]) rfl rfl rfl rfl (Vg 5 ?_);refine VR [0] [8,1,2,3,10,5] 2 11 h Zi fun _ _ h=>?_;refine Vg 2 ?_;refine A7 12 10 ?_;exact W
    ·refine Vg 6 ?_;refine VR [0] [8,1,2,3,10,5] 2 11 h Z1v fun _ _ h=>?_;refine Vg 5 ?_;refine VR [0] [11,1,2,3,10,5] 2 12 h Zi fun _ _ h=>?_;refine Vg 4 ?_;refine A7 13 10 (A7 11 8 (Ds ?_));exact Da (BY h hout2) hin1
   ·refine Ai fun all H=>Ds (GP H 4 19 [4,19] [(17,[.ptr 1 2,.iv x74.SS,.bv (!decide (x74.SS=2)),.bv (!decide (x74.SS=2))])] (Ds ?_));refine BJ 20 h rfl (fun _ h=>?_) fun _ h=>?_
    ·refine Ds (GP H 19 0 [23] [(21,ux 18 [.tt])] (Ds ?_));refine GD ?_;exact W
    ·refine Ds (GP H 8 11 [12,11] [(21,[.ptr 0 0,.ptr 0 0,.ptr 0 0,.ptr 0 0,.ptr 0 3,.iv x3,.bv (decide (x3=2)),.bv (decide (x3=2))])] (Ds ?_));refine BJ 28 h rfl (fun _ h=>?_) fun _ h=>?_
     ·refine Ds (GP H 7 4 [17,1,2,3] [(29,[.ptr 0 0,.ptr 0 0,.ptr 0 0,.ptr 0 0,.ptr 0 4]),(1,[.ptr 1 0,.iv x74.PE])] (Ds ?_));refine R1 ?_;refine RQ (LR.slice 1 rfl) h Gq fun _ _ h=>?_;refine Gn H 2 0 ?_;refine GD ?_;exact W
     ·refine Ds (GP H 11 0 [23] [(29,ux 9 [.ff,.ff])] (Ds ?_));refine GD ?_;exact W
def SY (x1 x2:List Int):Option (List Int):=
 (O5 x1 ((fun z=>SZ z x2))).bind fun x3=>
 some x3
theorem vP {x1 x2 r} (h:SY x1 x2=some r):FPx 170 [Ab x1,Ab x2] (Ab r):=by have ok:=oJ 170 Tryz.f170 [.t 4] 2 6;refine FP ok fun w0 H0=>?_;rw [SY] at h;refine Vg 9 ?_;refine H3 0 rfl rfl (Ds ?_);refine VB h (fun e=>iN e ⟨by kernel_rfl,rfl,fun z r hz=>vQ hz⟩) fun _ _ h=>?_;exact W
def Ic (x1:Graph) (x2:List Int):Bool→Option Bool
| x5=>
 A0 x5 (
 some false) (
 (O9 x1.Edges ((fun z=>Vz z x2))).bind fun x6=>
 some (!x6))
def Qn (x1:Graph) (x2:List Int):Option Bool:=
 (Ih x1).bind fun x3=>
 A0 (!decide (x3=0)) (
 (Ic x1 x2) true) (
 A0 (!decide ((ln Ad x2)=x1.N)) (
 (Ic x1 x2) true) (
 (G7 x2 ((fun z=>Vy z))).bind fun x4=>
 (Ic x1 x2) x4))
theorem uE {x1 x2 r} (h:Qn x1 x2=some r):FPx 232 [.agg (Graph.row x1),Ab x2] (.bv r):=by
 have ok:=oJ 232 Tryz.f232 [.t 4] 2 22;refine FP ok fun w0 H0=>?_;rw [Qn] at h;refine Vg 10 ?_;refine VB h PY fun _ _ h=>?_;refine Vg 2 ?_;refine Vk [2,2] (fun x5=>[(18,.bv x5)]) (Ic x1 x2) r ?_ fun J1=>?_
 ·intro x5 h;rw [Ic] at h;refine MI h (fun h=>W) fun h=>?_;refine Vg 6 ?_;refine VN (LR.block 1 rfl rfl) h (fun e=>iQ e ⟨by kernel_rfl,rfl,fun z r hz=>uG hz⟩) fun _ _ h=>?_;exact W
 ·refine MC 8 h (fun h=>W) fun h=>?_;refine Vg 7 ?_;refine MC 15 h (fun h=>W) fun h=>?_;refine Vg 1 ?_;refine VB h (fun e=>Ms e ⟨by kernel_rfl,rfl,fun z r hz=>uF hz⟩) fun _ _ h=>?_;exact W
def VW:List Int→Option (List Int)
| x23=>
 (Gy x23).bind fun x24=>
 some x24
def Jx (x10:Int):List Int→Option ((Int×List Int) ⊕ (List Int))
| x15=>some (.inl (wr (x10+1),x15))
def VX (x1:Graph) (x2:Int):(Int×List Int)→Option ((Int×List Int) ⊕ (List Int))
| (x10,x11)=>
 A0 (decide (x10<(ln Edge.row x1.Edges))) (
 (A4 x1.Edges x10).bind fun x12=>
 A0 (decide (x2=x12.A)) (
 (AI 8 x11 ([x12.B])).bind fun x13=>
 (Jx x10) x13) (
 A0 (decide (x2=x12.B)) (
 (AI 8 x11 ([x12.A])).bind fun x14=>
 (Jx x10) x14) (
 (Jx x10) x11))) (
 Option.map Sum.inr (VW x11))
def KK (x1:Graph) (x2:Int):Option (List Int):=
 (Ih x1).bind fun x3=>
 A0 (!decide (x3=0)) (
 some (([]:List Int))) (
 loop (VX x1 x2) (0,([]:List Int)))
theorem xg {x1 x2 r} (h:KK x1 x2=some r):FOx 67 [.agg (Graph.row x1),.iv x2] 3 1 (List.map Ad r):=by
 have ok:=oJ 67 Tryz.f67 [.t 4] 2 38;refine EU ok rfl fun w0 H0=>?_;rw [KK] at h;refine Vg 9 ?_;refine VB h PY fun _ _ h=>?_;refine Vg 2 ?_;refine MI h (fun h=>?_) fun h=>?_
 ·refine Vg 4 ?_;refine CV 4 3 1 rfl rfl (Ds ?_);exact Db Ad ok h rfl rfl
 ·refine Vg 13 ?_;refine Vl [] (fun x23=>([(5,.osl 0)],[],[A5 x23])) VW r ?_ fun J1=>?_
  ·intro x23 h;rw [VW] at h;refine Vg 3 ?_;refine Ae 0 (Ds ?_);have ⟨x24,ex24,h⟩:=Bs h;refine Ec trivial (TY ex24) (h:=?_);refine Vg 2 ?_;exact Db Ad ok h rfl rfl
  ·refine Vg 1 ?_;refine CV 5 3 1 rfl rfl (Ds ?_);refine Ml h [1,1,3,1,6,2] (fun s=>([(14,.iv s.1)],[],[A5 s.2])) ?_;rintro n1 ⟨x10,x11⟩ y1 h hin1 hout1;rw [VX] at h;refine Vg 5 ?_;refine MI h (fun h=>?_) fun h=>W;refine Vg 5 ?_;have ⟨x12,ex12,h⟩:=Bs h;refine AZ Edge.row ex12 trivial rfl rfl rfl (Vg 16 ?_);refine Vl [1,1,3,1,6,3] (fun x15=>([],[],[A5 x15])) (Jx x10) y1 ?_ fun J2=>?_
   ·intro x15 h;rw [Jx] at h;exact W
   ·refine MI h (fun h=>?_) fun h=>?_
    ·refine Vg 5 ?_;have ⟨x13,ex13,h⟩:=Bs h;refine BP Ad ex13 trivial rfl rfl rfl (Vg 2 ?_);refine A7 2 0 ?_;exact W
    ·refine Vg 7 ?_;refine MI h (fun h=>?_) fun h=>W;refine Vg 5 ?_;have ⟨x14,ex14,h⟩:=Bs h;refine BP Ad ex14 trivial rfl rfl rfl (Vg 2 ?_);refine A7 2 0 ?_;exact W
theorem iy {x1 x2 r} (h:KK x1 x2=some r):FPx 67 [.agg (Graph.row x1),.iv x2] (Ab r):=(xg h).sealed
end
end NX
end Go.Proofs.YtjemlejoladlcaaGreat
