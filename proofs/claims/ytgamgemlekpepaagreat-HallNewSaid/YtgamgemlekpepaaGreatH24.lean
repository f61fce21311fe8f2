/-
  The function slices.Insert[[]narthex/api.Side,narthex/api.Side], lent own memory. Written by a program of ours (lb.py). No statement of the seat is proved here.
-/
import Derived.Test.YtgamgemlekpepaaGreatH23
set_option maxRecDepth 100000
set_option maxHeartbeats 4000000
namespace Go.Proofs.YtgamgemlekpepaaGreat
namespace NX
open Go
noncomputable section
def Z021 (l:List Side) (i:Int) (vs:List Side):Option (List Side):=Zdi 32 l i vs
theorem Z121 {l i vs r} (h:Z021 l i vs=some r):
  Z0f Tryz.prog 131 [.osl 0,.iv i,.osl 1] [] [some ⟨112,8,l.map Side.row⟩,some ⟨112,8,List.map Side.row vs⟩] (.osl 2) [] [none,none,some ⟨112,8,r.map Side.row⟩]:=by
 obtain ⟨v,rfl,h⟩:=Zei h;obtain ⟨hr,h0,h1,hb,h63⟩:=Zfi h;have hln:(l.map Side.row).length=l.length:=List.length_map _;have hw1:wr ((l.length:Int)+1)=(l.length:Int)+1:=IntWalk.i64_in _ ⟨by omega,by omega⟩;have hw2:wr ((l.length:Int)+1-i)=(l.length:Int)+1-i:=IntWalk.i64_in _ ⟨by omega,by omega⟩;have hw3:wr (i+1)=i+1:=IntWalk.i64_in _ ⟨by omega,by omega⟩;obtain ⟨y,hy⟩:∃y,y=v.row:=⟨_,rfl⟩
 have hv1: [v].map Side.row=[y]:=by rw [hy];rfl
 rw [hv1];have hr1:(([y]:List (List AV)).length:Int)=1:=rfl;have hR:(l.map Side.row).take i.toNat++y::(l.map Side.row).drop i.toNat=r.map Side.row:=by rw [hr,hy];simp [List.map_take,List.map_drop]
 have hw4:(i+1).toNat=i.toNat+1:=by omega
 have hw5:((l.length:Int)+1).toNat=l.length+1:=by omega
 refine Z5i (j:=0) Z201 rfl rfl rfl (by first | rfl | simp [go_sem]) rfl rfl (i<l.length) (fun h=>by rw [hln];omega) (fun w M hc=>?_) (fun w M g cap hq e1 hc e2=>?_)
 ·dsimp only[lun,List.cons_append,List.nil_append];refine Zf6 100 ?_;dsimp only[go_sem];refine An ?_;refine Z77 trivial (Z8i (l:=i) rfl rfl rfl h0 (by rw [hln];exact h1)) rfl ?_;refine Zf6 100 ?_;dsimp only[go_sem];refine An ?_;refine Z44 rfl (fun e=>by simp at e) fun _=>?_;refine Zf6 100 ?_;dsimp only[go_sem];refine An ?_;refine Z44 rfl (fun e=>?_) fun hne=>?_
  ·have hi:i=l.length:=by simpa using e
   subst hi;refine Zf6 100 ?_;dsimp only[go_sem];refine An ?_;rw [←hv1];refine Zlc Side.row (l':=l) (m':=[v]) (v:=r) ?_ trivial rfl rfl rfl ?_
   ·unfold Z7c;rw [if_pos ⟨by simpa using hb,by simpa using h63⟩,hr];simp
   refine Zf6 100 ?_;dsimp only[go_sem];refine An ?_;exact Zkj Z201
  ·have hi:i<l.length:=by
    have:¬i=l.length:=by simpa using hne
    omega
   have hc:=hc hi;have hcl:Zrh (M.σ 0)<l.length+1:=by simpa [hln] using hc
   refine Zf6 100 ?_;dsimp only[go_sem];refine An ?_;refine Z77 trivial (Zvh rfl rfl (by show 0<2;omega)) rfl ?_;refine Zf6 100 ?_;dsimp only[go_sem];refine An ?_;rw [show (Ctx.lent Tryz.prog w M [] [some ⟨112,8,l.map Side.row⟩,some ⟨112,8,[y]⟩] 0 2).ps 0=M.σ 0 from rfl];simp only [hln,hr1,hw1];refine Z44 rfl (fun _=>?_) fun e=>?_
   ·refine Zf6 100 ?_;dsimp only[go_sem];refine An ?_;refine Z77 trivial (Zgg (l:=0) (h:=i) rfl rfl (by rw [hln]<;>omega) rfl rfl (by omega) h0 (by rw [hln];exact h1)) rfl ?_;refine Zf6 100 ?_;dsimp only[go_sem];refine An ?_;simp only [hw1,hw2];have hik:i=(i.toNat:Int):=by omega
    refine Z77 trivial (Z3i (i:=i.toNat) (m:=(l.length:Int)+1-i) rfl rfl (by rw [hln]<;>omega) (by show 0<2;omega) rfl (by omega) ?_ rfl ?_ (by omega) rfl) rfl ?_
    ·show (Zrh (M.σ 0):Int)<_;omega
    ·have:(i.toNat:Int)+((l.length:Int)+1-i)=((l.length+1:Nat):Int):=by omega
     rw [this];omega
    refine Zf6 100 ?_;dsimp only[go_sem];refine An ?_;have hrl:((l.map Side.row).take i.toNat++List.replicate ((l.length:Int)+1-i).toNat [AV.iv 0,AV.iv 0,AV.iv 0,AV.ff,AV.ff,AV.ff,AV.ff,AV.ff]).length=l.length+1:=by rw [List.length_append,List.length_take,List.length_replicate,hln];omega
    refine Z77 trivial (Zgg (l:=i) (h:=(l.length:Int)+1) rfl rfl (by rw [hrl]<;>omega) rfl (by simp only [bnd,hrl];rfl) h0 (by omega) (by rw [hrl]<;>omega)) rfl ?_;refine Zf6 100 ?_;dsimp only[go_sem];refine An ?_;refine Z2i 44 1 rfl rfl (by show 0<1;omega) ?_;dsimp only[go_sem];refine Z77 trivial (Z9i ((l.map Side.row).take i.toNat++y::List.replicate ((l.map Side.row).length-i.toNat) [AV.iv 0,AV.iv 0,AV.iv 0,AV.ff,AV.ff,AV.ff,AV.ff,AV.ff]) rfl rfl rfl rfl (by rw [hrl]<;>omega) (by show 0+1≤1;omega) (by rw [hrl]<;>omega) (by show 0<1;omega) (Zai (by rw [hln]<;>omega) (by rw [hln]<;>omega) (by omega) rfl)) rfl ?_;refine Zf6 100 ?_;dsimp only[go_sem];refine An ?_;refine Zej fun all H=>?_;dsimp only[go_sem];refine GN H 6 3 ?_;dsimp only[go_sem];refine An ?_;simp only [hw3];have hr2:((l.map Side.row).take i.toNat++y::List.replicate ((l.map Side.row).length-i.toNat) [AV.iv 0,AV.iv 0,AV.iv 0,AV.ff,AV.ff,AV.ff,AV.ff,AV.ff]).length=l.length+1:=by rw [List.length_append,List.length_take,List.length_cons,List.length_replicate,hln];omega
    refine Zna 4 7 rfl ?_ ?_
    ·refine Zpa H.1 trivial (Zgg (l:=i+1) (h:=(l.length:Int)+1) rfl rfl (by rw [hr2]<;>omega) rfl (by simp only [bnd,hr2];rfl) (by omega) (by omega) (by rw [hr2]<;>omega)) rfl (Z7a _ _) ?_;dsimp only[go_sem];refine Zma 7 rfl ?_;refine Zpa H.1 trivial (Zgg (l:=i) (h:=(l.length:Int)) rfl rfl (by rw [hln]<;>omega) rfl (by simp only [bnd,hln]) h0 (by omega) (by rw [hln];exact Int.le_refl _)) rfl (Z7a _ _) ?_;dsimp only[go_sem];refine Zma 8 rfl ?_;refine Zpa (S1:=⟨_,_,_⟩) H.1 trivial (Z9i (r.map Side.row) rfl rfl rfl rfl (by rw [hr2]<;>omega) (by rw [hln]<;>omega) (by rw [hr2]<;>omega) (by omega) ?_) rfl (fun _ _ _ _ h _ _=>h) ?_
     ·rw [show (i+1).toNat=i.toNat+1 by omega,←hR];exact Zbi (by rw [hln]<;>omega) (by rw [hln]<;>omega) (by rw [hln]<;>omega)
     dsimp only[go_sem];refine GD ?_;refine Zf6 100 ?_;dsimp only[go_sem];refine An ?_;exact Zkj Z201
    ·refine Zpa H.1 trivial (Zgg (l:=i) (h:=(l.length:Int)) rfl rfl (by rw [hln]<;>omega) rfl (by simp only [bnd,hln]) h0 (by omega) (by rw [hln];exact Int.le_refl _)) rfl (Z7a _ _) ?_;dsimp only[go_sem];refine Zma 4 rfl ?_;refine Zpa H.1 trivial (Zgg (l:=i+1) (h:=(l.length:Int)+1) rfl rfl (by rw [hr2]<;>omega) rfl (by simp only [bnd,hr2];rfl) (by omega) (by omega) (by rw [hr2]<;>omega)) rfl (Z7a _ _) ?_;dsimp only[go_sem];refine Zma 8 rfl ?_;refine Zpa (S1:=⟨_,_,_⟩) H.1 trivial (Z9i (r.map Side.row) rfl rfl rfl rfl (by rw [hr2]<;>omega) (by rw [hln]<;>omega) (by rw [hr2]<;>omega) (by omega) ?_) rfl (fun _ _ _ _ h _ _=>h) ?_
     ·rw [show (i+1).toNat=i.toNat+1 by omega,←hR];exact Zbi (by rw [hln]<;>omega) (by rw [hln]<;>omega) (by rw [hln]<;>omega)
     dsimp only[go_sem];refine GD ?_;refine Zf6 100 ?_;dsimp only[go_sem];refine An ?_;exact Zkj Z201
   ·exact absurd e (by simpa using (by omega:(Zrh (M.σ 0):Int)<l.length+1))
 ·dsimp only[lun,List.cons_append,List.nil_append];have hcn:(Ctx.lent Tryz.prog w M [] [some ⟨112,8,l.map Side.row⟩,some ⟨112,8,[y]⟩,none] 0 3).nq=3:=rfl;have hp0:(Ctx.lent Tryz.prog w M [] [some ⟨112,8,l.map Side.row⟩,some ⟨112,8,[y]⟩,none] 0 3).ps 0 = .slice (some ⟨g,0,none⟩) l.length cap:=by rw [hln] at e1;exact e1
  have hp2:(Ctx.lent Tryz.prog w M [] [some ⟨112,8,l.map Side.row⟩,some ⟨112,8,[y]⟩,none] 0 3).ps 2 = .slice (some ⟨g,0,none⟩) (l.length+1) cap:=by rw [hln] at e2;exact e2
  have hc:l.length+1≤cap:=by rw [hln] at hc;exact hc
  refine Zf6 100 ?_;dsimp only[go_sem];refine An ?_;refine Z77 trivial (Z8i (l:=i) rfl rfl rfl h0 (by rw [hln];exact h1)) rfl ?_;refine Zf6 100 ?_;dsimp only[go_sem];refine An ?_;refine Z44 rfl (fun e=>by simp at e) fun _=>?_;refine Zf6 100 ?_;dsimp only[go_sem];refine An ?_;refine Z44 rfl (fun e=>?_) fun _=>?_
  ·exfalso;have:i=l.length:=by simpa using e
   omega
  refine Zf6 100 ?_;dsimp only[go_sem];refine An ?_;refine Z77 trivial (Zvh rfl rfl (by show 0<3;omega)) rfl ?_;rw [hp0];refine Zf6 100 ?_;dsimp only [go_sem,Zrh];refine An ?_;simp only [hln,hr1,hw1];refine Z44 rfl (fun e=>?_) fun _=>?_
  ·exfalso;have:(cap:Int)<l.length+1:=by simpa using e
   omega
  refine Zf6 100 ?_;dsimp only[go_sem];refine An ?_;simp only [hw1];refine Z77 trivial (Zwh (h:=(l.length:Int)+1) rfl (by show 0<3;omega) (by show 2<3;omega) hp0 hp2 hc rfl rfl rfl) rfl ?_;refine Zf6 100 ?_;dsimp only[go_sem];refine An ?_;simp only [hw3];refine Z77 trivial (Zxh (l:=i+1) (h:=(l.length:Int)+1) rfl (by show 2<3;omega) hp2 hc rfl rfl (by omega) (by omega) (by omega)) rfl ?_;refine Zf6 100 ?_;dsimp only[go_sem];refine An ?_;refine Z77 trivial (Zzh (ft:=Tryz.f171) (tS:=56) (tR:=4) (e:=112) (j:=0) (by kernel_rfl) (by kernel_rfl) (by kernel_rfl) (by kernel_rfl) (by kernel_rfl) (by kernel_rfl) (by kernel_rfl) rfl rfl rfl rfl (by omega) (by show 0<1;omega) (by show 0<(l.map Side.row).length;rw [hln];omega) (by show 0<3;omega) (by show 2<3;omega) hp0 hp2) rfl ?_;refine Zf6 100 ?_;dsimp only[go_sem];refine An ?_;have hrs:((l.map Side.row).take (i.toNat+1)++(l.map Side.row).drop i.toNat).length=l.length+1:=by rw [List.length_append,List.length_take,List.length_drop,hln];omega
  refine Zej fun all H=>?_;dsimp only[go_sem];refine GN H 6 3 ?_;dsimp only[go_sem];refine An ?_;simp only [hw3];refine Zna 4 7 rfl ?_ ?_
  ·refine Zpa H.1 trivial (Zxh (l:=i+1) (h:=(l.length:Int)+1) rfl (by show 2<3;omega) hp2 hc rfl rfl (by omega) (by omega) (by omega)) rfl (Z7a _ _) ?_;dsimp only[go_sem];refine Zma 7 rfl ?_;refine Zpa H.1 trivial (Zxh (l:=i) (h:=(l.length:Int)+1) rfl (by show 2<3;omega) hp2 hc rfl rfl h0 (by omega) (by omega)) rfl (Z7a _ _) ?_;dsimp only[go_sem];simp only [hw4,hw5,Nat.add_sub_add_right];refine Zma 8 rfl ?_;refine Zpa (S1:=⟨_,_,_⟩) H.1 trivial (Z0i (i:=i.toNat) rfl rfl rfl hln (by omega) (by show 2<3;omega) (by show 0<3;omega) (by show 2<3;omega) hp0 hp2 hc) rfl (fun _ _ _ _ h _ _=>h) ?_;dsimp only[go_sem];refine GD ?_;refine Zf6 100 ?_;dsimp only[go_sem];refine An ?_;refine Z77 trivial (Zxh (l:=i) (h:=(l.length:Int)+1) rfl (by show 2<3;omega) hp2 hc rfl rfl h0 (by omega) (by omega)) rfl ?_;refine Zf6 100 ?_;dsimp only[go_sem];refine An ?_;refine Z2i 81 1 rfl rfl (by show 0<1;omega) ?_;dsimp only[go_sem];refine Z77 trivial (Z9i (r.map Side.row) rfl rfl rfl rfl (by rw [hrs,hw5]<;>omega) (by show 0+1≤1;omega) (by rw [hrs]<;>omega) (by show 0<1;omega) (by rw [←hR];exact Zci (by rw [hln]<;>omega) (by omega) rfl)) rfl ?_;refine Zf6 100 ?_;dsimp only[go_sem];refine An ?_;exact Zkj Z201
  ·refine Zpa H.1 trivial (Zxh (l:=i) (h:=(l.length:Int)+1) rfl (by show 2<3;omega) hp2 hc rfl rfl h0 (by omega) (by omega)) rfl (Z7a _ _) ?_;dsimp only[go_sem];refine Zma 4 rfl ?_;refine Zpa H.1 trivial (Zxh (l:=i+1) (h:=(l.length:Int)+1) rfl (by show 2<3;omega) hp2 hc rfl rfl (by omega) (by omega) (by omega)) rfl (Z7a _ _) ?_;dsimp only[go_sem];simp only [hw4,hw5,Nat.add_sub_add_right];refine Zma 8 rfl ?_;refine Zpa (S1:=⟨_,_,_⟩) H.1 trivial (Z0i (i:=i.toNat) rfl rfl rfl hln (by omega) (by show 2<3;omega) (by show 0<3;omega) (by show 2<3;omega) hp0 hp2 hc) rfl (fun _ _ _ _ h _ _=>h) ?_;dsimp only[go_sem];refine GD ?_;refine Zf6 100 ?_;dsimp only[go_sem];refine An ?_;refine Z77 trivial (Zxh (l:=i) (h:=(l.length:Int)+1) rfl (by show 2<3;omega) hp2 hc rfl rfl h0 (by omega) (by omega)) rfl ?_;refine Zf6 100 ?_;dsimp only[go_sem];refine An ?_;refine Z2i 81 1 rfl rfl (by show 0<1;omega) ?_;dsimp only[go_sem];refine Z77 trivial (Z9i (r.map Side.row) rfl rfl rfl rfl (by rw [hrs,hw5]<;>omega) (by show 0+1≤1;omega) (by rw [hrs]<;>omega) (by show 0<1;omega) (by rw [←hR];exact Zci (by rw [hln]<;>omega) (by omega) rfl)) rfl ?_;refine Zf6 100 ?_;dsimp only[go_sem];refine An ?_;exact Zkj Z201
def Z221 (l:List KE) (i:Int) (vs:List KE):Option (List KE):=Zdi 16 l i vs
theorem Z321 {l i vs r} (h:Z221 l i vs=some r):
  Z0f Tryz.prog 175 [.osl 0,.iv i,.osl 1] [] [some ⟨121,2,l.map KE.row⟩,some ⟨121,2,List.map KE.row vs⟩] (.osl 2) [] [none,none,some ⟨121,2,r.map KE.row⟩]:=by
 obtain ⟨v,rfl,h⟩:=Zei h;obtain ⟨hr,h0,h1,hb,h63⟩:=Zfi h;have hln:(l.map KE.row).length=l.length:=List.length_map _;have hw1:wr ((l.length:Int)+1)=(l.length:Int)+1:=IntWalk.i64_in _ ⟨by omega,by omega⟩;have hw2:wr ((l.length:Int)+1-i)=(l.length:Int)+1-i:=IntWalk.i64_in _ ⟨by omega,by omega⟩;have hw3:wr (i+1)=i+1:=IntWalk.i64_in _ ⟨by omega,by omega⟩;obtain ⟨y,hy⟩:∃y,y=v.row:=⟨_,rfl⟩
 have hv1: [v].map KE.row=[y]:=by rw [hy];rfl
 rw [hv1];have hr1:(([y]:List (List AV)).length:Int)=1:=rfl;have hR:(l.map KE.row).take i.toNat++y::(l.map KE.row).drop i.toNat=r.map KE.row:=by rw [hr,hy];simp [List.map_take,List.map_drop]
 have hw4:(i+1).toNat=i.toNat+1:=by omega
 have hw5:((l.length:Int)+1).toNat=l.length+1:=by omega
 refine Z5i (j:=0) Z301 rfl rfl rfl (by first | rfl | simp [go_sem]) rfl rfl (i<l.length) (fun h=>by rw [hln];omega) (fun w M hc=>?_) (fun w M g cap hq e1 hc e2=>?_)
 ·dsimp only[lun,List.cons_append,List.nil_append];refine Zf6 100 ?_;dsimp only[go_sem];refine An ?_;refine Z77 trivial (Z8i (l:=i) rfl rfl rfl h0 (by rw [hln];exact h1)) rfl ?_;refine Zf6 100 ?_;dsimp only[go_sem];refine An ?_;refine Z44 rfl (fun e=>by simp at e) fun _=>?_;refine Zf6 100 ?_;dsimp only[go_sem];refine An ?_;refine Z44 rfl (fun e=>?_) fun hne=>?_
  ·have hi:i=l.length:=by simpa using e
   subst hi;refine Zf6 100 ?_;dsimp only[go_sem];refine An ?_;rw [←hv1];refine Zlc KE.row (l':=l) (m':=[v]) (v:=r) ?_ trivial rfl rfl rfl ?_
   ·unfold Z7c;rw [if_pos ⟨by simpa using hb,by simpa using h63⟩,hr];simp
   refine Zf6 100 ?_;dsimp only[go_sem];refine An ?_;exact Zkj Z301
  ·have hi:i<l.length:=by
    have:¬i=l.length:=by simpa using hne
    omega
   have hc:=hc hi;have hcl:Zrh (M.σ 0)<l.length+1:=by simpa [hln] using hc
   refine Zf6 100 ?_;dsimp only[go_sem];refine An ?_;refine Z77 trivial (Zvh rfl rfl (by show 0<2;omega)) rfl ?_;refine Zf6 100 ?_;dsimp only[go_sem];refine An ?_;rw [show (Ctx.lent Tryz.prog w M [] [some ⟨121,2,l.map KE.row⟩,some ⟨121,2,[y]⟩] 0 2).ps 0=M.σ 0 from rfl];simp only [hln,hr1,hw1];refine Z44 rfl (fun _=>?_) fun e=>?_
   ·refine Zf6 100 ?_;dsimp only[go_sem];refine An ?_;refine Z77 trivial (Zgg (l:=0) (h:=i) rfl rfl (by rw [hln]<;>omega) rfl rfl (by omega) h0 (by rw [hln];exact h1)) rfl ?_;refine Zf6 100 ?_;dsimp only[go_sem];refine An ?_;simp only [hw1,hw2];have hik:i=(i.toNat:Int):=by omega
    refine Z77 trivial (Z3i (i:=i.toNat) (m:=(l.length:Int)+1-i) rfl rfl (by rw [hln]<;>omega) (by show 0<2;omega) rfl (by omega) ?_ rfl ?_ (by omega) rfl) rfl ?_
    ·show (Zrh (M.σ 0):Int)<_;omega
    ·have:(i.toNat:Int)+((l.length:Int)+1-i)=((l.length+1:Nat):Int):=by omega
     rw [this];omega
    refine Zf6 100 ?_;dsimp only[go_sem];refine An ?_;have hrl:((l.map KE.row).take i.toNat++List.replicate ((l.length:Int)+1-i).toNat [AV.iv 0,AV.iv 0]).length=l.length+1:=by rw [List.length_append,List.length_take,List.length_replicate,hln];omega
    refine Z77 trivial (Zgg (l:=i) (h:=(l.length:Int)+1) rfl rfl (by rw [hrl]<;>omega) rfl (by simp only [bnd,hrl];rfl) h0 (by omega) (by rw [hrl]<;>omega)) rfl ?_;refine Zf6 100 ?_;dsimp only[go_sem];refine An ?_;refine Z2i 44 1 rfl rfl (by show 0<1;omega) ?_;dsimp only[go_sem];refine Z77 trivial (Z9i ((l.map KE.row).take i.toNat++y::List.replicate ((l.map KE.row).length-i.toNat) [AV.iv 0,AV.iv 0]) rfl rfl rfl rfl (by rw [hrl]<;>omega) (by show 0+1≤1;omega) (by rw [hrl]<;>omega) (by show 0<1;omega) (Zai (by rw [hln]<;>omega) (by rw [hln]<;>omega) (by omega) rfl)) rfl ?_;refine Zf6 100 ?_;dsimp only[go_sem];refine An ?_;refine Zej fun all H=>?_;dsimp only[go_sem];refine GN H 6 3 ?_;dsimp only[go_sem];refine An ?_;simp only [hw3];have hr2:((l.map KE.row).take i.toNat++y::List.replicate ((l.map KE.row).length-i.toNat) [AV.iv 0,AV.iv 0]).length=l.length+1:=by rw [List.length_append,List.length_take,List.length_cons,List.length_replicate,hln];omega
    refine Zna 4 7 rfl ?_ ?_
    ·refine Zpa H.1 trivial (Zgg (l:=i+1) (h:=(l.length:Int)+1) rfl rfl (by rw [hr2]<;>omega) rfl (by simp only [bnd,hr2];rfl) (by omega) (by omega) (by rw [hr2]<;>omega)) rfl (Z7a _ _) ?_;dsimp only[go_sem];refine Zma 7 rfl ?_;refine Zpa H.1 trivial (Zgg (l:=i) (h:=(l.length:Int)) rfl rfl (by rw [hln]<;>omega) rfl (by simp only [bnd,hln]) h0 (by omega) (by rw [hln];exact Int.le_refl _)) rfl (Z7a _ _) ?_;dsimp only[go_sem];refine Zma 8 rfl ?_;refine Zpa (S1:=⟨_,_,_⟩) H.1 trivial (Z9i (r.map KE.row) rfl rfl rfl rfl (by rw [hr2]<;>omega) (by rw [hln]<;>omega) (by rw [hr2]<;>omega) (by omega) ?_) rfl (fun _ _ _ _ h _ _=>h) ?_
     ·rw [show (i+1).toNat=i.toNat+1 by omega,←hR];exact Zbi (by rw [hln]<;>omega) (by rw [hln]<;>omega) (by rw [hln]<;>omega)
     dsimp only[go_sem];refine GD ?_;refine Zf6 100 ?_;dsimp only[go_sem];refine An ?_;exact Zkj Z301
    ·refine Zpa H.1 trivial (Zgg (l:=i) (h:=(l.length:Int)) rfl rfl (by rw [hln]<;>omega) rfl (by simp only [bnd,hln]) h0 (by omega) (by rw [hln];exact Int.le_refl _)) rfl (Z7a _ _) ?_;dsimp only[go_sem];refine Zma 4 rfl ?_;refine Zpa H.1 trivial (Zgg (l:=i+1) (h:=(l.length:Int)+1) rfl rfl (by rw [hr2]<;>omega) rfl (by simp only [bnd,hr2];rfl) (by omega) (by omega) (by rw [hr2]<;>omega)) rfl (Z7a _ _) ?_;dsimp only[go_sem];refine Zma 8 rfl ?_;refine Zpa (S1:=⟨_,_,_⟩) H.1 trivial (Z9i (r.map KE.row) rfl rfl rfl rfl (by rw [hr2]<;>omega) (by rw [hln]<;>omega) (by rw [hr2]<;>omega) (by omega) ?_) rfl (fun _ _ _ _ h _ _=>h) ?_
     ·rw [show (i+1).toNat=i.toNat+1 by omega,←hR];exact Zbi (by rw [hln]<;>omega) (by rw [hln]<;>omega) (by rw [hln]<;>omega)
     dsimp only[go_sem];refine GD ?_;refine Zf6 100 ?_;dsimp only[go_sem];refine An ?_;exact Zkj Z301
   ·exact absurd e (by simpa using (by omega:(Zrh (M.σ 0):Int)<l.length+1))
 ·dsimp only[lun,List.cons_append,List.nil_append];have hcn:(Ctx.lent Tryz.prog w M [] [some ⟨121,2,l.map KE.row⟩,some ⟨121,2,[y]⟩,none] 0 3).nq=3:=rfl;have hp0:(Ctx.lent Tryz.prog w M [] [some ⟨121,2,l.map KE.row⟩,some ⟨121,2,[y]⟩,none] 0 3).ps 0 = .slice (some ⟨g,0,none⟩) l.length cap:=by rw [hln] at e1;exact e1
  have hp2:(Ctx.lent Tryz.prog w M [] [some ⟨121,2,l.map KE.row⟩,some ⟨121,2,[y]⟩,none] 0 3).ps 2 = .slice (some ⟨g,0,none⟩) (l.length+1) cap:=by rw [hln] at e2;exact e2
  have hc:l.length+1≤cap:=by rw [hln] at hc;exact hc
  refine Zf6 100 ?_;dsimp only[go_sem];refine An ?_;refine Z77 trivial (Z8i (l:=i) rfl rfl rfl h0 (by rw [hln];exact h1)) rfl ?_;refine Zf6 100 ?_;dsimp only[go_sem];refine An ?_;refine Z44 rfl (fun e=>by simp at e) fun _=>?_;refine Zf6 100 ?_;dsimp only[go_sem];refine An ?_;refine Z44 rfl (fun e=>?_) fun _=>?_
  ·exfalso;have:i=l.length:=by simpa using e
   omega
  refine Zf6 100 ?_;dsimp only[go_sem];refine An ?_;refine Z77 trivial (Zvh rfl rfl (by show 0<3;omega)) rfl ?_;rw [hp0];refine Zf6 100 ?_;dsimp only [go_sem,Zrh];refine An ?_;simp only [hln,hr1,hw1];refine Z44 rfl (fun e=>?_) fun _=>?_
  ·exfalso;have:(cap:Int)<l.length+1:=by simpa using e
   omega
  refine Zf6 100 ?_;dsimp only[go_sem];refine An ?_;simp only [hw1];refine Z77 trivial (Zwh (h:=(l.length:Int)+1) rfl (by show 0<3;omega) (by show 2<3;omega) hp0 hp2 hc rfl rfl rfl) rfl ?_;refine Zf6 100 ?_;dsimp only[go_sem];refine An ?_;simp only [hw3];refine Z77 trivial (Zxh (l:=i+1) (h:=(l.length:Int)+1) rfl (by show 2<3;omega) hp2 hc rfl rfl (by omega) (by omega) (by omega)) rfl ?_;refine Zf6 100 ?_;dsimp only[go_sem];refine An ?_;refine Z77 trivial (Zzh (ft:=Tryz.f208) (tS:=65) (tR:=4) (e:=121) (j:=0) (by kernel_rfl) (by kernel_rfl) (by kernel_rfl) (by kernel_rfl) (by kernel_rfl) (by kernel_rfl) (by kernel_rfl) rfl rfl rfl rfl (by omega) (by show 0<1;omega) (by show 0<(l.map KE.row).length;rw [hln];omega) (by show 0<3;omega) (by show 2<3;omega) hp0 hp2) rfl ?_;refine Zf6 100 ?_;dsimp only[go_sem];refine An ?_;have hrs:((l.map KE.row).take (i.toNat+1)++(l.map KE.row).drop i.toNat).length=l.length+1:=by rw [List.length_append,List.length_take,List.length_drop,hln];omega
  refine Zej fun all H=>?_;dsimp only[go_sem];refine GN H 6 3 ?_;dsimp only[go_sem];refine An ?_;simp only [hw3];refine Zna 4 7 rfl ?_ ?_
  ·refine Zpa H.1 trivial (Zxh (l:=i+1) (h:=(l.length:Int)+1) rfl (by show 2<3;omega) hp2 hc rfl rfl (by omega) (by omega) (by omega)) rfl (Z7a _ _) ?_;dsimp only[go_sem];refine Zma 7 rfl ?_;refine Zpa H.1 trivial (Zxh (l:=i) (h:=(l.length:Int)+1) rfl (by show 2<3;omega) hp2 hc rfl rfl h0 (by omega) (by omega)) rfl (Z7a _ _) ?_;dsimp only[go_sem];simp only [hw4,hw5,Nat.add_sub_add_right];refine Zma 8 rfl ?_;refine Zpa (S1:=⟨_,_,_⟩) H.1 trivial (Z0i (i:=i.toNat) rfl rfl rfl hln (by omega) (by show 2<3;omega) (by show 0<3;omega) (by show 2<3;omega) hp0 hp2 hc) rfl (fun _ _ _ _ h _ _=>h) ?_;dsimp only[go_sem];refine GD ?_;refine Zf6 100 ?_;dsimp only[go_sem];refine An ?_;refine Z77 trivial (Zxh (l:=i) (h:=(l.length:Int)+1) rfl (by show 2<3;omega) hp2 hc rfl rfl h0 (by omega) (by omega)) rfl ?_;refine Zf6 100 ?_;dsimp only[go_sem];refine An ?_;refine Z2i 81 1 rfl rfl (by show 0<1;omega) ?_;dsimp only[go_sem];refine Z77 trivial (Z9i (r.map KE.row) rfl rfl rfl rfl (by rw [hrs,hw5]<;>omega) (by show 0+1≤1;omega) (by rw [hrs]<;>omega) (by show 0<1;omega) (by rw [←hR];exact Zci (by rw [hln]<;>omega) (by omega) rfl)) rfl ?_;refine Zf6 100 ?_;dsimp only[go_sem];refine An ?_;exact Zkj Z301
  ·refine Zpa H.1 trivial (Zxh (l:=i) (h:=(l.length:Int)+1) rfl (by show 2<3;omega) hp2 hc rfl rfl h0 (by omega) (by omega)) rfl (Z7a _ _) ?_;dsimp only[go_sem];refine Zma 4 rfl ?_;refine Zpa H.1 trivial (Zxh (l:=i+1) (h:=(l.length:Int)+1) rfl (by show 2<3;omega) hp2 hc rfl rfl (by omega) (by omega) (by omega)) rfl (Z7a _ _) ?_;dsimp only[go_sem];simp only [hw4,hw5,Nat.add_sub_add_right];refine Zma 8 rfl ?_;refine Zpa (S1:=⟨_,_,_⟩) H.1 trivial (Z0i (i:=i.toNat) rfl rfl rfl hln (by omega) (by show 2<3;omega) (by show 0<3;omega) (by show 2<3;omega) hp0 hp2 hc) rfl (fun _ _ _ _ h _ _=>h) ?_;dsimp only[go_sem];refine GD ?_;refine Zf6 100 ?_;dsimp only[go_sem];refine An ?_;refine Z77 trivial (Zxh (l:=i) (h:=(l.length:Int)+1) rfl (by show 2<3;omega) hp2 hc rfl rfl h0 (by omega) (by omega)) rfl ?_;refine Zf6 100 ?_;dsimp only[go_sem];refine An ?_;refine Z2i 81 1 rfl rfl (by show 0<1;omega) ?_;dsimp only[go_sem];refine Z77 trivial (Z9i (r.map KE.row) rfl rfl rfl rfl (by rw [hrs,hw5]<;>omega) (by show 0+1≤1;omega) (by rw [hrs]<;>omega) (by show 0<1;omega) (by rw [←hR];exact Zci (by rw [hln]<;>omega) (by omega) rfl)) rfl ?_;refine Zf6 100 ?_;dsimp only[go_sem];refine An ?_;exact Zkj Z301
def Z421 (x5:Bool):List Int→Option (Bool×List Int)
| x7=>some (x5,x7)
def Z521 (x1:Sess) (x3:List Int):Bool→Option (Bool×List Int)
| x5=>
 ifb x5 (
 (Z7c 8 x3 ([x1.ID])).bind fun x6=>
 (Z421 x5) x6) (
 (Z421 x5) x3)
def Z621 (x1:Sess) (x2:Int) (x3:List Int):Option (Bool×List Int):=
 ifb (decide (x1.State=0)) (
 (Zkw x1.Need x2).bind fun x4=>
 (Z521 x1 x3) x4) (
 (Z521 x1 x3) false)
theorem Z721 {x1 x2 x3 r} (h:Z621 x1 x2 x3=some r):Z0f Tryz.prog 177 [.agg (Sess.row x1),.ptr 0 0,.ptr 1 0] [some ⟨3,[.iv x2]⟩,some ⟨40,[.osl 0]⟩] [Sq4 x3] (.bv r.1) [some ⟨3,[.iv x2]⟩,some ⟨40,[.osl 2]⟩] [none,none,Sq4 r.2]:=by
 refine FT Z401 fun w0 M0=>?_;have ok:=Z401;rw [Z621] at h;dsimp only[lun,List.cons_append,List.nil_append];refine Vg 11 ?_;refine Vk [2,2] (fun x5=>[(5,.bv x5)]) (Z521 x1 x3) r ?_ fun J1=>?_
 ·intro x5 h;rw [Z521] at h;(try dsimp only);refine Vg 5 ?_;refine Vl [5,1] (fun x7=>([],[some ⟨3,[.iv x2]⟩,some ⟨40,[.osl 2]⟩],[none,none,Sq4 x7])) (Z421 x5) r ?_ fun J2=>?_
  ·intro x7 h;rw [Z421] at h;(try dsimp only);refine Vg 5 ?_;obtain rfl:=Option.some.inj h;exact Zkj Z401
  ·refine MI h (fun h=>?_) fun h=>?_
   ·refine Vg 5 ?_;have ⟨x6,ex6,h⟩:=Bs h;refine Zlc Z3d ex6 trivial rfl rfl rfl ?_;exact W
   ·refine Vg 1 ?_;refine Zjj 3 1 (Ds ?_);refine Zjj 3 1 (Ds ?_);refine Zgj 0 2 ?_;exact W
 ·refine MC 9 h (fun h=>?_) fun h=>?_
  ·refine Vg 3 ?_;refine VB h Zlw fun _ _ h=>?_;exact W
  ·exact W
def Z821 (x61:List Side) (x62:List Mail):Int→Option (Int×List Side×List Mail)
| x64=>some (x64,x61,x62)
def Z921 (x3:Int) (x61:List Side) (x62:List Mail):Bool→Option (Int×List Side×List Mail)
| x63=>
 ifb x63 (
 (Z821 x61 x62) 2) (
 (Z821 x61 x62) x3)
def Za21 (x3:Int):(Bool×List Side×List Mail)→Option (Int×List Side×List Mail)
| (x60,x61,x62)=>
 ifb (decide (x3=1)) (
 (Z921 x3 x61 x62) x60) (
 (Z921 x3 x61 x62) false)
def Zb21 (x28:Int) (x43:List Side) (x44:List Mail):Bool→Option ((Bool×Int×List Side×List Mail) ⊕ (Int×List Side×List Mail))
| x46=>some (.inl (x46,wr (x28+1),x43,x44))
def Zc21 (x27:Bool) (x28:Int) (x33:Bool):(List Side×List Mail)→Option ((Bool×Int×List Side×List Mail) ⊕ (Int×List Side×List Mail))
| (x43,x44)=>
 ifb x27 (
 ifb (!x33) (
 (Zb21 x28 x43 x44) true) (
 (at_ x43 x28).bind fun x45=>
 (Zb21 x28 x43 x44) x45.BO)) (
 (Zb21 x28 x43 x44) false)
def Zd21 (x1 x2 x3:Int) (x5:List Int) (x27:Bool) (x28:Int) (x33:Bool) (x37:List Side) (x38:List Mail):Bool→Option ((Bool×Int×List Side×List Mail) ⊕ (Int×List Side×List Mail))
| x40=>
 ifb x40 (
 (at_ x37 x28).bind fun x41=>
 (Zst (Side.mk x41.Peer x41.Epoch x41.State x41.Fork x41.DY x41.Token x41.BO false) 4 x1 x2 x3 (x37.set (Int.toNat (x28)) (Side.mk x41.Peer x41.Epoch x41.State x41.Fork x41.DY x41.Token x41.BO false)) x5 x38).bind fun x42=>
 (Zc21 x27 x28 x33) ((x37.set (Int.toNat (x28)) (Side.mk x41.Peer x41.Epoch x41.State x41.Fork x41.DY x41.Token x41.BO false)),x42)) (
 (Zc21 x27 x28 x33) (x37,x38))
def Ze21 (x1 x2 x3:Int) (x5:List Int) (x27:Bool) (x28:Int) (x33:Bool):(List Side×List Mail)→Option ((Bool×Int×List Side×List Mail) ⊕ (Int×List Side×List Mail))
| (x37,x38)=>
 ifb (decide (x3=1)) (
 ifb x33 (
 (at_ x37 x28).bind fun x39=>
 ifb x39.Ask (
 (Zd21 x1 x2 x3 x5 x27 x28 x33 x37 x38) (!x39.BO)) (
 (Zd21 x1 x2 x3 x5 x27 x28 x33 x37 x38) false)) (
 (Zd21 x1 x2 x3 x5 x27 x28 x33 x37 x38) false)) (
 (Zd21 x1 x2 x3 x5 x27 x28 x33 x37 x38) false)
def Zf21 (x1 x2 x3:Int) (x5:List Int) (x27:Bool) (x28:Int) (x29:List Side) (x30:List Mail) (x31:Side) (x33:Bool):Bool→Option ((Bool×Int×List Side×List Mail) ⊕ (Int×List Side×List Mail))
| x35=>
 ifb x35 (
 (Zst (Side.mk x31.Peer x31.Epoch x31.State x31.Fork x31.DY x31.Token false x31.Ask) 3 x1 x2 x3 (x29.set (Int.toNat (x28)) (Side.mk x31.Peer x31.Epoch x31.State x31.Fork x31.DY x31.Token false x31.Ask)) x5 x30).bind fun x36=>
 (Ze21 x1 x2 x3 x5 x27 x28 x33) ((x29.set (Int.toNat (x28)) (Side.mk x31.Peer x31.Epoch x31.State x31.Fork x31.DY x31.Token false x31.Ask)),x36)) (
 (Ze21 x1 x2 x3 x5 x27 x28 x33) (x29,x30))
def Zg21 (x1 x2 x3:Int) (x5:List Int) (x27:Bool) (x28:Int) (x29:List Side) (x30:List Mail) (x31:Side) (x33:Bool):Bool→Option ((Bool×Int×List Side×List Mail) ⊕ (Int×List Side×List Mail))
| x34=>
 ifb x31.BO (
 ifb x31.Ask (
 (Zf21 x1 x2 x3 x5 x27 x28 x29 x30 x31 x33) (!x34)) (
 (Zf21 x1 x2 x3 x5 x27 x28 x29 x30 x31 x33) false)) (
 (Zf21 x1 x2 x3 x5 x27 x28 x29 x30 x31 x33) false)
def Zh21 (x1 x2 x3:Int) (x5:List Int) (x27:Bool) (x28:Int) (x29:List Side) (x30:List Mail) (x31:Side):Bool→Option ((Bool×Int×List Side×List Mail) ⊕ (Int×List Side×List Mail))
| x33=>
 ifb x33 (
 ifb (decide (x3=2)) (
 (Zg21 x1 x2 x3 x5 x27 x28 x29 x30 x31 x33) true) (
 ifb (decide (x3=1)) (
 (Zg21 x1 x2 x3 x5 x27 x28 x29 x30 x31 x33) x31.Fork) (
 (Zg21 x1 x2 x3 x5 x27 x28 x29 x30 x31 x33) false))) (
 (Zg21 x1 x2 x3 x5 x27 x28 x29 x30 x31 x33) false)
def Zi21 (x1 x2 x3:Int) (x4:List Side) (x5:List Int):(Bool×Int×List Side×List Mail)→Option ((Bool×Int×List Side×List Mail) ⊕ (Int×List Side×List Mail))
| (x27,x28,x29,x30)=>
 ifb (decide (x28<(ln Side.row x4))) (
 (at_ x29 x28).bind fun x31=>
 (Zkw x5 x31.Peer).bind fun x32=>
 (Zh21 x1 x2 x3 x5 x27 x28 x29 x30 x31) x32) (
 Option.map Sum.inr ((Za21 x3) (x27,x29,x30)))
def Zj21 (x1 x2 x3:Int) (x4:List Side) (x5:List Int) (x6:List Mail):Option (Int×List Side×List Mail):=loop (Zi21 x1 x2 x3 x4 x5) (true,0,x4,x6)
theorem Zk21 {x1 x2 x3 x4 x5 x6 r} (h:Zj21 x1 x2 x3 x4 x5 x6=some r):Z0f Tryz.prog 233 [.ptr 0 0] [some ⟨248,[.iv x1,.iv x2,.osl 0,.iv x3,.osl 1,.osl 2]⟩] [Zwj x4,Sq4 x5,Sq6 x6] (.tup []) [some ⟨248,[.iv x1,.iv x2,.osl 0,.iv r.1,.osl 1,.osl 4]⟩] [Zwj r.2.1,Sq4 x5,none,none,Sq6 r.2.2]:=by
 refine FT Z101 fun w0 M0=>?_;have ok:=Z101;rw [Zj21] at h;dsimp only[lun,List.cons_append,List.nil_append];refine Vg 16 ?_;refine Vl [0,1] (fun s=>([(2,.bv s.1)],[some ⟨248,[.iv x1,.iv x2,.osl 0,.iv x3,.osl 1,.osl 4]⟩],[Zwj s.2.1,Sq4 x5,none,none,Sq6 s.2.2])) (Za21 x3) r ?_ fun J1=>?_
 ·rintro ⟨x60,x61,x62⟩ h;rw [Za21] at h;(try dsimp only);refine Vg 9 ?_;refine Vk [0,1] (fun x63=>[(130,.bv x63)]) (Z921 x3 x61 x62) r ?_ fun J9=>?_
  ·intro x63 h;rw [Z921] at h;(try dsimp only);refine Vm [] (fun x64=>([],[(0,3,.iv x64)],[],[])) (Z821 x61 x62) r ?_ fun J10=>?_
   ·intro x64 h;rw [Z821] at h;(try dsimp only);obtain rfl:=Option.some.inj h;exact Zlj Z101
   ·refine MI h (fun h=>?_) fun h=>?_
    ·refine Vg 7 ?_;exact Zsc J10 h
    ·refine Vg 1 ?_;exact Zsc J10 h
  ·exact W
 ·refine Vg 1 ?_;refine Zjj 53 5 (Ds ?_);refine Zjj 53 5 (Ds ?_);refine Zgj 2 4 (Ds ?_);refine Mm h [0,1,12,1] (fun s=>([(2,.bv s.1),(14,.iv s.2.1)],[],[],[(0,Zwj s.2.2.1),(3,none),(4,Sq6 s.2.2.2)])) ?_;rintro n1 ⟨x27,x28,x29,x30⟩ y1 h hin1 hout1;rw [Zi21] at h;(try dsimp only);refine Vg 5 ?_;refine MI h (fun h=>?_) fun h=>?_
  ·refine Vg 17 ?_;have ⟨x31,ex31,h⟩:=Bs h;refine Zde Side.row ex31 trivial rfl rfl rfl (Vg 3 ?_);refine Vk [0,1,1,1,1,1,8,2] (fun x33=>[(5,.bv x33)]) (Zh21 x1 x2 x3 x5 x27 x28 x29 x30 x31) y1 ?_ fun J2=>?_
   ·intro x33 h;rw [Zh21] at h;(try dsimp only);refine Vg 4 ?_;refine Vk [0,1,1,1,1,2,7,2] (fun x34=>[(6,.bv x34)]) (Zg21 x1 x2 x3 x5 x27 x28 x29 x30 x31 x33) y1 ?_ fun J3=>?_
    ·intro x34 h;rw [Zg21] at h;(try dsimp only);refine Vg 6 ?_;refine Zke Side.row ex31 trivial rfl rfl rfl (Vg 1 ?_);refine Vk [0,1,1,1,1,2,7,2] (fun x35=>[(71,.bv x35)]) (Zf21 x1 x2 x3 x5 x27 x28 x29 x30 x31 x33) y1 ?_ fun J4=>?_
     ·intro x35 h;rw [Zf21] at h;(try dsimp only);refine Vm [0,1,1,1,1,2,7,2] (fun s=>([],[],[],[(0,Zwj s.1),(4,Sq6 s.2)])) (Ze21 x1 x2 x3 x5 x27 x28 x33) y1 ?_ fun J5=>?_
      ·rintro ⟨x37,x38⟩ h;rw [Ze21] at h;(try dsimp only);refine Vg 10 ?_;refine Vk [0,1,1,1,1,2,7,2] (fun x40=>[(101,.bv x40)]) (Zd21 x1 x2 x3 x5 x27 x28 x33 x37 x38) y1 ?_ fun J6=>?_
       ·intro x40 h;rw [Zd21] at h;(try dsimp only);refine Vm [0,1,1,1,1,2,7,2] (fun s=>([],[],[],[(0,Zwj s.1),(4,Sq6 s.2)])) (Zc21 x27 x28 x33) y1 ?_ fun J7=>?_
        ·rintro ⟨x43,x44⟩ h;rw [Zc21] at h;(try dsimp only);refine Vg 3 ?_;refine Vk [0,1,12,2] (fun x46=>[(2,.bv x46)]) (Zb21 x28 x43 x44) y1 ?_ fun J8=>?_
         ·intro x46 h;rw [Zb21] at h;exact W
         ·refine MC 111 h (fun h=>?_) fun h=>?_
          ·refine Vg 3 ?_;refine MC 114 h (fun h=>?_) fun h=>?_
           ·exact W
           ·refine Vg 3 ?_;have ⟨x45,ex45,h⟩:=Bs h;refine Zke Side.row ex45 trivial rfl rfl rfl ?_;exact W
          ·exact W
        ·refine MI h (fun h=>?_) fun h=>?_
         ·refine Vg 5 ?_;have ⟨x41,ex41,h⟩:=Bs h;refine Zue [.bv false] Side.row (y':=(Side.mk x41.Peer x41.Epoch x41.State x41.Fork x41.DY x41.Token x41.BO false)) ex41 trivial rfl rfl rfl (by first | exact Zqb _ | simp [go_sem]) rfl rfl rfl rfl (Vg 5 ?_);refine Zme Side.row (Zee ex41) trivial rfl rfl rfl (VR [0] [0,1,4] 1 5 h Ztt fun _ _ h=>?_);refine Vg 1 ?_;refine Zgj 6 4 ?_;exact W
         ·exact W
       ·refine MC 86 h (fun h=>?_) fun h=>?_
        ·refine Vg 3 ?_;refine MC 89 h (fun h=>?_) fun h=>?_
         ·refine Vg 3 ?_;have ⟨x39,ex39,h⟩:=Bs h;refine Zke Side.row ex39 trivial rfl rfl rfl (Vg 2 ?_);refine MC 95 h (fun h=>?_) fun h=>?_
          ·refine Vg 3 ?_;refine Zke Side.row ex39 trivial rfl rfl rfl ?_;exact W
          ·exact W
         ·exact W
        ·exact W
      ·refine MI h (fun h=>?_) fun h=>?_
       ·refine Vg 5 ?_;refine Zue [.bv false] Side.row (y':=(Side.mk x31.Peer x31.Epoch x31.State x31.Fork x31.DY x31.Token false x31.Ask)) ex31 trivial rfl rfl rfl (by first | exact Zqb _ | simp [go_sem]) rfl rfl rfl rfl (Vg 5 ?_);refine Zme Side.row (Zee ex31) trivial rfl rfl rfl (VR [0] [0,1,4] 1 5 h Ztt fun _ _ h=>?_);refine Vg 1 ?_;refine Zgj 6 4 ?_;exact W
       ·exact W
     ·refine MC 62 h (fun h=>?_) fun h=>?_
      ·refine Vg 3 ?_;refine Zke Side.row ex31 trivial rfl rfl rfl ?_;exact W
      ·exact W
    ·refine MC 36 h (fun h=>?_) fun h=>?_
     ·refine Vg 7 ?_;refine MC 43 h (fun h=>?_) fun h=>?_
      ·exact W
      ·refine Vg 7 ?_;refine MC 50 h (fun h=>?_) fun h=>?_
       ·refine Vg 3 ?_;refine Zke Side.row ex31 trivial rfl rfl rfl ?_;exact W
       ·exact W
     ·exact W
   ·refine Zej fun all H=>Ds (GP H 7 4 [4,1,3,3] [(25,[.ptr 0 0,.ptr 0 0,.ptr 0 0,.ptr 0 4]),(1,[.oel 0 (Int.toNat (x28)*8) 0,.oel 0 (Int.toNat (x28)*8) 0,.oel 0 (Int.toNat (x28)*8) 0])] (Ds ?_));refine Zna 4 8 rfl ?_ ?_
    ·refine RV ?_;refine RO ?_;refine RL ?_;refine Zma 9 rfl (GQ H.1 (LR.slice 1 rfl) h Zlw fun x32 ex32 h=>?_);refine Gn H 1 0 ?_;refine GD ?_;exact W
    ·refine RL ?_;refine R1 ?_;refine Zma 9 rfl (GQ H.1 (LR.slice 1 rfl) h Zlw fun _ _ h=>?_);refine Gn H 1 0 ?_;refine GD ?_;exact W
  ·exact W
def Zl21:(List Side×List Mail)→Option ((List Side×List Mail) ⊕ (List Mail×List Side))
| (x100,x101)=>Option.map Sum.inr (some (x101,x100))
def Zm21 (x71:Int):(List Side×List Mail)→Option ((Int×List Side×List Mail) ⊕ ((List Side×List Mail) ⊕ (List Mail×List Side)))
| (x80,x81)=>some (.inl (wr (x71+1),x80,x81))
def Zn21 (x1 x2:Int) (x3 x4:Int) (x5:List Sess) (x6:List Int) (x7:Int) (x9:List Int) (x10 x11:List KE) (x13:List Event) (x71:Int) (x72:List Side) (x73:List Mail) (x74:Side):Bool→Option ((Int×List Side×List Mail) ⊕ ((List Side×List Mail) ⊕ (List Mail×List Side)))
| x76=>
 ifb x76 (
 (Zm21 x71) (x72,x73)) (
 ifb (decide (x1<x74.Peer)) (
 (Zwt x74 7 x1 x2 x3 x4 x5 x6 x7 (x72.set (Int.toNat (x71)) (Side.mk x74.Peer x74.Epoch 3 x74.Fork x74.DY x74.Token x74.BO x74.Ask)) x9 x10 x11 x73 x13).bind fun x77=>
 (Zm21 x71) ((x72.set (Int.toNat (x71)) (Side.mk x74.Peer x74.Epoch 3 x74.Fork x74.DY x74.Token x74.BO x74.Ask)),x77)) (
 (Zc01 x74.Peer x1 x2 x3 x4 x5 x6 x7 x72 x9 x10 x11 x73 x13).bind fun x78=>
 (Zwt x74 8 x1 x2 x3 x4 x5 x6 x7 x78 x9 x10 x11 x73 x13).bind fun x79=>
 Option.map Sum.inr (some (.inl (x78,x79)))))
def Zo21 (x1 x2:Int) (x3 x4:Int) (x5:List Sess) (x6:List Int) (x7:Int) (x9:List Int) (x10 x11:List KE) (x13:List Event) (x58:List Side):(Int×List Side×List Mail)→Option ((Int×List Side×List Mail) ⊕ ((List Side×List Mail) ⊕ (List Mail×List Side)))
| (x71,x72,x73)=>
 ifb (decide (x71<(ln Side.row x58))) (
 (at_ x72 x71).bind fun x74=>
 ifb (!decide (x74.State=2)) (
 (Zn21 x1 x2 x3 x4 x5 x6 x7 x9 x10 x11 x13 x71 x72 x73 x74) true) (
 ifb (decide (x3=2)) (
 (Zkw x9 x74.Peer).bind fun x75=>
 (Zn21 x1 x2 x3 x4 x5 x6 x7 x9 x10 x11 x13 x71 x72 x73 x74) x75) (
 (Zn21 x1 x2 x3 x4 x5 x6 x7 x9 x10 x11 x13 x71 x72 x73 x74) false))) (
 Option.map Sum.inr (Zl21 (x72,x73)))
def Zp21 (x1 x2:Int) (x3 x4:Int) (x5:List Sess) (x6:List Int) (x7:Int) (x9:List Int) (x10 x11:List KE) (x13:List Event):(List Side×List Mail)→Option ((List Side×List Mail) ⊕ (List Mail×List Side))
| (x58,x59)=>loop (Zo21 x1 x2 x3 x4 x5 x6 x7 x9 x10 x11 x13 x58) (0,x58,x59)
def Zq21 (x1 x2:Int) (x3 x4:Int) (x5:List Sess) (x6:List Int) (x7:Int) (x8:List Side) (x9:List Int) (x10 x11:List KE) (x12:List Mail) (x13:List Event):Option (List Mail×List Side):=loop (Zp21 x1 x2 x3 x4 x5 x6 x7 x9 x10 x11 x13) (x8,x12)
theorem Zr21 {x1 x2 x3 x4 x5 x6 x7 x8 x9 x10 x11 x12 x13 r} (h:Zq21 x1 x2 x3 x4 x5 x6 x7 x8 x9 x10 x11 x12 x13=some r):Z0f Tryz.prog 184 [.ptr 0 0] [some ⟨138,[.iv x1,.iv x2,.osl 0,.iv x3,.osl 1,.iv x4,Sp5 x5,.osl 2,Sp1 x6,.osl 3,.osl 4,.osl 5,.iv x7]⟩] [Zwj x8,Sq4 x9,Zxj x10,Zxj x11,Sq6 x12,Zzj x13] (.tup []) [some ⟨138,[.iv x1,.iv x2,.osl 8,.iv x3,.osl 1,.iv x4,Sp5 x5,.osl 2,Sp1 x6,.osl 3,.osl 7,.osl 5,.iv x7]⟩] [none,Sq4 x9,Zxj x10,Zxj x11,none,Zzj x13,none,Sq6 r.1,Zwj r.2]:=by
 refine FT Z801 fun w0 M0=>?_;have ok:=Z801;rw [Zq21] at h;dsimp only[lun,List.cons_append,List.nil_append];refine Vg 3 ?_;refine Zjj 53 5 (Ds ?_);refine Zjj 53 5 (Ds ?_);refine Zjj 53 5 (Ds ?_);refine Zjj 53 5 (Ds ?_);refine Zjj 53 5 (Ds ?_);refine Zgj 4 10 (Zgj 0 8 (Ds ?_));refine Zqc h (fun ((x58,x59):(List Side×List Mail))=>⟨(.ptr 0 0::an 70 []),[some ⟨138,[.iv x1,.iv x2,.osl 8,.iv x3,.osl 1,.iv x4,Sp5 x5,.osl 2,Sp1 x6,.osl 3,.osl 10,.osl 5,.iv x7]⟩],[none,Sq4 x9,Zxj x10,Zxj x11,none,Zzj x13,none,none,Zwj x58,none,Sq6 x59]⟩) (by simp [go_sem]) (by rintro ⟨x58,x59⟩;first | rfl | simp [go_sem]) (by rintro ⟨x58,x59⟩;rfl) (by rintro ⟨x58,x59⟩;rfl) ?_;rintro ⟨x58,x59⟩ y1 h hin1 hout1;rw [Zp21] at h;(try dsimp only);refine Vg 12 ?_;refine Vm [] (fun s=>([],[],[],[(8,Zwj s.1),(10,Sq6 s.2)])) Zl21 y1 ?_ fun J1=>?_
 ·rintro ⟨x100,x101⟩ h;rw [Zl21] at h;(try dsimp only);refine Vg 1 ?_;refine Zgj 10 7 (Ds ?_);obtain rfl:=Option.some.inj (Zdc h hout1);exact Zlj Z801
 ·refine Vg 1 ?_;refine Mm h [0,1,9,2] (fun s=>([(12,.iv s.1)],[],[],[(8,Zwj s.2.1),(10,Sq6 s.2.2)])) ?_;rintro n2 ⟨x71,x72,x73⟩ y2 h hin2 hout2;rw [Zo21] at h;(try dsimp only);refine Vg 5 ?_;refine MI h (fun h=>?_) fun h=>?_
  ·refine Vg 2 ?_;refine Vm [0,1,9,3] (fun s=>([],[],[],[(8,Zwj s.1),(10,Sq6 s.2)])) (Zm21 x71) y2 ?_ fun J2=>?_
   ·rintro ⟨x80,x81⟩ h;rw [Zm21] at h;exact W
   ·refine Vg 4 ?_;have ⟨x74,ex74,h⟩:=Bs h;refine Zde Side.row ex74 trivial rfl rfl rfl (Zme Side.row ex74 trivial rfl rfl rfl (Vg 6 ?_));refine Vk [0,1,1,2,6,3] (fun x76=>[(39,.bv x76)]) (Zn21 x1 x2 x3 x4 x5 x6 x7 x9 x10 x11 x13 x71 x72 x73 x74) y2 ?_ fun J3=>?_
    ·intro x76 h;rw [Zn21] at h;(try dsimp only);refine MI h (fun h=>?_) fun h=>?_
     ·exact W
     ·refine Vg 3 ?_;refine Zej fun all H=>Ds (GP H 10 0 [10] [(40,[.ptr 1 0,.iv x74.Peer,.ptr 0 0,.ptr 0 0,.ptr 0 0,.ptr 0 0,.ptr 0 0,.ptr 0 0,.iv x1,.bv (decide (x1<x74.Peer))])] (Ds ?_));refine GD (MI h (fun h=>?_) fun h=>?_)
      ·refine Vg 10 ?_;refine Zde Side.row ex74 trivial rfl rfl rfl (Vg 1 ?_);refine Zue [.iv 3] Side.row (y':=(Side.mk x74.Peer x74.Epoch 3 x74.Fork x74.DY x74.Token x74.BO x74.Ask)) ex74 trivial rfl rfl rfl (by first | exact Zqb _ | simp [go_sem]) rfl rfl rfl rfl (Vg 5 ?_);refine VR [0] [8,1,2,3,10,5] 2 11 h Zxt fun _ _ h=>?_;refine Vg 2 ?_;refine Zgj 12 10 ?_;exact W
      ·refine Vg 6 ?_;refine VR [0] [8,1,2,3,10,5] 2 11 h Zd01 fun _ _ h=>?_;refine Vg 5 ?_;refine VR [0] [11,1,2,3,10,5] 2 12 h Zxt fun _ _ h=>?_;refine Vg 4 ?_;refine Zgj 13 10 (Zgj 11 8 (Ds ?_));exact Zrc (Zdc h hout2) hin1
    ·refine Zej fun all H=>Ds (GP H 4 19 [4,19] [(17,[.ptr 1 2,.iv x74.State,.bv (!decide (x74.State=2)),.bv (!decide (x74.State=2))])] (Ds ?_));refine Zcd 20 h rfl (fun _ h=>?_) fun _ h=>?_
     ·refine Ds (GP H 19 0 [23] [(21,[.un,.un,.un,.un,.un,.un,.un,.un,.un,.un,.un,.un,.un,.un,.un,.un,.un,.un,.tt])] (Ds ?_));refine GD ?_;exact W
     ·refine Ds (GP H 8 11 [12,11] [(21,[.ptr 0 0,.ptr 0 0,.ptr 0 0,.ptr 0 0,.ptr 0 3,.iv x3,.bv (decide (x3=2)),.bv (decide (x3=2))])] (Ds ?_));refine Zcd 28 h rfl (fun _ h=>?_) fun _ h=>?_
      ·refine Ds (GP H 7 4 [17,1,2,3] [(29,[.ptr 0 0,.ptr 0 0,.ptr 0 0,.ptr 0 0,.ptr 0 4]),(1,[.ptr 1 0,.iv x74.Peer])] (Ds ?_));refine R1 ?_;refine Zma 20 rfl (GQ H.1 (LR.slice 1 rfl) h Zlw fun _ _ h=>?_);refine Gn H 2 0 ?_;refine GD ?_;exact W
      ·refine Ds (GP H 11 0 [23] [(29,[.un,.un,.un,.un,.un,.un,.un,.un,.un,.ff,.ff])] (Ds ?_));refine GD ?_;exact W
  ·exact W
@[go_sem] def e112:EC:=eQ Tryz.f112
def Zs21 (x1 x2:List Int):Option (List Int):=
 (Zpz x1 ((fun z=>Zi01 z x2))).bind fun x3=>
 some x3
theorem Zt21 {x1 x2 r} (h:Zs21 x1 x2=some r):Zy6 Tryz.prog 112 [Sp1 x1,Sp1 x2] (Sp1 r):=by have ok:=oK 112 Tryz.f112 e112 [.t 4] 2 6;refine FP ok fun w0 H0=>?_;rw [Zs21] at h;refine Vg 9 ?_;refine Ze8 0 rfl rfl (Ds ?_);refine VB h (fun e=>Zqz e ⟨by kernel_rfl,rfl,fun z r hz=>Zj01 hz⟩) fun _ _ h=>?_;exact W
@[go_sem] def e147:EC:=eQ Tryz.f147
def Zu21 (x1:Graph) (x2:List Int):Bool→Option Bool
| x5=>
 ifb x5 (
 some false) (
 (Z9u x1.Edges ((fun z=>Zwo z x2))).bind fun x6=>
 some (!x6))
def Zv21 (x1:Graph) (x2:List Int):Option Bool:=
 (Zq01 x1).bind fun x3=>
 ifb (!decide (x3=0)) (
 (Zu21 x1 x2) true) (
 ifb (!decide ((ln Z3d x2)=x1.N)) (
 (Zu21 x1 x2) true) (
 (Znr x2 ((fun z=>Zuo z))).bind fun x4=>
 (Zu21 x1 x2) x4))
theorem Zw21 {x1 x2 r} (h:Zv21 x1 x2=some r):Zy6 Tryz.prog 147 [.agg (Graph.row x1),Sp1 x2] (.bv r):=by
 have ok:=oK 147 Tryz.f147 e147 [.t 4] 2 22;refine FP ok fun w0 H0=>?_;rw [Zv21] at h;refine Vg 10 ?_;refine VB h Zr01 fun _ _ h=>?_;refine Vg 2 ?_;refine Vk [2,2] (fun x5=>[(18,.bv x5)]) (Zu21 x1 x2) r ?_ fun J1=>?_
 ·intro x5 h;rw [Zu21] at h;(try dsimp only);refine MI h (fun h=>?_) fun h=>?_
  ·exact W
  ·refine Vg 6 ?_;refine VN (LR.block 1 rfl rfl) h (fun e=>Zau e ⟨by kernel_rfl,rfl,fun z r hz=>Zxo hz⟩) fun _ _ h=>?_;exact W
 ·refine MC 8 h (fun h=>?_) fun h=>?_
  ·exact W
  ·refine Vg 7 ?_;refine MC 15 h (fun h=>?_) fun h=>?_
   ·exact W
   ·refine Vg 1 ?_;refine VB h (fun e=>Zor e ⟨by kernel_rfl,rfl,fun z r hz=>Zvo hz⟩) fun _ _ h=>?_;exact W
end
end NX
end Go.Proofs.YtgamgemlekpepaaGreat
