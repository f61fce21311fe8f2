/-
  The function slices.IndexFunc[[]int,int]: its code compiled, a model, and that the code answers as the model. Written by a program of ours (lb.py). No statement of the seat is proved here.
-/
import Derived.KernelRfl
import Derived.Shelf.Sort.Plain
import Derived.Shelf.Slices.In.SortNone
import Derived.Sort.OwnSortedInts
import Derived.Shelf.Slices.CompactI
import Derived.Lib.RowBridge
import Derived.Test.YtadebhbiglmodaaGreatY1
namespace Go.Proofs.YtadebhbiglmodaaGreat
namespace NX
open Go
set_option maxRecDepth 100000
set_option maxHeartbeats 4000000
@[go_sem] def e125_L0:EC:=.seq (.reg [(Qa 9 (.bin .lss (.t 8) (.t 7)))]) (.seq (.ite (.t 9) (.skip) (.exit 0)) (.seq (.blk 1 (.seq (.reg [(Qm 10 8),(Qm 5 10)]) (.seq (.reg [(Qm 11 1),(Qm 12 0),(Qm 13 5),(Qk 14 1 12 13),(Ql 15 14),(Qa 16 (.callv (.t 11) [(.t 15)]))]) (.ite (.t 16) (.seq (.reg [(Qm 17 5),(Qm 4 17)]) (.ret)) (.skip))))) (.reg [(Qv 18 8 1),(Qm 8 18)])))
@[go_sem] def e125:EC:=.seq (.reg [(Qi 4 0)]) (.seq (.seq (.reg [(Qm 6 0),(Qa 7 (.len (.t 6))),(Qi 8 0)]) (.blk 0 (.loop e125_L0))) (.seq (.reg [(Qa 4 (.mv (.c (.iv (-1)))))]) (.ret)))
theorem ok125:FnOK Tryz.prog 125 Tryz.f125 e125 [.t 4] 2 17:=⟨by kernel_rfl,⟨_,rfl,by kernel_rfl⟩,by kernel_rfl,by kernel_rfl⟩
noncomputable def Z07:Unit→Option Int
| ()=>
 some (-1)
noncomputable def Z17 (x1:(List Int)) (p1:(Int→Option Bool)):Int→Option (Int ⊕ Int)
| x5=>
 ifb (decide (x5<(ln Zx4 x1))) (
 (at_ x1 x5).bind fun x6=>
 (p1 x6).bind fun x7=>
 ifb x7 (
 Option.map Sum.inr (some x5)) (
 some (.inl (wr (x5+1))))) (
 Option.map Sum.inr (Z07 ()))
noncomputable def Z27 (x1:(List Int)) (p1:(Int→Option Bool)):Option Int:=
 loop (Z17 x1 p1) 0
theorem Z37 (x1:(List Int)) (g1:Nat) (caps1:List AV) (p1:(Int→Option Bool)) (hc1:CloOK Tryz.prog g1 caps1 (fun z=>[.iv z]) p1 (fun z=>.bv z)) (r:Int) (h:Z27 x1 p1=some r):Zu2 Tryz.prog 125 [.sl 1 (List.map Zx4 x1),.clo g1 caps1] (.iv r):=by
 refine Zy2 ok125 rfl rfl fun w0 H0=>?_
 rw [Z27] at h
 refine Zo2 11 ?_;dsimp only [go_sem];refine An ?_;refine Zh4 (fun (_:Unit)=>(⟨(an 19 []),[],[]⟩:St)) Z07 r ?_ fun J1=>?_
 ·rintro ⟨⟩ h;rw [Z07] at h;(try dsimp only);refine Zo2 4 ?_;dsimp only [go_sem];refine An ?_;exact Zr4 (res:=fun (r:Int)=>.iv r) ok125 h
 ·refine Zo2 1 ?_;dsimp only [go_sem];refine An ?_;refine Zi4 h (fun (x5:Int)=>(⟨(.sl 1 (List.map Zx4 x1) :: .clo g1 caps1::an 5 (.iv (ln Zx4 x1) :: .iv x5::an 10 [])),[],[]⟩:St)) (by simp [go_sem]) (by intro x5;first | rfl | simp [go_sem,Z84 _ hc1.pu]) ?_;rintro n1 x5 y1 h hin1 hout1;rw [Z17] at h;(try dsimp only);refine Zo2 5 ?_;dsimp only [go_sem];refine An ?_;refine Zj4 h rfl (fun _ h=>?_) fun _ h=>?_
  ·refine Zo2 13 ?_;dsimp only [go_sem];refine An ?_;obtain ⟨x6,ex6,h⟩:=Bs h;refine Zm4 Zx4 ex6 trivial rfl rfl rfl ?_;refine Zo2 1 ?_;dsimp only [go_sem];refine An ?_;obtain ⟨x7,ex7,h⟩:=Bs h;refine Zw4 trivial rfl hc1 (x:=x6) ex7 (by first | exact Z94 _ | simp [go_sem]) (by first | rfl | simp [go_sem,hc1.pu]) ?_;refine Zo2 1 ?_;dsimp only [go_sem];refine An ?_;refine Zj4 h rfl (fun _ h=>?_) fun _ h=>?_
   ·refine Zo2 5 ?_;dsimp only [go_sem];refine An ?_;exact Zr4 (res:=fun (r:Int)=>.iv r) ok125 (Zg4 h hout1)
   ·refine Zo2 6 ?_;dsimp only [go_sem];refine An ?_;exact Zs4 h hin1 (hok:=by first | rfl | simp [go_sem,Z84 _ hc1.pu])
  ·refine Zo2 1 ?_;dsimp only [go_sem];refine An ?_;exact Zt4 J1 (s:=()) (Zg4 h hout1) (hok:=by first | rfl | simp [go_sem,Z84 _ hc1.pu])
set_option maxRecDepth 100000
set_option maxHeartbeats 4000000
@[go_sem] def e107:EC:=.seq (.reg [(Qa 4 (.mv (.c .ff)))]) (.seq (.reg [(Qm 5 0),(Qm 6 1),(Qa 7 (.call 125 [(.t 5),(.t 6)])),(Qa 8 (.bin .geq (.t 7) (.c (.iv 0)))),(Qm 4 8)]) (.ret))
theorem ok107:FnOK Tryz.prog 107 Tryz.f107 e107 [.t 4] 2 7:=⟨by kernel_rfl,⟨_,rfl,by kernel_rfl⟩,by kernel_rfl,by kernel_rfl⟩
noncomputable def Z47 (x1:(List Int)) (p1:(Int→Option Bool)):Option Bool:=
 (Z27 x1 p1).bind fun x2=>
 some (decide (0≤x2))
theorem Z57 (x1:(List Int)) (g1:Nat) (caps1:List AV) (p1:(Int→Option Bool)) (hc1:CloOK Tryz.prog g1 caps1 (fun z=>[.iv z]) p1 (fun z=>.bv z)) (r:Bool) (h:Z47 x1 p1=some r):Zu2 Tryz.prog 107 [.sl 1 (List.map Zx4 x1),.clo g1 caps1] (.bv r):=by
 refine Zy2 ok107 rfl rfl fun w0 H0=>?_
 rw [Z47] at h
 refine Zo2 8 ?_;dsimp only [go_sem];refine An ?_;obtain ⟨x2,ex2,h⟩:=Bs h;refine Z33 trivial (Z37 x1 _ _ p1 hc1 _ ex2) (hp:=(by first | rfl | simp [go_sem,hc1.pu])) (h:=?_);refine Zo2 3 ?_;dsimp only [go_sem];refine An ?_;exact Zr4 (res:=fun (r:Bool)=>.bv r) ok107 h
theorem Z67 (l:List Edge) (p:Edge→Option Bool) (q:Edge→Bool) (hl:l.length≤4000000000000000000) (hp:∀x∈l,p x=some (q x)):Zb6 l p=some (plc (l.findIdx? q)):=by
 unfold Zb6
 refine Z76 l _ q hl (fun k x hx=>?_) ?_
 ·simp only [Za6,Z06 hx,Zu5,Zy5 hx,Option.bind_some,hp x (List.mem_iff_getElem?.2 ⟨k,hx⟩),Z36 hx hl]
  cases q x<;>rfl
 ·simp only [Za6,Z16,Zv5,Z96,Option.map_some]
theorem Z77 (l:List Int) (p:Int→Option Bool) (q:Int→Bool) (hl:l.length≤4000000000000000000) (hp:∀x∈l,p x=some (q x)):Z27 l p=some (plc (l.findIdx? q)):=by
 unfold Z27
 refine Z76 l _ q hl (fun k x hx=>?_) ?_
 ·simp only [Z17,Z06 hx,Zu5,Zy5 hx,Option.bind_some,hp x (List.mem_iff_getElem?.2 ⟨k,hx⟩),Z36 hx hl]
  cases q x<;>rfl
 ·simp only [Z17,Z16,Zv5,Z07,Option.map_some]
theorem Z87 (l:List Side) (p:Side→Option Bool) (q:Side→Bool) (hl:l.length≤4000000000000000000) (hp:∀x∈l,p x=some (q x)):Zh6 l p=some (plc (l.findIdx? q)):=by
 unfold Zh6
 refine Z76 l _ q hl (fun k x hx=>?_) ?_
 ·simp only [Zg6,Z06 hx,Zu5,Zy5 hx,Option.bind_some,hp x (List.mem_iff_getElem?.2 ⟨k,hx⟩),Z36 hx hl]
  cases q x<;>rfl
 ·simp only [Zg6,Z16,Zv5,Zf6,Option.map_some]
theorem Z97 (l:List Edge) (p:Edge→Option Bool) (q:Edge→Bool) (hl:l.length≤4000000000000000000) (hp:∀x∈l,p x=some (q x)):Zd6 l p=some (l.any q):=by
 unfold Zd6
 rw [Z67 l p q hl hp,Option.bind_some,Z56,Z86]
theorem Za7 (l:List Int) (p:Int→Option Bool) (q:Int→Bool) (hl:l.length≤4000000000000000000) (hp:∀x∈l,p x=some (q x)):Z47 l p=some (l.any q):=by
 unfold Z47
 rw [Z77 l p q hl hp,Option.bind_some,Z56,Z86]
def cmpI (a b:Int):Int:=if a<b then -1 else if b<a then 1 else 0
theorem s_Compare (a b:Int):Zo6 a b=some (cmpI a b):=by
 simp only [Zo6,Zm6,Option.bind_some,cmpI]
 by_cases h1:a<b<;>by_cases h2:b<a<;>simp [h1,h2,ifb]
theorem s_Or (a b:Int):Zs6 [a,b]=some (if a≠0 then a else b):=by
 unfold Zs6
 rw [Zf4]
 simp only [Zr6,Z05,List.length_cons,List.length_nil]
 by_cases ha:a=0
 ·subst ha
  simp [at_]
  rw [show wr 1=1 from Zx5 (by omega) (by omega),Zf4]
  simp only [Zr6,Z05,List.length_cons,List.length_nil]
  by_cases hb:b=0
  ·subst hb
   simp [at_]
   rw [show wr 2=2 from Zx5 (by omega) (by omega),Zf4]
   simp [Zr6,Z05,Zq6]
  ·simp [at_,hb]
 ·simp [at_,ha]
def Edge.lt (x y:Edge):Bool:=decide (x.A<y.A)||(decide (x.A=y.A)&&decide (x.B<y.B))
theorem s_rank (x y:Edge):∃n,Zt6 x y=some n∧decide (0≤n)=!x.lt y:=by
 refine ⟨if cmpI x.A y.A≠0 then cmpI x.A y.A else cmpI x.B y.B,by simp only [Zt6,s_Compare,Option.bind_some,s_Or],?_⟩
 unfold cmpI Edge.lt
 by_cases h1:x.A<y.A
 ·simp [h1]
 ·by_cases h2:y.A<x.A
  ·have:x.A≠y.A:=by omega
   simp [h1,h2,this]
  ·have:x.A=y.A:=by omega
   simp [this]
   by_cases h3:x.B<y.B
   ·simp [h3]
   ·by_cases h4:y.B<x.B<;>simp [h3,h4]<;>omega
def Edge.ok (n:Int) (e:Edge):Bool:=decide (0≤e.A)&&(decide (e.A<e.B)&&decide (e.B<n))
def risB:List Edge→Bool
 | x::y::l=>x.lt y&&risB (y::l)
 | _=>true
theorem risB_iff (l:List Edge):risB l=true↔∀k x y,l[k]?=some x→l[k+1]?=some y→x.lt y=true:=by
 induction l with
 | nil=>simp [risB]
 | cons a l ih=>
   cases l with
   | nil=>simp [risB]
   | cons b l=>
     simp only [risB,Bool.and_eq_true,ih]
     constructor
     ·rintro ⟨h1,h2⟩ k x y hx hy
      cases k with
      | zero=>simp at hx hy;subst hx;subst hy;exact h1
      | succ k=>exact h2 k x y (by simpa using hx) (by simpa using hy)
     ·intro h
      exact ⟨h 0 a b (by simp) (by simp),fun k x y hx hy=>h (k+1) x y (by simpa using hx) (by simpa using hy)⟩
def okG (g:Graph):Bool:=decide (0≤g.N)&&(decide (g.N≤64)&&(decide (g.Edges.length≤400)&&(g.Edges.all (Edge.ok g.N)&&risB g.Edges)))
theorem s_Check1 (e:Edge) (g:Graph):Zk6 e g=some (!e.ok g.N):=by
 simp only [Zk6,Zj6,Edge.ok]
 by_cases h1:e.A<0
 ·have:¬0≤e.A:=by omega
  simp [h1,this]
 ·have h1':0≤e.A:=by omega
  by_cases h2:e.B≤e.A
  ·have:¬e.A<e.B:=by omega
   simp [h1,h2,this]
  ·have h2':e.A<e.B:=by omega
   by_cases h3:g.N≤e.B
   ·have:¬e.B<g.N:=by omega
    simp [h1,h2,h3,this]
   ·have:e.B<g.N:=by omega
    simp [h1,h2,h3,this,h1',h2']
theorem Zb7 {β:Type} (l:List Edge) (body:Int→Option (Int ⊕ β)) (yes no:β) (q:Edge→Bool) (_:l.length≤4000000000000000000)
  (hb:∀(k:Nat) x,l[k]?=some x→body k=some (if q x||(match k with | 0=>false | k+1=>match l[k]? with | some y=>!y.lt x | none=>false) then .inr yes else .inl ((k+1:Nat):Int))) (he:body l.length=some (.inr no)):
  loop body 0=some (if l.all (fun x=>!q x)&&risB l then no else yes):=by
 have key:∀m k,m+k=l.length→(∀j x,j<k→l[j]?=some x→q x=false)→(∀j x y,j+1<k→l[j]?=some x→l[j+1]?=some y→x.lt y=true)→loop body (k:Int)=some (if l.all (fun x=>!q x)&&risB l then no else yes):=by
  intro m
  induction m with
  | zero=>
    intro k hk h1 h2
    have:k=l.length:=by omega
    subst this
    rw [Zf4,he]
    have a1:l.all (fun x=>!q x)=true:=by
     rw [List.all_eq_true]
     intro x hx
     obtain ⟨j,hj⟩:=List.mem_iff_getElem?.1 hx
     simp [h1 j x (List.getElem?_eq_some_iff.1 hj).1 hj]
    have a2:risB l=true:=by
     rw [risB_iff]
     intro j x y hx hy
     exact h2 j x y (List.getElem?_eq_some_iff.1 hy).1 hx hy
    simp [a1,a2]
  | succ m ih=>
    intro k hk h1 h2
    have hlt:k<l.length:=by omega
    have hx:l[k]?=some l[k]:=List.getElem?_eq_getElem hlt
    rw [Zf4,hb k _ hx]
    by_cases hq:q l[k]=true
    ·have:l.all (fun x=>!q x)=false:=by
      rw [List.all_eq_false]
      exact ⟨l[k],List.getElem_mem hlt,by simp [hq]⟩
     simp [hq,this]
    ·have hq:q l[k]=false:=by simpa using hq
     cases k with
     | zero=>
       simp only [hq,Bool.or_false,Bool.false_eq_true,if_false]
       refine ih 1 (by omega) (fun j x hj hjx=>?_) (fun j x y hj=>by omega)
       have:j=0:=by omega
       subst this
       rw [hx] at hjx;simp at hjx;rw [←hjx];exact hq
     | succ k=>
       have hy:l[k]?=some l[k]:=List.getElem?_eq_getElem (by omega)
       simp only [hq,hy,Bool.false_or]
       by_cases hr:l[k].lt l[k+1]=true
       ·simp only [hr,Bool.not_true,Bool.false_eq_true,if_false]
        refine ih (k+1+1) (by omega) (fun j x hj hjx=>?_) (fun j x y hj hjx hjy=>?_)
        ·rcases Nat.lt_succ_iff_lt_or_eq.1 hj with h | rfl
         ·exact h1 j x h hjx
         ·rw [hx] at hjx;simp at hjx;rw [←hjx];exact hq
        ·rcases Nat.lt_succ_iff_lt_or_eq.1 (Nat.succ_lt_succ_iff.1 hj) with h | rfl
         ·exact h2 j x y (by omega) hjx hjy
         ·rw [hy] at hjx;rw [hx] at hjy;simp at hjx hjy;rw [←hjx,←hjy];exact hr
       ·have hr:l[k].lt l[k+1]=false:=by simpa using hr
        have:risB l=false:=by
         cases h:risB l with
         | false=>rfl
         | true=>rw [risB_iff] at h;have:=h k _ _ hy hx;rw [hr] at this;exact absurd this (by simp)
        simp [hr,this]
 exact key l.length 0 (by omega) (fun j x hj=>by omega) (fun j x y hj=>by omega)
theorem wr_pred {k:Nat} (h:k≤4000000000000000000):wr (((k+1:Nat):Int)-1)=(k:Int):=by
 rw [Zx5 (by omega) (by omega)];omega
theorem Zc7 (g:Graph):Zy6 g=some (if okG g then 0 else 30):=by
 simp only [Zy6,Zx6]
 by_cases h1:g.N<0
 ·have:¬0≤g.N:=by omega
  simp [h1,okG,this]
 by_cases h2:64<g.N
 ·have:¬g.N≤64:=by omega
  simp [h1,h2,okG,this]
 by_cases h3:400<g.Edges.length
 ·have:¬g.Edges.length≤400:=by omega
  have h3':(400:Int)<ln Edge.row g.Edges:=by rw [Z05];omega
  simp [h1,h2,h3',okG,this]
 have h3':¬(400:Int)<ln Edge.row g.Edges:=by rw [Z05];omega
 rw [Z97 g.Edges _ (fun e=>!e.ok g.N) (by omega) (fun x _=>s_Check1 x g)]
 have e1:0≤g.N:=by omega
 have e2:g.N≤64:=by omega
 have e3:g.Edges.length≤400:=by omega
 simp only [h1,h2,h3',decide_false,Zv5,Option.bind_some,okG,e1,e2,e3,decide_true,Bool.true_and]
 by_cases h4:g.Edges.any (fun e=>!e.ok g.N)=true
 ·have h5:g.Edges.all (Edge.ok g.N)=false:=by
   rw [List.any_eq_true] at h4
   obtain ⟨x,hx,hq⟩:=h4
   rw [List.all_eq_false];exact ⟨x,hx,by simpa using hq⟩
  simp [h4,h5]
 ·have h4:g.Edges.any (fun e=>!e.ok g.N)=false:=by simpa using h4
  have h5:g.Edges.all (Edge.ok g.N)=true:=by
   rw [List.any_eq_false] at h4
   rw [List.all_eq_true];intro x hx;simpa using h4 x hx
  simp only [h4,h5,Zv5,Bool.true_and]
  have key:=Zb7 g.Edges (Zw6 g) 30 0 (fun _=>false) (by omega) (fun k x hx=>by
   cases k with
   | zero=>
     have:=Z06 (f:=Edge.row) hx
     simp only [Zw6,this,Zu5,Zv6]
     simp
     exact Z36 hx (by omega)
   | succ k=>
     have hk:=(List.getElem?_eq_some_iff.1 hx).1
     have hy:g.Edges[k]?=some g.Edges[k]:=List.getElem?_eq_getElem (by omega)
     obtain ⟨n,hn1,hn2⟩:=s_rank g.Edges[k] x
     have h0:decide ((0:Int)<((k+1:Nat):Int))=true:=decide_eq_true (by omega)
     simp only [Zw6,Z06 hx,Zu5,h0,wr_pred (show k≤4000000000000000000 by omega),Zy5 hy,Zy5 hx,Option.bind_some,hn1,hn2,Zv6,hy,Bool.false_or]
     cases g.Edges[k].lt x
     ·simp
     ·simp only [Bool.not_true,Bool.false_eq_true,if_false,Zv5];rw [Z36 hx (show g.Edges.length≤4000000000000000000 by omega)])
   (by simp only [Zw6,Z16,Zv5,Zu6,Option.map_some])
  rw [key]
  simp
theorem Zd7 {g:Graph} (h:okG g=true):0≤g.N∧g.N≤64∧g.Edges.length≤400∧(∀e∈g.Edges,0≤e.A∧e.A<e.B∧e.B<g.N)∧risB g.Edges=true:=by
 simp only [okG,Bool.and_eq_true,decide_eq_true_eq,List.all_eq_true,Edge.ok] at h
 exact ⟨h.1,h.2.1,h.2.2.1,fun e he=>h.2.2.2.1 e he,h.2.2.2.2⟩
theorem all_not_any {α:Type} (l:List α) (p:α→Bool):l.all (fun x=>!p x)=!l.any p:=by
 induction l with
 | nil=>rfl
 | cons x l ih=>simp [ih]
theorem Ze7 {α:Type} (l:List α) (p q:α→Bool) (h:∀x,p x=!q x):l.any p=!l.all q:=by
 induction l with
 | nil=>rfl
 | cons x l ih=>simp [ih,h]
set_option maxRecDepth 100000
set_option maxHeartbeats 4000000
set_option maxRecDepth 100000
set_option maxHeartbeats 4000000
@[go_sem] def e65:EC:=.seq (.reg [(Qx 2 65 8 0),(Qa 3 (.mv (.c .ff)))]) (.seq (.reg [(Qf 4 0 2),(Ql 5 4),(Ql 6 1),(Qa 7 (.bin .eql (.t 5) (.t 6))),(Qm 3 7)]) (.ret))
theorem ok65:FnOK Tryz.prog 65 Tryz.f65 e65 [.t 3] 2 6:=⟨by kernel_rfl,⟨_,rfl,by kernel_rfl⟩,by kernel_rfl,by kernel_rfl⟩
noncomputable def Zf7 (x1:Side) (x2:Int):Option Bool:=
 some (decide (x1.Peer=x2))
theorem Zg7 (x1:Side) (x2:Int) (r:Bool) (h:Zf7 x1 x2=some r):Zu2 Tryz.prog 65 [.agg (Side.row x1),.elt (Zx4 x2) 0] (.bv r):=by
 refine Zy2 ok65 rfl rfl fun w0 H0=>?_
 rw [Zf7] at h
 refine Zo2 13 ?_;dsimp only [go_sem];refine An ?_;exact Zr4 (res:=fun (r:Bool)=>.bv r) ok65 h
set_option maxRecDepth 100000
set_option maxHeartbeats 4000000
@[go_sem] def e31:EC:=.seq (.reg [(Qx 2 70 3 0),(Qx 3 3 1 1),(Qa 4 (.alloc 65 [.iv 0,.iv 0,.iv 0,.ff,.ff,.ff,.ff,.ff])),(Qa 5 (.mv (.c .ff)))]) (.seq (.reg [(Qf 7 2 2),(Ql 8 7),(Qa 9 (.mkf 65 [(.t 3)])),(Qa 10 (.call 64 [(.t 8),(.t 9)])),(Qm 6 10)]) (.seq (.seq (.reg [(Qm 11 6),(Qa 12 (.bin .lss (.t 11) (.c (.iv 0))))]) (.ite (.t 12) (.seq (.reg [(Qa 13 (.build [.iv 0,.iv 0,.iv 0,.ff,.ff,.ff,.ff,.ff] [])),(Qs 8 4 13),(Qa 5 (.mv (.c .ff)))]) (.ret)) (.skip))) (.seq (.reg [(Qf 14 2 2),(Ql 15 14),(Qm 16 6),(Qk 17 8 15 16),(Qe 18 8 17),(Qs 8 4 18),(Qa 5 (.mv (.c .tt)))]) (.ret))))
theorem ok31:FnOK Tryz.prog 31 Tryz.f31 e31 [.c 4 (some 8),.t 5] 2 17:=⟨by kernel_rfl,⟨_,rfl,by kernel_rfl⟩,by kernel_rfl,by kernel_rfl⟩
noncomputable def Zh7 (x1:Diner) (x2:Int):Option (Side×Bool):=
 (Zh6 x1.Sides ((fun z=>Zf7 z x2))).bind fun x3=>
 ifb (decide (x3<0)) (
 some ((Side.mk 0 0 0 false false false false false),false)) (
 (at_ x1.Sides x3).bind fun x4=>
 some (x4,true))
theorem Zi7 (x1:Diner) (x2:Int) (r:(Side×Bool)) (h:Zh7 x1 x2=some r):Zu2 Tryz.prog 31 [.agg (Diner.row x1),.iv x2] (.tup [.agg (Side.row r.1),.bv r.2]):=by
 refine Zy2 ok31 rfl rfl fun w0 H0=>?_
 rw [Zh7] at h
 refine Zo2 12 ?_;dsimp only [go_sem];refine An ?_;obtain ⟨x3,ex3,h⟩:=Bs h;refine Zv4 trivial ((Zu4.refl _).block 1 rfl rfl) (Zi6 x1.Sides _ _ ((fun z=>Zf7 z x2)) ⟨by kernel_rfl,rfl,fun z r hz=>Zg7 z x2 r hz⟩ _ ex3) (h:=?_);refine Zo2 8 ?_;dsimp only [go_sem];refine An ?_;refine Zj4 h rfl (fun _ h=>?_) fun _ h=>?_
 ·refine Zo2 6 ?_;dsimp only [go_sem];refine An ?_;exact Zr4 (res:=fun (r:(Side×Bool))=>.tup [.agg (Side.row r.1),.bv r.2]) ok31 h
 ·refine Zo2 6 ?_;dsimp only [go_sem];refine An ?_;obtain ⟨x4,ex4,h⟩:=Bs h;refine Zm4 Side.row ex4 trivial rfl rfl rfl ?_;refine Zo2 4 ?_;dsimp only [go_sem];refine An ?_;exact Zr4 (res:=fun (r:(Side×Bool))=>.tup [.agg (Side.row r.1),.bv r.2]) ok31 h
set_option maxRecDepth 100000
set_option maxHeartbeats 4000000
set_option maxRecDepth 100000
set_option maxHeartbeats 4000000
@[go_sem] def e7_L0:EC:=.seq (.seq (.reg [(Qm 4 3),(Qf 5 0 1),(Ql 6 5),(Qa 7 (.len (.t 6))),(Qa 8 (.bin .lss (.t 4) (.t 7))),(Qm 9 8),(Qg 10 9 true (.mv (.t 3))),(Qg 11 9 true (.bin .lss (.t 10) (.c (.iv 25)))),(Qp 12 9 11)]) (.ite (.t 12) (.skip) (.exit 0))) (.seq (.blk 1 (.seq (.reg [(Qf 15 0 1),(Ql 16 15),(Qm 17 3),(Qk 18 3 16 17),(Qf 19 2 18),(Ql 20 19),(Qa 21 (.len (.t 20))),(Qa 22 (.bin .gtr (.t 21) (.c (.iv 24))))]) (.ite (.t 22) (.seq (.reg [(Qa 2 (.mv (.c .ff)))]) (.ret)) (.skip)))) (.reg [(Qm 13 3),(Qv 14 13 1),(Qm 3 14)]))
@[go_sem] def e7:EC:=.seq (.reg [(Qx 1 25 2 0),(Qa 2 (.mv (.c .ff)))]) (.seq (.seq (.reg [(Qi 3 0)]) (.blk 0 (.loop e7_L0))) (.seq (.reg [(Qf 23 0 1),(Ql 24 23),(Qa 25 (.len (.t 24))),(Qa 26 (.bin .leq (.t 25) (.c (.iv 24)))),(Qm 27 26),(Qh 28 27 true 1 1),(Qn 29 27 true 28),(Qg 30 27 true (.len (.t 29))),(Qg 31 27 true (.bin .leq (.t 30) (.c (.iv 40)))),(Qp 32 27 31),(Qm 2 32)]) (.ret)))
set_option maxRecDepth 100000
set_option maxHeartbeats 4000000
@[go_sem] def e21:EC:=.seq (.reg [(Qx 1 48 2 0),(Qa 2 (.alloc 48 [.iv 0,.nl]))]) (.seq (.drw [(Qf 3 0 1),(Ql 4 3),(Qa 5 (.bsl 29 2 0 [.iv 0,.iv 0] [])),(Qf 6 1 1),(Ql 7 6),(Qa 8 (.app 29 2 16 (.t 5) (.t 7))),(Qa 9 (.build [.iv 0,.nl] [(0,1,(.t 4)),(1,1,(.t 8))])),(Qs 2 2 9)] [[],[0],[],[],[3],[2,4],[1,5],[6,5,0,1,2,3,4,5,6]] [[1],[0,6],[5],[4],[3,5],[2,4,6],[1,5,7],[6]]) (.ret))
theorem ok21:FnOK Tryz.prog 21 Tryz.f21 e21 [.c 2 (some 2)] 1 9:=⟨by kernel_rfl,⟨_,rfl,by kernel_rfl⟩,by kernel_rfl,by kernel_rfl⟩
noncomputable def Zj7 (x1:Graph):Option Graph:=
 (Za4 16 (([]:List Edge)) x1.Edges).bind fun x2=>
 some (Graph.mk x1.N x2)
theorem Zk7 (x1:Graph) (r:Graph) (h:Zj7 x1=some r):Zu2 Tryz.prog 21 [.agg (Graph.row x1)] (.agg (Graph.row r)):=by
 refine Zy2 ok21 rfl rfl fun w0 H0=>?_
 rw [Zj7] at h
 refine Zo2 6 ?_;dsimp only [go_sem];refine An ?_;refine Zj3 (by kernel_rfl) fun all hall hs hnap haf=>?_;dsimp only [go_sem];refine Z75 hall hs haf hnap 4 4 ?_;dsimp only [go_sem];refine An ?_;refine Zu3 2 rfl ?_;refine Zz3 hall rfl trivial ?_;dsimp only [go_sem];refine Zu3 5 rfl ?_;obtain ⟨x2,ex2,h⟩:=Bs h;refine Zp4 Edge.row ex2 hall rfl trivial rfl rfl rfl ?_;dsimp only [go_sem];refine Z75 hall hs haf hnap 1 1 ?_;dsimp only [go_sem];refine An ?_;refine Zu3 7 rfl ?_;refine Zz3 hall rfl trivial ?_;dsimp only [go_sem];refine Zt3 rfl ?_ _
 refine Zb3 1 rfl ?_;dsimp only [go_sem];exact Zr4 (res:=fun (r:Graph)=>.agg (Graph.row r)) ok21 h
theorem loop_pp {α τ β:Type} (l:List α) (body:τ→Option (τ ⊕ β)) (st:List α→τ) (R:List α→List α→Option β)
  (hb:∀pre x post,l=pre++x::post→(body (st pre)=some (.inl (st (pre++[x])))∧R pre (x::post)=R (pre++[x]) post)∨∃r,body (st pre)=some (.inr r)∧R pre (x::post)=some r)
  (he:body (st l)=(R l []).map .inr):∀post pre,l=pre++post→loop body (st pre)=R pre post
 | [],pre,h=>by
   have:pre=l:=by simpa using h.symm
   subst this
   rw [Zf4,he]
   cases R pre []<;>rfl
 | x::post,pre,h=>by
   rw [Zf4]
   rcases hb pre x post h with ⟨h1,h2⟩ | ⟨r,h1,h2⟩
   ·rw [h1,h2]
    exact loop_pp l body st R hb he post (pre++[x]) (by simpa using h)
   ·rw [h1,h2]
theorem Zl7 {α τ β:Type} (l:List α) (body:τ→Option (τ ⊕ β)) (st:List α→τ) (R:List α→List α→Option β)
 (hb:∀pre x post,l=pre++x::post→(body (st pre)=some (.inl (st (pre++[x])))∧R pre (x::post)=R (pre++[x]) post)∨∃r,body (st pre)=some (.inr r)∧R pre (x::post)=some r)
 (he:body (st l)=(R l []).map .inr):loop body (st [])=R [] l:=loop_pp l body st R hb he l [] rfl
theorem Zm7 {α τ β:Type} (l:List α) (body:τ→Option (τ ⊕ β)) (st:List α→τ) (r:β)
  (hb:∀pre x post,l=pre++x::post→body (st pre)=some (.inl (st (pre++[x])))) (he:body (st l)=some (.inr r)):loop body (st [])=some r:=
 Zl7 l body st (fun _ _=>some r) (fun pre x post h=>.inl ⟨hb pre x post h,rfl⟩) he
theorem Zn7 {α:Type} {l pre post:List α} {x:α} (h:l=pre++x::post):l[pre.length]?=some x:=by subst h;simp
theorem Zo7 {α:Type} {l pre post:List α} {x:α} (h:l=pre++x::post):pre.length<l.length:=by subst h;simp
theorem Zp7 {α:Type} {l pre post:List α} {x:α} (h:l=pre++x::post):x∈l:=by subst h;simp
theorem at_mid {α:Type} {l a b:List α} {x:α} (h:l=a++x::b):at_ l (a.length:Int)=some x:=Zy5 (Zn7 h)
theorem Zq7 {α:Type} (a b:List α) (x y:α):(a++x::b).set ((a.length:Int)).toNat y=a++y::b:=by simp
theorem Zr7 {α:Type} (pre:List α) (x:α):(pre++[x]).length=pre.length+1:=by simp
theorem Zs7 {τ β:Type} (n:Nat) (body:τ→Option (τ ⊕ β)) (st:Nat→τ) (r:β) (hb:∀k,k<n→body (st k)=some (.inl (st (k+1)))) (he:body (st n)=some (.inr r)):loop body (st 0)=some r:=by
 have key:∀m k,m+k=n→loop body (st k)=some r:=by
  intro m
  induction m with
  | zero=>intro k hk;have:k=n:=by omega
          subst this;rw [Zf4,he]
  | succ m ih=>intro k hk;rw [Zf4,hb k (by omega)];exact ih (k+1) (by omega)
 exact key n 0 rfl
theorem loop_natI {τ β:Type} (n:Nat) (body:τ→Option (τ ⊕ β)) (st:Nat→τ) (R:Nat→Option β) (hb:∀k,k<n→(body (st k)=some (.inl (st (k+1)))∧R k=R (k+1))∨∃r,body (st k)=some (.inr r)∧R k=some r) (he:body (st n)=(R n).map .inr):loop body (st 0)=R 0:=by
 have key:∀m k,m+k=n→loop body (st k)=R k:=by
  intro m
  induction m with
  | zero=>
    intro k hk
    have:k=n:=by omega
    subst this
    rw [Zf4,he]
    cases R k<;>rfl
  | succ m ih=>
    intro k hk
    rw [Zf4]
    rcases hb k (by omega) with ⟨h1,h2⟩ | ⟨r,h1,h2⟩
    ·rw [h1,h2];exact ih (k+1) (by omega)
    ·rw [h1,h2]
 exact key n 0 rfl
theorem Zt7 {α:Type} (l m:List α) (body:Int→Option (Int ⊕ Bool)) (eqv:α→α→Bool) (hlm:l.length=m.length) (hl:l.length≤4000000000000000000)
  (hb:∀(k:Nat) x y,l[k]?=some x→m[k]?=some y→body k=some (if eqv x y then .inl ((k+1:Nat):Int) else .inr false)) (he:body l.length=some (.inr true)):loop body 0=some ((l.zip m).all fun p=>eqv p.1 p.2):=by
 rw [loop_any (l.zip m) body (fun p=>!eqv p.1 p.2) false true (by simp;omega) (fun k x hx=>by
  obtain ⟨x1,x2⟩:=x
  rw [List.getElem?_zip_eq_some] at hx
  rw [hb k x1 x2 hx.1 hx.2]
  cases eqv x1 x2<;>rfl) (by rw [show (l.zip m).length=l.length by simp [hlm]];exact he)]
 have:∀(q:List (α×α)),(if q.any (fun p=>!eqv p.1 p.2) then some false else some true)=some (q.all fun p=>eqv p.1 p.2):=by
  intro q
  induction q with
  | nil=>rfl
  | cons p q ih=>
    rw [List.any_cons,List.all_cons]
    cases h:eqv p.1 p.2 with
    | true=>exact ih
    | false=>rfl
 have h2:=this (l.zip m)
 rw [←h2]
 cases (l.zip m).any (fun p=>!eqv p.1 p.2)<;>rfl
theorem Zu7 {α:Type} [DecidableEq α]:∀(l m:List α),l.length=m.length→(l.zip m).all (fun p=>decide (p.1=p.2))=decide (l=m)
 | [],[],_=>rfl
 | [],_::_,h=>by simp at h
 | _::_,[],h=>by simp at h
 | x::l,y::m,h=>by
   have ih:=Zu7 l m (by simpa using h)
   simp only [List.zip_cons_cons,List.all_cons,ih]
   by_cases h1:x=y<;>simp [h1]
theorem len_ne {α:Type} [DecidableEq α] {l m:List α} (h:l.length≠m.length):decide (l=m)=false:=decide_eq_false (by rintro rfl;exact h rfl)
theorem Side_eqB (x y:Side):(decide (x.Peer=y.Peer)&&(decide (x.Epoch=y.Epoch)&&(decide (x.State=y.State)&&((x.Fork==y.Fork)&&((x.Dirty==y.Dirty)&&((x.Token==y.Token)&&((x.Bottle==y.Bottle)&&((x.Ask==y.Ask)&&true))))))))=decide (x=y):=by
 rw [Bool.eq_iff_iff];cases x;cases y;simp [Side.mk.injEq]
theorem Mail_eqB (x y:Mail):(decide (x.From=y.From)&&(decide (x.To=y.To)&&(decide (x.Msg.Kind=y.Msg.Kind)&&(decide (x.Msg.Epoch=y.Msg.Epoch)&&(decide (x.Msg.Num=y.Msg.Num)&&true)))))=decide (x=y):=by
 rw [Bool.eq_iff_iff]
 obtain ⟨x1,x2,x3,x4,x5⟩:=x
 obtain ⟨y1,y2,y3,y4,y5⟩:=y
 simp [Mail.mk.injEq,Msg.mk.injEq]
theorem Arc_eqB (x y:Arc):(decide (x.From=y.From)&&(decide (x.To=y.To)&&true))=decide (x=y):=by
 rw [Bool.eq_iff_iff];cases x;cases y;simp [Arc.mk.injEq]
theorem ln_dec {α β:Type} (f:α→List AV) (g:β→List AV) (l:List α) (m:List β):decide (ln f l=ln g m)=decide (l.length=m.length):=by
 rw [Z05,Z05,decide_eq_decide];omega
theorem s_EqualSide (l m:List Side) (hl:l.length≤1000000):Zs5 l m=some (decide (l=m)):=by
 simp only [Zs5,ln_dec]
 by_cases h:l.length=m.length
 ·simp only [h,decide_true,Bool.not_true,Zv5]
  rw [Zt7 l m _ (fun x y=>decide (x=y)) h (by omega) (fun k x y hx hy=>by
   simp only [Zr5,Z06 hx,Zu5,Zy5 hx,Zy5 hy,Option.bind_some,Side_eqB,Z36 hx (show l.length≤4000000000000000000 by omega),Zw5]
   cases decide (x=y)<;>rfl) (by simp only [Zr5,Z16,Zv5,Zq5,Option.map_some]),Zu7 l m h]
 ·simp [h,len_ne h]
def Zv7 (l:List Diner):Prop:=l.length≤5000∧∀d∈l,d.Sides.length≤5000
def side0:Side:=⟨0,0,0,false,false,false,false,false⟩
def Zw7 (d:Diner) (p:Int):Option Side:=d.Sides.find? fun x=>decide (x.Peer=p)
def sideP (o:Option Side):Side×Bool:=match o with | some x=>(x,true) | none=>(side0,false)
theorem Zx7 {α:Type} (q:α→Bool):∀l:List α,match l.findIdx? q with
  | some i=>∃x,l[i]?=some x∧l.find? q=some x
  | none=>l.find? q=none
 | []=>rfl
 | x::l=>by
   have ih:=Zx7 q l
   rw [List.findIdx?_cons,List.find?_cons]
   cases h:q x with
   | true=>exact ⟨x,rfl,by simp⟩
   | false=>
     simp only [Bool.false_eq_true,if_false]
     cases hf:l.findIdx? q with
     | none=>rw [hf] at ih;simpa using ih
     | some i=>rw [hf] at ih;obtain ⟨y,h1,h2⟩:=ih;exact ⟨y,by simpa using h1,by simpa using h2⟩
theorem Zy7 (d:Diner) (p:Int) (hl:d.Sides.length≤1000000):Zh7 d p=some (sideP (Zw7 d p)):=by
 simp only [Zh7]
 rw [Z87 d.Sides (fun z=>Zf7 z p) (fun x=>decide (x.Peer=p)) (by omega) (fun x _=>rfl),Option.bind_some,plc_neg]
 have:=Zx7 (fun x:Side=>decide (x.Peer=p)) d.Sides
 unfold Zw7
 cases h:d.Sides.findIdx? (fun x=>decide (x.Peer=p)) with
 | none=>rw [h] at this;simp only at this;rw [this];rfl
 | some i=>
   rw [h] at this
   obtain ⟨x,h1,h2⟩:=this
   rw [h2]
   simp only [Option.isNone_some,Zv5,plc,Zy5 h1,Option.bind_some,sideP]
def fewB (s:Scene):Bool:=decide (s.Diners.length≤24)&&(decide (s.Mail.length≤40)&&s.Diners.all fun d=>decide (d.Sides.length≤24))
theorem fewB_iff {s:Scene} (h:fewB s=true):s.Diners.length≤24∧s.Mail.length≤40∧∀d∈s.Diners,d.Sides.length≤24:=by
 simp only [fewB,Bool.and_eq_true,decide_eq_true_eq,List.all_eq_true] at h
 exact h
theorem Zz7 {s:Scene} (h:fewB s=true):Zv7 s.Diners:=by
 obtain ⟨h1,_,h3⟩:=fewB_iff h
 exact ⟨by omega,fun d hd=>by have:=h3 d hd;omega⟩
theorem s_Own03 (g:Graph) (hl:g.Edges.length≤1000000):Zj7 g=some g:=by
 simp only [Zj7]
 rw [Zz5 _ _ (by omega) (by simp;omega)]
 rfl
set_option maxRecDepth 100000
set_option maxHeartbeats 4000000
@[go_sem] def e44_L1:EC:=.seq (.reg [(Qa 34 (.bin .lss (.t 33) (.t 32)))]) (.seq (.ite (.t 34) (.skip) (.exit 2)) (.seq (.blk 3 (.seq (.reg [(Qm 35 33),(Qk 36 8 31 33),(Qe 37 8 36),(Qa 8 (.alloc 65 [.iv 0,.iv 0,.iv 0,.ff,.ff,.ff,.ff,.ff])),(Qm 7 35),(Qs 8 8 37)]) (.seq (.seq (.drw [(Qf 38 0 8),(Ql 39 38),(Qa 40 (.bin .lss (.t 39) (.c (.iv 0)))),(Qm 41 40),(Qh 42 41 false 0 8),(Qn 43 41 false 42),(Qg 44 41 false (.mv (.t 0))),(Qg 45 41 false (.len (.t 44))),(Qg 46 41 false (.bin .geq (.t 43) (.t 45))),(Qq 47 41 46),(Qm 48 47),(Qh 49 48 false 0 8),(Qn 50 48 false 49),(Qg 51 48 false (.mv (.t 5))),(Qg 52 48 false (.bin .eql (.t 50) (.t 51))),(Qq 53 48 52),(Qm 54 53),(Qg 55 54 false (.mv (.t 7))),(Qg 56 54 false (.bin .gtr (.t 55) (.c (.iv 0)))),(Qg 57 54 false (.mv (.t 56))),(Qh 58 57 true 2 6),(Qn 59 57 true 58),(Qg 60 57 true (.mv (.t 7))),(Qg 61 57 true (.bin .sub (.t 60) (.c (.iv 1)))),(Qg 62 57 true (.idx 8 (.t 59) (.t 61))),(Qh 63 57 true 0 62),(Qn 64 57 true 63),(Qh 65 57 true 0 8),(Qn 66 57 true 65),(Qg 67 57 true (.bin .geq (.t 64) (.t 66))),(Qg 68 54 false (.pick (.t 57) (.t 67) (.c .ff))),(Qq 69 54 68)] [[],[0],[1],[2],[3],[4,3],[3],[6,3],[5,7,3],[3,8],[9,3],[10],[11,10],[10],[12,13,10],[10,14],[15,10],[16],[17,16],[18,16,16],[19],[20,19],[19],[22,19],[21,23,19],[24,19],[25,19],[19],[27,19],[26,28,19],[19,29,16],[16,30]] [[1],[0,2],[1,3],[2,4,5,6,7,8,9],[3,5],[3,4,8],[3,7],[3,6,8],[3,5,7,9],[3,8,10],[9,11,12,13,14,15],[10,12],[10,11,14],[10,14],[10,12,13,15],[10,14,16],[15,17,18,19,30,31],[16,18],[16,17,19],[16,18,20,21,22,23,24,25,26,27,28,29,30],[19,21],[19,20,24],[19,23],[19,22,24],[19,21,23,25],[19,24,26],[19,25,29],[19,28],[19,27,29],[19,26,28,30],[16,19,29,31],[16,30]]) (.ite (.t 69) (.seq (.reg [(Qa 70 (.build [.iv 0,.nl] [])),(Qs 2 2 70),(Qa 3 (.mv (.c .ff)))]) (.ret)) (.skip))) (.seq (.seq (.reg [(Qm 72 0),(Qf 73 0 8),(Ql 74 73),(Qk 75 3 72 74),(Qe 76 3 75),(Qm 77 5),(Qa 78 (.call 31 [(.t 76),(.t 77)])),(Qm 71 78),(Qa 79 (.ext (.t 71) 0)),(Qa 80 (.ext (.t 71) 1)),(Qa 9 (.alloc 65 [.iv 0,.iv 0,.iv 0,.ff,.ff,.ff,.ff,.ff])),(Qs 8 9 79),(Qm 10 80)]) (.seq (.reg [(Qm 81 10),(Qa 82 (.not (.t 81)))]) (.ite (.t 82) (.seq (.reg [(Qa 83 (.build [.iv 0,.nl] [])),(Qs 2 2 83),(Qa 3 (.mv (.c .ff)))]) (.ret)) (.skip)))) (.seq (.reg [(Qm 84 5),(Qf 85 0 8),(Ql 86 85),(Qa 87 (.bin .lss (.t 84) (.t 86)))]) (.ite (.t 87) (.reg [(Qf 88 1 4),(Ql 89 88),(Qm 90 5),(Qf 91 0 8),(Ql 92 91),(Qa 93 (.build [.iv 0,.iv 0] [(0,1,(.t 90)),(1,1,(.t 92))])),(Qa 94 (.bsl 29 2 1 [.iv 0,.iv 0] [(0,(.t 93))])),(Qa 95 (.app 29 2 16 (.t 89) (.t 94))),(Qf 96 1 4),(Qs 1 96 95)]) (.skip))))))) (.reg [(Qv 97 33 1),(Qm 33 97)])))
@[go_sem] def e44_L0:EC:=.seq (.reg [(Qa 21 (.bin .lss (.t 20) (.t 19)))]) (.seq (.ite (.t 21) (.skip) (.exit 0)) (.seq (.blk 1 (.seq (.reg [(Qm 22 20),(Qk 23 3 18 20),(Qe 24 3 23),(Qa 6 (.alloc 70 [.iv 0,.iv 0,.nl])),(Qm 5 22),(Qs 3 6 24)]) (.seq (.seq (.reg [(Qf 25 0 6),(Ql 26 25),(Qm 27 5),(Qa 28 (.bin .neq (.t 26) (.t 27)))]) (.ite (.t 28) (.seq (.reg [(Qa 29 (.build [.iv 0,.nl] [])),(Qs 2 2 29),(Qa 3 (.mv (.c .ff)))]) (.ret)) (.skip))) (.seq (.reg [(Qf 30 2 6),(Ql 31 30),(Qa 32 (.len (.t 31))),(Qi 33 0)]) (.blk 2 (.loop e44_L1)))))) (.reg [(Qv 98 20 1),(Qm 20 98)])))
@[go_sem] def e44:EC:=.seq (.reg [(Qa 2 (.alloc 48 [.iv 0,.nl])),(Qa 3 (.mv (.c .ff)))]) (.seq (.seq (.reg [(Qm 11 0),(Qa 12 (.len (.t 11))),(Qa 13 (.bin .gtr (.t 12) (.c (.iv 64))))]) (.ite (.t 13) (.seq (.reg [(Qa 14 (.build [.iv 0,.nl] [])),(Qs 2 2 14),(Qa 3 (.mv (.c .ff)))]) (.ret)) (.skip))) (.seq (.reg [(Qm 15 0),(Qa 16 (.len (.t 15))),(Qa 17 (.build [.iv 0,.nl] [(0,1,(.t 16))])),(Qa 4 (.alloc 48 [.iv 0,.nl])),(Qs 2 4 17)]) (.seq (.seq (.reg [(Qm 18 0),(Qa 19 (.len (.t 18))),(Qi 20 0)]) (.blk 0 (.loop e44_L0))) (.seq (.seq (.reg [(Qe 99 2 4),(Qa 100 (.call 80 [(.t 99)])),(Qa 101 (.bin .neq (.t 100) (.c (.iv 0))))]) (.ite (.t 101) (.seq (.reg [(Qa 102 (.build [.iv 0,.nl] [])),(Qs 2 2 102),(Qa 3 (.mv (.c .ff)))]) (.ret)) (.skip))) (.seq (.reg [(Qe 103 2 4),(Qs 2 2 103),(Qa 3 (.mv (.c .tt)))]) (.ret))))))
theorem ok44:FnOK Tryz.prog 44 Tryz.f44 e44 [.c 2 (some 2),.t 3] 1 103:=⟨by kernel_rfl,⟨_,rfl,by kernel_rfl⟩,by kernel_rfl,by kernel_rfl⟩
noncomputable def Z08 (x1:(List Diner)):(List Edge)→Option (Graph×Bool)
| x78=>
 (Zy6 ((Graph.mk (ln Diner.row x1) x78))).bind fun x79=>
 ifb (!decide (x79=0)) (
 some ((Graph.mk 0 (([]:(List Edge)))),false)) (
 some ((Graph.mk (ln Diner.row x1) x78),true))
noncomputable def Z18 (x35:Int):(List Edge)→Option ((Int×(List Edge)) ⊕ (Graph×Bool))
| x69=>
 some (.inl (wr (x35+1),x69))
noncomputable def Z28 (x47:Int):(List Edge)→Option ((Int×(List Edge)) ⊕ ((Int×(List Edge)) ⊕ (Graph×Bool)))
| x55=>
 some (.inl (wr (x47+1),x55))
noncomputable def Z38 (x1:(List Diner)) (x35:Int) (x47:Int) (x48:(List Edge)) (x49:Side):Bool→Option ((Int×(List Edge)) ⊕ ((Int×(List Edge)) ⊕ (Graph×Bool)))
| x51=>
 ifb x51 (
 Option.map Sum.inr (Option.map Sum.inr (some ((Graph.mk 0 (([]:(List Edge)))),false)))) (
 (at_ x1 x49.Peer).bind fun x52=>
 (Zh7 x52 x35).bind fun x53=>
 ifb (!x53.2) (
 Option.map Sum.inr (Option.map Sum.inr (some ((Graph.mk 0 (([]:(List Edge)))),false)))) (
 ifb (decide (x35<x49.Peer)) (
 (Za4 16 x48 ([(Edge.mk x35 x49.Peer)])).bind fun x54=>
 (Z28 x47) x54) (
 (Z28 x47) x48)))
noncomputable def Z48 (x1:(List Diner)) (x35:Int) (x37:Diner):(Int×(List Edge))→Option ((Int×(List Edge)) ⊕ ((Int×(List Edge)) ⊕ (Graph×Bool)))
| (x47,x48)=>
 ifb (decide (x47<(ln Side.row x37.Sides))) (
 (at_ x37.Sides x47).bind fun x49=>
 ifb (decide (x49.Peer<0)) (
 (Z38 x1 x35 x47 x48 x49) true) (
 ifb (decide ((ln Diner.row x1)≤x49.Peer)) (
 (Z38 x1 x35 x47 x48 x49) true) (
 ifb (decide (x49.Peer=x35)) (
 (Z38 x1 x35 x47 x48 x49) true) (
 ifb (decide (0<x47)) (
 (at_ x37.Sides (wr (x47-1))).bind fun x50=>
 (Z38 x1 x35 x47 x48 x49) (decide (x49.Peer≤x50.Peer))) (
 (Z38 x1 x35 x47 x48 x49) false))))) (
 Option.map Sum.inr ((Z18 x35) x48))
noncomputable def Z58 (x1:(List Diner)):(Int×(List Edge))→Option ((Int×(List Edge)) ⊕ (Graph×Bool))
| (x35,x36)=>
 ifb (decide (x35<(ln Diner.row x1))) (
 (at_ x1 x35).bind fun x37=>
 ifb (!decide (x37.ID=x35)) (
 Option.map Sum.inr (some ((Graph.mk 0 (([]:(List Edge)))),false))) (
 loop (Z48 x1 x35 x37) (0,x36))) (
 Option.map Sum.inr ((Z08 x1) x36))
noncomputable def Z68 (x1:(List Diner)):Option (Graph×Bool):=
 ifb (decide (64<(ln Diner.row x1))) (
 some ((Graph.mk 0 (([]:(List Edge)))),false)) (
 loop (Z58 x1) (0,([]:List Edge)))
theorem k_place_Graph (x1:(List Diner)) (r:(Graph×Bool)) (h:Z68 x1=some r):Zu2 Tryz.prog 44 [.sl 3 (List.map Diner.row x1)] (.tup [.agg (Graph.row r.1),.bv r.2]):=by
 refine Zy2 ok44 rfl rfl fun w0 H0=>?_
 rw [Z68] at h
 refine Zo2 12 ?_;dsimp only [go_sem];refine An ?_;refine Zj4 h rfl (fun _ h=>?_) fun _ h=>?_
 ·refine Zo2 6 ?_;dsimp only [go_sem];refine An ?_;exact Zr4 (res:=fun (r:(Graph×Bool))=>.tup [.agg (Graph.row r.1),.bv r.2]) ok44 h
 ·refine Zo2 16 ?_;dsimp only [go_sem];refine An ?_;refine Zh4 (fun (x78:(List Edge))=>(⟨(.any :: .any :: .ptr 0 0 :: .any :: .ptr 1 0::an 99 []),[some ⟨48,[.iv 0,.nl]⟩,some ⟨48,[.iv (ln Diner.row x1),.osl 0]⟩],[some ⟨29,2,List.map Edge.row x78⟩]⟩:St)) (Z08 x1) r ?_ fun J1=>?_
  ·intro x78 h;rw [Z08] at h;(try dsimp only);refine Zo2 4 ?_;dsimp only [go_sem];refine An ?_;obtain ⟨x79,ex79,h⟩:=Bs h;refine Zv4 trivial ((Zu4.refl _).slice 0 rfl) (Zz6 ((Graph.mk (ln Diner.row x1) x78)) _ ex79) (h:=?_);refine Zo2 2 ?_;dsimp only [go_sem];refine An ?_;refine Zj4 h rfl (fun _ h=>?_) fun _ h=>?_
   ·refine Zo2 6 ?_;dsimp only [go_sem];refine An ?_;exact Zr4 (res:=fun (r:(Graph×Bool))=>.tup [.agg (Graph.row r.1),.bv r.2]) ok44 h
   ·refine Zo2 7 ?_;dsimp only [go_sem];refine An ?_;refine Zb3 0 rfl ?_;dsimp only [go_sem];exact Zr4 (res:=fun (r:(Graph×Bool))=>.tup [.agg (Graph.row r.1),.bv r.2]) ok44 h
  ·refine Zo2 1 ?_;dsimp only [go_sem];refine An ?_;refine V_ownB 1 1 29 2 rfl rfl rfl ?_;dsimp only [go_sem];refine Zi4 h (fun ((x35,x36):(Int×(List Edge)))=>(⟨(.sl 3 (List.map Diner.row x1) :: .any :: .ptr 0 0 :: .any :: .ptr 1 0::an 13 (.sl 3 (List.map Diner.row x1) :: .iv (ln Diner.row x1) :: .iv x35::an 83 [])),[some ⟨48,[.iv 0,.nl]⟩,some ⟨48,[.iv (ln Diner.row x1),.osl 0]⟩],[some ⟨29,2,List.map Edge.row x36⟩]⟩:St)) (by simp [go_sem]) (by rintro ⟨x35,x36⟩;first | rfl | simp [go_sem]) ?_;rintro n1 ⟨x35,x36⟩ y1 h hin1 hout1;rw [Z58] at h
   (try dsimp only);refine Zo2 5 ?_;dsimp only [go_sem];refine An ?_;refine Zj4 h rfl (fun _ h=>?_) fun _ h=>?_
   ·refine Zo2 6 ?_;dsimp only [go_sem];refine An ?_;obtain ⟨x37,ex37,h⟩:=Bs h;refine Zm4 Diner.row ex37 trivial rfl rfl rfl ?_;refine Zo2 13 ?_;dsimp only [go_sem];refine An ?_;refine Zj4 h rfl (fun _ h=>?_) fun _ h=>?_
    ·refine Zo2 6 ?_;dsimp only [go_sem];refine An ?_;exact Zr4 (res:=fun (r:(Graph×Bool))=>.tup [.agg (Graph.row r.1),.bv r.2]) ok44 (Zg4 h hout1)
    ·refine Zo2 8 ?_;dsimp only [go_sem];refine An ?_;refine Zh4 (fun (x69:(List Edge))=>(⟨(.sl 3 (List.map Diner.row x1) :: .any :: .ptr 0 0 :: .any :: .ptr 1 0::an 13 (.sl 3 (List.map Diner.row x1) :: .iv (ln Diner.row x1) :: .iv x35::an 83 [])),[some ⟨48,[.iv 0,.nl]⟩,some ⟨48,[.iv (ln Diner.row x1),.osl 0]⟩],[some ⟨29,2,List.map Edge.row x69⟩]⟩:St)) (Z18 x35) y1 ?_ fun J2=>?_
     ·intro x69 h;rw [Z18] at h;(try dsimp only);refine Zo2 5 ?_;dsimp only [go_sem];refine An ?_;exact Zs4 h hin1
     ·refine Zo2 1 ?_;dsimp only [go_sem];refine An ?_
      refine Zi4 h (fun ((x47,x48):(Int×(List Edge)))=>(⟨(.sl 3 (List.map Diner.row x1) :: .any :: .ptr 0 0 :: .any :: .ptr 1 0 :: .iv x35 :: .ptr 2 0::an 11 (.sl 3 (List.map Diner.row x1) :: .iv (ln Diner.row x1) :: .iv x35::an 10 (.sl 8 (List.map Side.row x37.Sides) :: .iv (ln Side.row x37.Sides) :: .iv x47::an 70 []))),[some ⟨48,[.iv 0,.nl]⟩,some ⟨48,[.iv (ln Diner.row x1),.osl 0]⟩,some ⟨70,[.iv x37.ID,.iv x37.Phase,.sl 8 (List.map Side.row x37.Sides)]⟩],[some ⟨29,2,List.map Edge.row x48⟩]⟩:St)) (by simp [go_sem]) (by rintro ⟨x47,x48⟩;first | rfl | simp [go_sem]) ?_
      rintro n2 ⟨x47,x48⟩ y2 h hin2 hout2;rw [Z48] at h;(try dsimp only);refine Zo2 5 ?_;dsimp only [go_sem];refine An ?_;refine Zj4 h rfl (fun _ h=>?_) fun _ h=>?_
      ·refine Zo2 6 ?_;dsimp only [go_sem];refine An ?_;obtain ⟨x49,ex49,h⟩:=Bs h;refine Zm4 Side.row ex49 trivial rfl rfl rfl ?_;refine Zo2 7 ?_;dsimp only [go_sem];refine An ?_
       refine Zh4 (fun (x51:Bool)=>(⟨(.sl 3 (List.map Diner.row x1) :: .any :: .ptr 0 0 :: .any :: .ptr 1 0 :: .iv x35 :: .ptr 2 0 :: .any :: .ptr 3 0::an 9 (.sl 3 (List.map Diner.row x1) :: .iv (ln Diner.row x1) :: .iv x35::an 10 (.sl 8 (List.map Side.row x37.Sides) :: .iv (ln Side.row x37.Sides) :: .iv x47::an 35 (.bv x51::an 34 [])))),[some ⟨48,[.iv 0,.nl]⟩,some ⟨48,[.iv (ln Diner.row x1),.osl 0]⟩,some ⟨70,[.iv x37.ID,.iv x37.Phase,.sl 8 (List.map Side.row x37.Sides)]⟩,some ⟨65,[.iv x49.Peer,.iv x49.Epoch,.iv x49.State,.bv x49.Fork,.bv x49.Dirty,.bv x49.Token,.bv x49.Bottle,.bv x49.Ask]⟩],[some ⟨29,2,List.map Edge.row x48⟩]⟩:St)) (Z38 x1 x35 x47 x48 x49) y2 ?_ fun J3=>?_
       ·intro x51 h;rw [Z38] at h;(try dsimp only);refine Zj4 h rfl (fun _ h=>?_) fun _ h=>?_
        ·refine Zo2 6 ?_;dsimp only [go_sem];refine An ?_;exact Zr4 (res:=fun (r:(Graph×Bool))=>.tup [.agg (Graph.row r.1),.bv r.2]) ok44 (Zg4 (Zg4 h hout2) hout1)
        ·refine Zo2 7 ?_;dsimp only [go_sem];refine An ?_;obtain ⟨x52,ex52,h⟩:=Bs h;refine Zm4 Diner.row ex52 trivial rfl rfl rfl ?_;refine Zo2 2 ?_;dsimp only [go_sem];refine An ?_;obtain ⟨x53,ex53,h⟩:=Bs h;refine Z33 trivial (Zi7 x52 x35 _ ex53) (h:=?_);refine Zo2 12 ?_;dsimp only [go_sem];refine An ?_;refine Zj4 h rfl (fun _ h=>?_) fun _ h=>?_
         ·refine Zo2 6 ?_;dsimp only [go_sem];refine An ?_;exact Zr4 (res:=fun (r:(Graph×Bool))=>.tup [.agg (Graph.row r.1),.bv r.2]) ok44 (Zg4 (Zg4 h hout2) hout1)
         ·refine Zo2 8 ?_;dsimp only [go_sem];refine An ?_
          refine Zh4 (fun (x55:(List Edge))=>(⟨(.sl 3 (List.map Diner.row x1) :: .any :: .ptr 0 0 :: .any :: .ptr 1 0 :: .iv x35 :: .ptr 2 0::an 11 (.sl 3 (List.map Diner.row x1) :: .iv (ln Diner.row x1) :: .iv x35::an 10 (.sl 8 (List.map Side.row x37.Sides) :: .iv (ln Side.row x37.Sides) :: .iv x47::an 70 []))),[some ⟨48,[.iv 0,.nl]⟩,some ⟨48,[.iv (ln Diner.row x1),.osl 0]⟩,some ⟨70,[.iv x37.ID,.iv x37.Phase,.sl 8 (List.map Side.row x37.Sides)]⟩],[some ⟨29,2,List.map Edge.row x55⟩]⟩:St)) (Z28 x47) y2 ?_ fun J4=>?_
          ·intro x55 h;rw [Z28] at h;(try dsimp only);refine Zo2 5 ?_;dsimp only [go_sem];refine An ?_;exact Zs4 h hin2
          ·refine Zj4 h rfl (fun _ h=>?_) fun _ h=>?_
           ·refine Zo2 8 ?_;dsimp only [go_sem];refine An ?_;obtain ⟨x54,ex54,h⟩:=Bs h;refine Zo4 Edge.row ex54 trivial rfl rfl rfl ?_;refine Zo2 3 ?_;dsimp only [go_sem];refine An ?_;refine Z54 2 0 rfl rfl rfl ?_;dsimp only [go_sem];exact Zt4 J4 (s:=x54) h
           ·refine Zo2 1 ?_;dsimp only [go_sem];refine An ?_;exact Zt4 J4 (s:=x48) h
       ·refine Zj3 (by kernel_rfl) fun all hall hs hnap haf=>?_;dsimp only [go_sem];refine Z85 hall hs haf hnap 4 28 [4,28] [(38,[.ptr 3 0,.iv x49.Peer,.bv (decide (x49.Peer<0)),.bv (decide (x49.Peer<0))])] (by kernel_rfl) ?_;dsimp only [go_sem];refine Z15 41 h rfl (fun _ h=>?_) fun _ h=>?_
        ·dsimp only [go_sem];refine Z85 hall hs haf hnap 28 0 [32] [(42,[.un,.un,.un,.un,.un,.tt,.tt,.un,.un,.un,.un,.tt,.tt,.un,.un,.un,.un,.un,.un,.un,.un,.un,.un,.un,.un,.un,.un,.tt])] (by kernel_rfl) ?_;dsimp only [go_sem];refine Zt3 rfl ?_ _;exact Zt4 J3 (s:=true) h
        ·dsimp only [go_sem];refine Z85 hall hs haf hnap 7 21 [11,21] [(42,[.ptr 3 0,.iv x49.Peer,.sl 3 (List.map Diner.row x1),.iv (ln Diner.row x1),.bv (decide ((ln Diner.row x1)≤x49.Peer)),.bv (decide ((ln Diner.row x1)≤x49.Peer)),.bv (decide ((ln Diner.row x1)≤x49.Peer))])] (by kernel_rfl) ?_;dsimp only [go_sem];refine Z15 48 h rfl (fun _ h=>?_) fun _ h=>?_
         ·dsimp only [go_sem];refine Z85 hall hs haf hnap 21 0 [32] [(49,[.un,.un,.un,.un,.tt,.tt,.un,.un,.un,.un,.un,.un,.un,.un,.un,.un,.un,.un,.un,.un,.tt])] (by kernel_rfl) ?_;dsimp only [go_sem];refine Zt3 rfl ?_ _;exact Zt4 J3 (s:=true) h
         ·dsimp only [go_sem];refine Z85 hall hs haf hnap 6 15 [17,15] [(49,[.ptr 3 0,.iv x49.Peer,.iv x35,.bv (decide (x49.Peer=x35)),.bv (decide (x49.Peer=x35)),.bv (decide (x49.Peer=x35))])] (by kernel_rfl) ?_;dsimp only [go_sem];refine Z15 54 h rfl (fun _ h=>?_) fun _ h=>?_
          ·dsimp only [go_sem];refine Z85 hall hs haf hnap 15 0 [32] [(55,[.un,.un,.un,.un,.un,.un,.un,.un,.un,.un,.un,.un,.un,.un,.tt])] (by kernel_rfl) ?_;dsimp only [go_sem];refine Zt3 rfl ?_ _;exact Zt4 J3 (s:=true) h
          ·dsimp only [go_sem];refine Z85 hall hs haf hnap 3 12 [20,12] [(55,[.iv x47,.bv (decide (0<x47)),.bv (decide (0<x47))])] (by kernel_rfl) ?_;dsimp only [go_sem];refine Z15 57 h rfl (fun _ h=>?_) fun _ h=>?_
           ·dsimp only [go_sem];refine Z85 hall hs haf hnap 6 6 [24,3,2,3] [(58,[.ptr 2 2,.sl 8 (List.map Side.row x37.Sides),.iv x47,.iv (wr (x47-1))]),(3,[.ptr 3 0,.iv x49.Peer])] (by kernel_rfl) ?_;dsimp only [go_sem];obtain ⟨x50,ex50,h⟩:=Bs h;refine Zn4 hall hs haf hnap 24 Side.row ex50 rfl rfl trivial rfl rfl rfl rfl ?_
            refine Z85 hall hs haf hnap 5 0 [32] [(63,[.elt [.iv x50.Peer,.iv x50.Epoch,.iv x50.State,.bv x50.Fork,.bv x50.Dirty,.bv x50.Token,.bv x50.Bottle,.bv x50.Ask] 0,.iv x50.Peer]),(2,[.bv (decide (x49.Peer≤x50.Peer)),.bv (decide (x49.Peer≤x50.Peer)),.bv (decide (x49.Peer≤x50.Peer))])] (by kernel_rfl) ?_;dsimp only [go_sem];refine Zt3 rfl ?_ _;exact Zt4 J3 (s:=decide (x49.Peer≤x50.Peer)) h
           ·dsimp only [go_sem];refine Z85 hall hs haf hnap 12 0 [32] [(58,[.un,.un,.un,.un,.un,.un,.un,.un,.un,.un,.ff,.ff])] (by kernel_rfl) ?_;dsimp only [go_sem];refine Zt3 rfl ?_ _;exact Zt4 J3 (s:=false) h
      ·refine Zo2 1 ?_;dsimp only [go_sem];refine An ?_;exact Zt4 J2 (s:=x48) (Zg4 h hout2)
   ·refine Zo2 1 ?_;dsimp only [go_sem];refine An ?_;exact Zt4 J1 (s:=x36) (Zg4 h hout1)
def Z78 (l:List Diner) (i:Nat) (x:Side):Bool:=
 decide (0≤x.Peer)&&(decide (x.Peer<l.length)&&(!decide (x.Peer=i)&&(match l[x.Peer.toNat]? with | some e=>(Zw7 e i).isSome | none=>false)))
def lastP (pre:List Side):Option Int:=pre.getLast?.map (·.Peer)
def riseB (p:Option Int) (x:Side):Bool:=match p with | none=>true | some q=>decide (q<x.Peer)
def Z88 (l:List Diner) (i:Nat):Option Int→List Side→Bool
 | _,[]=>true
 | p,x::r=>riseB p x&&(Z78 l i x&&Z88 l i (some x.Peer) r)
def Z98 (i:Nat) (xs:List Side):List Edge:=(xs.filter fun x=>decide ((i:Int)<x.Peer)).map fun x=>⟨i,x.Peer⟩
def Za8 (l:List Diner):Nat→List Diner→Bool
 | _,[]=>true
 | i,d::r=>decide (d.ID=i)&&(Z88 l i none d.Sides&&Za8 l (i+1) r)
def Zb8:Nat→List Diner→List Edge
 | _,[]=>[]
 | i,d::r=>Z98 i d.Sides++Zb8 (i+1) r
def Zc8:Graph:=⟨0,[]⟩
def Zd8 (l:List Diner):Graph×Bool:=if Za8 l 0 l&&okG ⟨l.length,Zb8 0 l⟩ then (⟨l.length,Zb8 0 l⟩,true) else (Zc8,false)
theorem Ze8 (pre:List Side) (x:Side):lastP (pre++[x])=some x.Peer:=by simp [lastP]
theorem edgesD_snoc (i:Nat) (pre:List Side) (x:Side):Z98 i (pre++[x])=if decide ((i:Int)<x.Peer) then Z98 i pre++[⟨i,x.Peer⟩] else Z98 i pre:=by
 unfold Z98
 by_cases h:(i:Int)<x.Peer<;>simp [h]
theorem Zf8 (i:Nat) (xs:List Side):(Z98 i xs).length≤xs.length:=by simp [Z98,List.length_filter_le]
theorem Zg8:∀(a b:List Diner) (i:Nat),Zb8 i (a++b)=Zb8 i a++Zb8 (i+a.length) b
 | [],b,i=>by simp [Zb8]
 | d::a,b,i=>by simp [Zb8,Zg8 a b (i+1),Nat.add_comm,Nat.add_left_comm]
theorem Zh8:∀(l:List Diner) (i:Nat),(∀d∈l,d.Sides.length≤5000)→(Zb8 i l).length≤l.length*5000
 | [],_,_=>by simp [Zb8]
 | d::l,i,h=>by
   have h1:=Zh8 l (i+1) fun e he=>h e (by simp [he])
   have h2:=h d (by simp)
   have h3:=Zf8 i d.Sides
   simp only [Zb8,List.length_append,List.length_cons]
   omega
theorem prev_step {γ:Type} {l pre post:List Side} {x:Side} (h:l=pre++x::post) (hl:l.length≤5000) (A:Bool→Option γ):
  ifb (decide (0<(pre.length:Int))) ((at_ l (wr ((pre.length:Int)-1))).bind fun y=>A (decide (x.Peer≤y.Peer))) (A false)=A (!riseB (lastP pre) x):=by
 rcases List.eq_nil_or_concat pre with rfl | ⟨q,y,rfl⟩
 ·simp [lastP,riseB]
 ·rw [List.concat_eq_append] at h ⊢
  have hy:l[q.length]?=some y:=by subst h;simp
  have hm:=Zo7 h
  have e:decide (0<(((q++[y]).length:Nat):Int))=true:=decide_eq_true (by simp only [Zr7];omega)
  rw [e,Zu5,Zr7,wr_pred (by simp at hm;omega),Zy5 hy,Option.bind_some,Ze8,riseB,←decide_not]
  congr 2
  simp
theorem inner_len {l:List Diner} {pre post:List Diner} {d:Diner} (hl:Zv7 l) (h:l=pre++d::post):(Zb8 0 pre).length≤25000000:=by
 have h1:=Zh8 pre 0 fun e he=>hl.2 e (by subst h;simp [he])
 have h2:=Zo7 h
 have:=hl.1
 omega
theorem s_Graph2 (l:List Diner) (hl:Zv7 l) (i:Nat) (d:Diner) (hd:d∈l) (hi:i≤5000) (E:List Edge) (hE:E.length≤25000000):
  loop (Z48 l i d) (0,E)=some (if Z88 l i none d.Sides then .inl (((i+1:Nat):Int),E++Z98 i d.Sides) else .inr (Zc8,false)):=by
 have hdl:=hl.2 d hd
 have key:=(Zl7 d.Sides (Z48 l i d) (fun pre=>((pre.length:Int),E++Z98 i pre)) (fun pre post=>some (if Z88 l i (lastP pre) post then .inl (((i+1:Nat):Int),E++Z98 i (pre++post)) else .inr (Zc8,false))) ?_ ?_)
 ·rw [show Z98 i []=[] from rfl,List.append_nil] at key;exact key
 ·intro pre x post h
  have hx:=Zn7 h
  have hm:=Zo7 h
  dsimp only [Z48]
  rw [Z06 hx,Zu5,Zy5 hx,Option.bind_some,prev_step h hdl (Z38 l i pre.length (E++Z98 i pre) x)]
  have bad:Z38 l (i:Int) pre.length (E++Z98 i pre) x true=some (.inr (.inr (Zc8,false))):=rfl
  by_cases h1:x.Peer<0
  ·right
   refine ⟨_,by rw [decide_eq_true h1,Zu5,bad],?_⟩
   have:Z78 l i x=false:=by simp [Z78];omega
   simp [Z88,this]
  by_cases h2:(l.length:Int)≤x.Peer
  ·right
   refine ⟨_,by rw [decide_eq_false h1,Zv5,Z05,decide_eq_true h2,Zu5,bad],?_⟩
   have:Z78 l i x=false:=by simp [Z78];omega
   simp [Z88,this]
  by_cases h3:x.Peer=i
  ·right
   refine ⟨_,by rw [decide_eq_false h1,Zv5,Z05,decide_eq_false h2,Zv5,decide_eq_true h3,Zu5,bad],?_⟩
   have:Z78 l i x=false:=by simp [Z78,h3]
   simp [Z88,this]
  rw [decide_eq_false h1,Zv5,Z05,decide_eq_false h2,Zv5,decide_eq_false h3,Zv5]
  cases h4:riseB (lastP pre) x with
  | false=>
    right
    exact ⟨_,by rw [Bool.not_false,bad],by simp [Z88,h4]⟩
  | true=>
    obtain ⟨e,he1,he2⟩:=at_lt (l:=l) (i:=x.Peer) (by omega) (by omega)
    have hes:=hl.2 e (List.mem_iff_getElem?.2 ⟨_,he2⟩)
    have hsb:Z78 l i x=(Zw7 e i).isSome:=by
     rw [Z78,decide_eq_true (show 0≤x.Peer by omega),decide_eq_true (show x.Peer<l.length by omega),decide_eq_false h3,he2];simp
    rw [Bool.not_true]
    dsimp only [Z38]
    rw [Zv5,he1,Option.bind_some,Zy7 e i (by omega),Option.bind_some]
    cases ho:Zw7 e i with
    | none=>
      right
      exact ⟨(.inr (Zc8,false)),rfl,by rw [ho] at hsb;simp [Z88,hsb]⟩
    | some y=>
      left
      rw [ho] at hsb
      refine ⟨?_,by simp [Z88,hsb,h4,Ze8]⟩
      simp only [sideP,Bool.not_true,Zv5,Z28]
      rw [edgesD_snoc,Zr7,Z26 (by omega)]
      have:=Zf8 i pre
      by_cases h5:(i:Int)<x.Peer
      ·rw [decide_eq_true h5,Zu5,Zz5 _ _ (by omega) (by simp;omega),Option.bind_some]
       simp
      ·rw [decide_eq_false h5,Zv5];simp
 ·dsimp only [Z48]
  rw [Z16,Zv5,Z18,Z26 (by omega)]
  simp [Z88]
theorem s_Graph (l:List Diner) (hl:Zv7 l):Z68 l=some (Zd8 l):=by
 unfold Z68
 by_cases h64:64<l.length
 ·have:okG ⟨l.length,Zb8 0 l⟩=false:=by simp [okG];omega
  rw [Z05,decide_eq_true (by omega),Zu5]
  simp [Zd8,this,Zc8]
 rw [Z05,decide_eq_false (by omega),Zv5]
 refine (Zl7 l (Z58 l) (fun pre=>((pre.length:Int),Zb8 0 pre)) (fun pre post=>some (if Za8 l pre.length post&&okG ⟨l.length,Zb8 0 (pre++post)⟩ then (⟨l.length,Zb8 0 (pre++post)⟩,true) else (Zc8,false))) ?_ ?_).trans rfl
 ·intro pre d post h
  have hx:=Zn7 h
  have hm:=Zo7 h
  have hd:=Zp7 h
  dsimp only [Z58]
  rw [Z06 hx,Zu5,Zy5 hx,Option.bind_some,Zw5]
  by_cases h1:d.ID=pre.length
  ·rw [decide_eq_true h1,Zu5,s_Graph2 l hl pre.length d hd (by omega) _ (inner_len hl h)]
   cases h2:Z88 l pre.length none d.Sides with
   | true=>left;exact ⟨by rw [if_pos rfl,Zr7,Zg8];simp [Zb8],by simp [Za8,h1,h2]⟩
   | false=>right;exact ⟨_,rfl,by simp [Za8,h2]⟩
  ·right
   exact ⟨_,by rw [decide_eq_false h1,Zv5];rfl,by simp [Za8,h1,Zc8]⟩
 ·dsimp only [Z58]
  rw [Z16,Zv5,Z08,Z05,Zc7,Option.bind_some]
  simp only [Za8,List.append_nil,Bool.true_and]
  cases okG ⟨l.length,Zb8 0 l⟩<;>rfl
theorem Zi8 (l:List Diner) (i:Nat):∀(xs:List Side) (p:Option Int),Z88 l i p xs=true↔(∀x∈xs,Z78 l i x=true)∧xs.Pairwise (fun x y=>x.Peer<y.Peer)∧∀q,p=some q→∀x∈xs,q<x.Peer
 | [],p=>by simp [Z88]
 | x::r,p=>by
   simp only [Z88,Bool.and_eq_true,Zi8 l i r (some x.Peer)]
   constructor
   ·rintro ⟨h1,h2,h3,h4,h5⟩
    refine ⟨fun y hy=>?_,List.pairwise_cons.2 ⟨fun y hy=>h5 _ rfl y hy,h4⟩,?_⟩
    ·rcases List.mem_cons.1 hy with rfl | hy
     ·exact h2
     ·exact h3 y hy
    ·rintro q rfl y hy
     have hq:q<x.Peer:=by simpa [riseB] using h1
     rcases List.mem_cons.1 hy with rfl | hy
     ·exact hq
     ·have:=h5 _ rfl y hy;omega
   ·rintro ⟨h1,h2,h3⟩
    rw [List.pairwise_cons] at h2
    refine ⟨?_,h1 x (by simp),fun y hy=>h1 y (by simp [hy]),h2.2,?_⟩
    ·cases p with
     | none=>rfl
     | some q=>simpa [riseB] using h3 q rfl x (by simp)
    ·rintro q e y hy
     simp at e;subst e;exact h2.1 y hy
theorem Zj8 (l:List Diner):∀(r:List Diner) (i:Nat),Za8 l i r=true↔∀k d,r[k]?=some d→d.ID=((i+k:Nat):Int)∧Z88 l (i+k) none d.Sides=true
 | [],i=>by simp [Za8]
 | d::r,i=>by
   simp only [Za8,Bool.and_eq_true,decide_eq_true_eq,Zj8 l r (i+1)]
   constructor
   ·rintro ⟨h1,h2,h3⟩ k e he
    cases k with
    | zero=>simp at he;subst he;exact ⟨by simpa using h1,by simpa using h2⟩
    | succ k=>
      have:=h3 k e (by simpa using he)
      rw [show i+(k+1)=i+1+k by omega];exact this
   ·intro h
    refine ⟨by simpa using (h 0 d (by simp)).1,by simpa using (h 0 d (by simp)).2,fun k e he=>?_⟩
    have:=h (k+1) e (by simpa using he)
    rw [show i+1+k=i+(k+1) by omega];exact this
theorem Zk8 {i:Nat} {xs:List Side} {e:Edge}:e∈Z98 i xs↔e.A=i∧(i:Int)<e.B∧∃x∈xs,x.Peer=e.B:=by
 unfold Z98
 simp only [List.mem_map,List.mem_filter,decide_eq_true_eq]
 constructor
 ·rintro ⟨x,⟨h1,h2⟩,rfl⟩;exact ⟨rfl,h2,x,h1,rfl⟩
 ·rintro ⟨h1,h2,x,h3,h4⟩
  obtain ⟨a,b⟩:=e
  dsimp only at *
  subst h1;subst h4;exact ⟨x,⟨h3,h2⟩,rfl⟩
theorem Zl8:∀ {r:List Diner} {i:Nat} {e:Edge},e∈Zb8 i r↔∃k d,r[k]?=some d∧e∈Z98 (i+k) d.Sides
 | [],i,e=>by simp [Zb8]
 | d::r,i,e=>by
   simp only [Zb8,List.mem_append,Zl8 (r:=r)]
   constructor
   ·rintro (h | ⟨k,f,h1,h2⟩)
    ·exact ⟨0,d,by simp,by simpa using h⟩
    ·exact ⟨k+1,f,by simpa using h1,by rw [show i+(k+1)=i+1+k by omega];exact h2⟩
   ·rintro ⟨k,f,h1,h2⟩
    cases k with
    | zero=>simp at h1;subst h1;exact .inl (by simpa using h2)
    | succ k=>exact .inr ⟨k,f,by simpa using h1,by rw [show i+1+k=i+(k+1) by omega];exact h2⟩
theorem edgesD_pw {i:Nat} {xs:List Side} (h:xs.Pairwise fun x y=>x.Peer<y.Peer):(Z98 i xs).Pairwise fun x y=>x.lt y=true:=by
 unfold Z98
 rw [List.pairwise_map]
 refine (List.Pairwise.filter _ h).imp fun hxy=>?_
 simp [Edge.lt,hxy]
theorem edgesL_pw:∀ {r:List Diner} {i:Nat},(∀d∈r,d.Sides.Pairwise fun x y=>x.Peer<y.Peer)→(Zb8 i r).Pairwise fun x y=>x.lt y=true
 | [],_,_=>List.Pairwise.nil
 | d::r,i,h=>by
   simp only [Zb8]
   rw [List.pairwise_append]
   refine ⟨edgesD_pw (h d (by simp)),edgesL_pw fun e he=>h e (by simp [he]),fun x hx y hy=>?_⟩
   obtain ⟨h1,_,_⟩:=Zk8.1 hx
   obtain ⟨k,e,_,hy⟩:=Zl8.1 hy
   obtain ⟨h2,_,_⟩:=Zk8.1 hy
   have:x.A<y.A:=by rw [h1,h2];omega
   simp [Edge.lt,this]
set_option maxRecDepth 100000
set_option maxHeartbeats 4000000
@[go_sem] def e112:EC:=.seq (.reg [(Qa 2 (.mv (.c .ff)))]) (.seq (.reg [(Qm 3 0),(Qa 4 (.bin .lss (.t 3) (.c (.iv 1)))),(Qm 2 4)]) (.ret))
theorem ok112:FnOK Tryz.prog 112 Tryz.f112 e112 [.t 2] 1 4:=⟨by kernel_rfl,⟨_,rfl,by kernel_rfl⟩,by kernel_rfl,by kernel_rfl⟩
noncomputable def Zm8 (x1:Int):Option Bool:=
 some (decide (x1<1))
theorem Zn8 (x1:Int) (r:Bool) (h:Zm8 x1=some r):Zu2 Tryz.prog 112 [.iv x1] (.bv r):=by
 refine Zy2 ok112 rfl rfl fun w0 H0=>?_
 rw [Zm8] at h
 refine Zo2 10 ?_;dsimp only [go_sem];refine An ?_;exact Zr4 (res:=fun (r:Bool)=>.bv r) ok112 h
set_option maxRecDepth 100000
set_option maxHeartbeats 4000000
@[go_sem] def e113:EC:=.seq (.reg [(Qx 2 29 2 0),(Qa 3 (.mv (.c .ff)))]) (.seq (.drw [(Ql 4 1),(Qf 5 0 2),(Ql 6 5),(Qk 7 1 4 6),(Ql 8 7),(Ql 9 1),(Qf 10 1 2),(Ql 11 10),(Qk 12 1 9 11),(Ql 13 12),(Qa 14 (.bin .eql (.t 8) (.t 13))),(Qm 3 14)] [[],[],[1],[0,2],[3],[],[],[6],[5,7],[8],[4,9],[10,0,1,2,3,4,5,6,7,8,9,10]] [[3],[2],[1,3],[0,2,4],[3,10],[8],[7],[6,8],[5,7,9],[8,10],[4,9,11],[10]]) (.ret))
theorem ok113:FnOK Tryz.prog 113 Tryz.f113 e113 [.t 3] 2 13:=⟨by kernel_rfl,⟨_,rfl,by kernel_rfl⟩,by kernel_rfl,by kernel_rfl⟩
noncomputable def Zo8 (x1:Edge) (x2:(List Int)):Option Bool:=
 (at_ x2 x1.A).bind fun x3=>
 (at_ x2 x1.B).bind fun x4=>
 some (decide (x3=x4))
theorem Zp8 (x1:Edge) (x2:(List Int)) (r:Bool) (h:Zo8 x1 x2=some r):Zu2 Tryz.prog 113 [.agg (Edge.row x1),.elt ((Zz4 1 Zx4) x2) 0] (.bv r):=by
 refine Zy2 ok113 rfl rfl fun w0 H0=>?_
 rw [Zo8] at h
 refine Zo2 6 ?_;dsimp only [go_sem];refine An ?_;refine Zj3 (by kernel_rfl) fun all hall hs hnap haf=>?_;dsimp only [go_sem];refine Z85 hall hs haf hnap 6 6 [3,2,3,4] [(4,[.sl 1 (List.map Zx4 x2),.ptr 0 0,.iv x1.A]),(2,[.sl 1 (List.map Zx4 x2),.ptr 0 1,.iv x1.B])] (by kernel_rfl) ?_;dsimp only [go_sem];obtain ⟨x3,ex3,h⟩:=Bs h;refine Zn4 hall hs haf hnap 3 Zx4 ex3 rfl rfl trivial rfl rfl rfl rfl ?_;refine Z75 hall hs haf hnap 1 4 ?_;dsimp only [go_sem];refine An ?_;obtain ⟨x4,ex4,h⟩:=Bs h
 refine Zn4 hall hs haf hnap 8 Zx4 ex4 rfl rfl trivial rfl rfl rfl rfl ?_;refine Z75 hall hs haf hnap 3 0 ?_;dsimp only [go_sem];refine An ?_;refine Zt3 rfl ?_ _;exact Zr4 (res:=fun (r:Bool)=>.bv r) ok113 h
set_option maxRecDepth 100000
set_option maxHeartbeats 4000000
@[go_sem] def e87:EC:=.seq (.reg [(Qx 2 48 2 0),(Qx 3 43 1 1),(Qa 4 (.mv (.c .ff)))]) (.seq (.seq (.reg [(Qe 5 2 2),(Qa 6 (.call 80 [(.t 5)])),(Qa 7 (.bin .neq (.t 6) (.c (.iv 0)))),(Qm 8 7),(Qn 9 8 false 3),(Qg 10 8 false (.len (.t 9))),(Qh 11 8 false 0 2),(Qn 12 8 false 11),(Qg 13 8 false (.bin .neq (.t 10) (.t 12))),(Qq 14 8 13),(Qm 15 14),(Qn 16 15 false 3),(Qg 17 15 false (.call 107 [(.t 16),(.c (.clo 112 []))])),(Qq 18 15 17)]) (.ite (.t 18) (.seq (.reg [(Qa 4 (.mv (.c .ff)))]) (.ret)) (.skip))) (.seq (.reg [(Qf 19 1 2),(Ql 20 19),(Qa 21 (.mkf 113 [(.t 3)])),(Qa 22 (.call 104 [(.t 20),(.t 21)])),(Qa 23 (.not (.t 22))),(Qm 4 23)]) (.ret)))
theorem ok87:FnOK Tryz.prog 87 Tryz.f87 e87 [.t 4] 2 22:=⟨by kernel_rfl,⟨_,rfl,by kernel_rfl⟩,by kernel_rfl,by kernel_rfl⟩
noncomputable def Zq8 (x1:Graph) (x2:(List Int)):Bool→Option Bool
| x5=>
 ifb x5 (
 some false) (
 (Zd6 x1.Edges ((fun z=>Zo8 z x2))).bind fun x6=>
 some (!x6))
noncomputable def Zr8 (x1:Graph) (x2:(List Int)):Option Bool:=
 (Zy6 x1).bind fun x3=>
 ifb (!decide (x3=0)) (
 (Zq8 x1 x2) true) (
 ifb (!decide ((ln Zx4 x2)=x1.N)) (
 (Zq8 x1 x2) true) (
 (Z47 x2 ((fun z=>Zm8 z))).bind fun x4=>
 (Zq8 x1 x2) x4))
theorem Zs8 (x1:Graph) (x2:(List Int)) (r:Bool) (h:Zr8 x1 x2=some r):Zu2 Tryz.prog 87 [.agg (Graph.row x1),.sl 1 (List.map Zx4 x2)] (.bv r):=by
 refine Zy2 ok87 rfl rfl fun w0 H0=>?_
 rw [Zr8] at h
 refine Zo2 10 ?_;dsimp only [go_sem];refine An ?_;obtain ⟨x3,ex3,h⟩:=Bs h;refine Z33 trivial (Zz6 x1 _ ex3) (h:=?_);refine Zo2 2 ?_;dsimp only [go_sem];refine An ?_;refine Zh4 (fun (x5:Bool)=>(⟨(.any :: .any :: .ptr 0 0 :: .ptr 1 0::an 14 (.bv x5::an 5 [])),[some ⟨48,[.iv x1.N,.sl 2 (List.map Edge.row x1.Edges)]⟩,some ⟨43,[.sl 1 (List.map Zx4 x2)]⟩],[]⟩:St)) (Zq8 x1 x2) r ?_ fun J1=>?_
 ·intro x5 h;rw [Zq8] at h;(try dsimp only);refine Zj4 h rfl (fun _ h=>?_) fun _ h=>?_
  ·refine Zo2 4 ?_;dsimp only [go_sem];refine An ?_;exact Zr4 (res:=fun (r:Bool)=>.bv r) ok87 h
  ·refine Zo2 6 ?_;dsimp only [go_sem];refine An ?_;obtain ⟨x6,ex6,h⟩:=Bs h;refine Zv4 trivial ((Zu4.refl _).block 1 rfl rfl) (Ze6 x1.Edges _ _ ((fun z=>Zo8 z x2)) ⟨by kernel_rfl,rfl,fun z r hz=>Zp8 z x2 r hz⟩ _ ex6) (h:=?_);refine Zo2 3 ?_;dsimp only [go_sem];refine An ?_;exact Zr4 (res:=fun (r:Bool)=>.bv r) ok87 h
 ·refine Zq4 8 h rfl (fun _ h=>?_) fun _ h=>?_
  ·dsimp only [go_sem];refine Zo2 11 ?_;dsimp only [go_sem];refine An ?_;exact Zt4 J1 (s:=true) h
  ·dsimp only [go_sem];refine Zo2 7 ?_;dsimp only [go_sem];refine An ?_;refine Zq4 15 h rfl (fun _ h=>?_) fun _ h=>?_
   ·dsimp only [go_sem];refine Zo2 4 ?_;dsimp only [go_sem];refine An ?_;exact Zt4 J1 (s:=true) h
   ·dsimp only [go_sem];refine Zo2 1 ?_;dsimp only [go_sem];refine An ?_;obtain ⟨x4,ex4,h⟩:=Bs h;refine Z33 trivial (Z57 x2 _ _ ((fun z=>Zm8 z)) ⟨by kernel_rfl,rfl,fun z r hz=>Zn8 z r hz⟩ _ ex4) (h:=?_);refine Zo2 2 ?_;dsimp only [go_sem];refine An ?_;exact Zt4 J1 (s:=x4) h
set_option maxRecDepth 100000
set_option maxHeartbeats 4000000
@[go_sem] def e57:EC:=.seq (.reg [(Qx 2 29 2 0),(Qx 3 29 2 1),(Qa 4 (.mv (.c .ff)))]) (.seq (.reg [(Qf 5 0 2),(Ql 6 5),(Qf 7 0 3),(Ql 8 7),(Qa 9 (.bin .lss (.t 6) (.t 8))),(Qm 10 9),(Qh 11 10 false 0 2),(Qn 12 10 false 11),(Qh 13 10 false 0 3),(Qn 14 10 false 13),(Qg 15 10 false (.bin .eql (.t 12) (.t 14))),(Qg 16 10 false (.mv (.t 15))),(Qh 17 16 true 1 2),(Qn 18 16 true 17),(Qh 19 16 true 1 3),(Qn 20 16 true 19),(Qg 21 16 true (.bin .lss (.t 18) (.t 20))),(Qg 22 10 false (.pick (.t 16) (.t 21) (.c .ff))),(Qq 23 10 22),(Qm 4 23)]) (.ret))
theorem ok57:FnOK Tryz.prog 57 Tryz.f57 e57 [.t 4] 2 22:=⟨by kernel_rfl,⟨_,rfl,by kernel_rfl⟩,by kernel_rfl,by kernel_rfl⟩
noncomputable def Zt8:Bool→Option Bool
| x3=>
 some x3
noncomputable def Zu8 (x1:Edge) (x2:Edge):Option Bool:=
 ifb (decide (x1.A<x2.A)) (
 Zt8 true) (
 ifb (decide (x1.A=x2.A)) (
 Zt8 (decide (x1.B<x2.B))) (
 Zt8 false))
theorem Zv8 (x1:Edge) (x2:Edge) (r:Bool) (h:Zu8 x1 x2=some r):Zu2 Tryz.prog 57 [.agg (Edge.row x1),.agg (Edge.row x2)] (.bv r):=by
 refine Zy2 ok57 rfl rfl fun w0 H0=>?_
 rw [Zu8] at h
 refine Zo2 14 ?_;dsimp only [go_sem];refine An ?_;refine Zh4 (fun (x3:Bool)=>(⟨(an 4 (.bv x3::an 19 [])),[],[]⟩:St)) Zt8 r ?_ fun J1=>?_
 ·intro x3 h;rw [Zt8] at h;(try dsimp only);exact Zr4 (res:=fun (r:Bool)=>.bv r) ok57 h
 ·refine Zq4 10 h rfl (fun _ h=>?_) fun _ h=>?_
  ·dsimp only [go_sem];refine Zo2 15 ?_;dsimp only [go_sem];refine An ?_;exact Zt4 J1 (s:=true) h
  ·dsimp only [go_sem];refine Zo2 6 ?_;dsimp only [go_sem];refine An ?_;refine Zq4 16 h rfl (fun _ h=>?_) fun _ h=>?_
   ·dsimp only [go_sem];refine Zo2 9 ?_;dsimp only [go_sem];refine An ?_;exact Zt4 J1 (s:=decide (x1.B<x2.B)) h
   ·dsimp only [go_sem];refine Zo2 9 ?_;dsimp only [go_sem];refine An ?_;exact Zt4 J1 (s:=false) h
set_option maxRecDepth 100000
set_option maxHeartbeats 4000000
@[go_sem] def e22_L0:EC:=.seq (.seq (.reg [(Qm 19 3),(Qf 20 1 1),(Ql 21 20),(Qa 22 (.len (.t 21))),(Qa 23 (.bin .lss (.t 19) (.t 22)))]) (.ite (.t 23) (.skip) (.exit 0))) (.seq (.blk 1 (.seq (.reg [(Qf 26 1 1),(Ql 27 26),(Qm 28 3),(Qk 29 2 27 28),(Qe 30 2 29),(Qa 4 (.alloc 29 [.iv 0,.iv 0])),(Qs 2 4 30)]) (.seq (.drw [(Qf 31 0 4),(Ql 32 31),(Qa 33 (.bin .lss (.t 32) (.c (.iv 0)))),(Qm 34 33),(Qh 35 34 false 0 4),(Qn 36 34 false 35),(Qh 37 34 false 1 4),(Qn 38 34 false 37),(Qg 39 34 false (.bin .geq (.t 36) (.t 38))),(Qq 40 34 39),(Qm 41 40),(Qh 42 41 false 1 4),(Qn 43 41 false 42),(Qh 44 41 false 0 1),(Qn 45 41 false 44),(Qg 46 41 false (.bin .geq (.t 43) (.t 45))),(Qq 47 41 46),(Qm 48 47),(Qg 49 48 false (.mv (.t 3))),(Qg 50 48 false (.bin .gtr (.t 49) (.c (.iv 0)))),(Qg 51 48 false (.mv (.t 50))),(Qh 52 51 true 1 1),(Qn 53 51 true 52),(Qg 54 51 true (.mv (.t 3))),(Qg 55 51 true (.bin .sub (.t 54) (.c (.iv 1)))),(Qg 56 51 true (.idx 2 (.t 53) (.t 55))),(Qg 57 51 true (.loadA 2 (.t 56))),(Qg 58 51 true (.loadA 2 (.t 4))),(Qg 59 51 true (.call 57 [(.t 57),(.t 58)])),(Qg 60 51 true (.not (.t 59))),(Qg 61 48 false (.pick (.t 51) (.t 60) (.c .ff))),(Qq 62 48 61)] [[],[0],[1],[2],[3],[4,3],[3],[6,3],[5,7,3],[3,8],[9,3],[10],[11,10],[10],[13,10],[12,14,10],[10,15],[16,10],[17],[18,17],[19,17,17],[20],[21,20],[20],[23,20],[22,24,20],[25,20],[20],[26,27,20,20],[28,20],[20,29,17],[17,30]] [[1],[0,2],[1,3],[2,4,5,6,7,8,9],[3,5],[3,4,8],[3,7],[3,6,8],[3,5,7,9],[3,8,10],[9,11,12,13,14,15,16],[10,12],[10,11,15],[10,14],[10,13,15],[10,12,14,16],[10,15,17],[16,18,19,20,30,31],[17,19],[17,18,20],[17,19,21,22,23,24,25,26,27,28,29,30],[20,22],[20,21,25],[20,24],[20,23,25],[20,22,24,26],[20,25,28],[20,28],[20,26,27,29],[20,28,30],[17,20,29,31],[17,30]]) (.ite (.t 62) (.seq (.reg [(Qa 2 (.mv (.c .ff)))]) (.ret)) (.skip))))) (.reg [(Qm 24 3),(Qv 25 24 1),(Qm 3 25)]))
@[go_sem] def e22:EC:=.seq (.reg [(Qx 1 48 2 0),(Qa 2 (.mv (.c .ff)))]) (.seq (.seq (.reg [(Qf 5 0 1),(Ql 6 5),(Qa 7 (.bin .lss (.t 6) (.c (.iv 0)))),(Qm 8 7),(Qh 9 8 false 0 1),(Qn 10 8 false 9),(Qg 11 8 false (.bin .gtr (.t 10) (.c (.iv 64)))),(Qq 12 8 11),(Qm 13 12),(Qh 14 13 false 1 1),(Qn 15 13 false 14),(Qg 16 13 false (.len (.t 15))),(Qg 17 13 false (.bin .gtr (.t 16) (.c (.iv 400)))),(Qq 18 13 17)]) (.ite (.t 18) (.seq (.reg [(Qa 2 (.mv (.c .ff)))]) (.ret)) (.skip))) (.seq (.seq (.reg [(Qi 3 0)]) (.blk 0 (.loop e22_L0))) (.seq (.reg [(Qa 2 (.mv (.c .tt)))]) (.ret))))
theorem ok22:FnOK Tryz.prog 22 Tryz.f22 e22 [.t 2] 1 62:=⟨by kernel_rfl,⟨_,rfl,by kernel_rfl⟩,by kernel_rfl,by kernel_rfl⟩
noncomputable def Zw8:Unit→Option Bool
| ()=>
 some true
noncomputable def Zx8 (x8:Int):Bool→Option (Int ⊕ Bool)
| x12=>
 ifb x12 (
 Option.map Sum.inr (some false)) (
 some (.inl (wr (x8+1))))
noncomputable def Zy8 (x1:Graph):Int→Option (Int ⊕ Bool)
| x8=>
 ifb (decide (x8<(ln Edge.row x1.Edges))) (
 (at_ x1.Edges x8).bind fun x9=>
 ifb (decide (x9.A<0)) (
 (Zx8 x8) true) (
 ifb (decide (x9.B≤x9.A)) (
 (Zx8 x8) true) (
 ifb (decide (x1.N≤x9.B)) (
 (Zx8 x8) true) (
 ifb (decide (0<x8)) (
 (at_ x1.Edges (wr (x8-1))).bind fun x10=>
 (Zu8 x10 x9).bind fun x11=>
 (Zx8 x8) (!x11)) (
 (Zx8 x8) false))))) (
 Option.map Sum.inr (Zw8 ()))
noncomputable def Zz8 (x1:Graph):Bool→Option Bool
| x2=>
 ifb x2 (
 some false) (
 loop (Zy8 x1) 0)
noncomputable def Z09 (x1:Graph):Option Bool:=
 ifb (decide (x1.N<0)) (
 (Zz8 x1) true) (
 ifb (decide (64<x1.N)) (
 (Zz8 x1) true) (
 (Zz8 x1) (decide (400<(ln Edge.row x1.Edges)))))
theorem Z19 (x1:Graph) (r:Bool) (h:Z09 x1=some r):Zu2 Tryz.prog 22 [.agg (Graph.row x1)] (.bv r):=by
 refine Zy2 ok22 rfl rfl fun w0 H0=>?_
 rw [Z09] at h
 refine Zo2 12 ?_;dsimp only [go_sem];refine An ?_;refine Zh4 (fun (x2:Bool)=>(⟨(.any :: .ptr 0 0::an 16 (.bv x2::an 44 [])),[some ⟨48,[.iv x1.N,.sl 2 (List.map Edge.row x1.Edges)]⟩],[]⟩:St)) (Zz8 x1) r ?_ fun J1=>?_
 ·intro x2 h;rw [Zz8] at h;(try dsimp only);refine Zj4 h rfl (fun _ h=>?_) fun _ h=>?_
  ·refine Zo2 4 ?_;dsimp only [go_sem];refine An ?_;exact Zr4 (res:=fun (r:Bool)=>.bv r) ok22 h
  ·refine Zo2 6 ?_;dsimp only [go_sem];refine An ?_;refine Zh4 (fun (_:Unit)=>(⟨(an 63 []),[],[]⟩:St)) Zw8 r ?_ fun J2=>?_
   ·rintro ⟨⟩ h;rw [Zw8] at h;(try dsimp only);refine Zo2 4 ?_;dsimp only [go_sem];refine An ?_;exact Zr4 (res:=fun (r:Bool)=>.bv r) ok22 h
   ·refine Zo2 1 ?_;dsimp only [go_sem];refine An ?_;refine Zi4 h (fun (x8:Int)=>(⟨(.any :: .ptr 0 0 :: .any :: .iv x8::an 59 []),[some ⟨48,[.iv x1.N,.sl 2 (List.map Edge.row x1.Edges)]⟩],[]⟩:St)) (by simp [go_sem]) (by intro x8;first | rfl | simp [go_sem]) ?_;rintro n1 x8 y1 h hin1 hout1;rw [Zy8] at h;(try dsimp only);refine Zo2 9 ?_;dsimp only [go_sem];refine An ?_;refine Zj4 h rfl (fun _ h=>?_) fun _ h=>?_
    ·refine Zo2 8 ?_;dsimp only [go_sem];refine An ?_;obtain ⟨x9,ex9,h⟩:=Bs h;refine Zm4 Edge.row ex9 trivial rfl rfl rfl ?_;refine Zo2 5 ?_;dsimp only [go_sem];refine An ?_;refine Zh4 (fun (x12:Bool)=>(⟨(.any :: .ptr 0 0 :: .any :: .iv x8::an 58 [.bv x12]),[some ⟨48,[.iv x1.N,.sl 2 (List.map Edge.row x1.Edges)]⟩],[]⟩:St)) (Zx8 x8) y1 ?_ fun J3=>?_
     ·intro x12 h;rw [Zx8] at h;(try dsimp only);refine Zj4 h rfl (fun _ h=>?_) fun _ h=>?_
      ·refine Zo2 4 ?_;dsimp only [go_sem];refine An ?_;exact Zr4 (res:=fun (r:Bool)=>.bv r) ok22 (Zg4 h hout1)
      ·refine Zo2 7 ?_;dsimp only [go_sem];refine An ?_;exact Zs4 h hin1
     ·refine Zj3 (by kernel_rfl) fun all hall hs hnap haf=>?_;dsimp only [go_sem];refine Z85 hall hs haf hnap 4 28 [4,28] [(31,[.ptr 1 0,.iv x9.A,.bv (decide (x9.A<0)),.bv (decide (x9.A<0))])] (by kernel_rfl) ?_;dsimp only [go_sem];refine Z15 34 h rfl (fun _ h=>?_) fun _ h=>?_
      ·dsimp only [go_sem];refine Z85 hall hs haf hnap 28 0 [32] [(35,[.un,.un,.un,.un,.un,.tt,.tt,.un,.un,.un,.un,.un,.tt,.tt,.un,.un,.un,.un,.un,.un,.un,.un,.un,.un,.un,.un,.un,.tt])] (by kernel_rfl) ?_;dsimp only [go_sem];refine Zt3 rfl ?_ _;exact Zt4 J3 (s:=true) h
      ·dsimp only [go_sem];refine Z85 hall hs haf hnap 7 21 [11,21] [(35,[.ptr 1 0,.iv x9.A,.ptr 1 1,.iv x9.B,.bv (decide (x9.B≤x9.A)),.bv (decide (x9.B≤x9.A)),.bv (decide (x9.B≤x9.A))])] (by kernel_rfl) ?_;dsimp only [go_sem];refine Z15 41 h rfl (fun _ h=>?_) fun _ h=>?_
       ·dsimp only [go_sem];refine Z85 hall hs haf hnap 21 0 [32] [(42,[.un,.un,.un,.un,.un,.tt,.tt,.un,.un,.un,.un,.un,.un,.un,.un,.un,.un,.un,.un,.un,.tt])] (by kernel_rfl) ?_;dsimp only [go_sem];refine Zt3 rfl ?_ _;exact Zt4 J3 (s:=true) h
       ·dsimp only [go_sem];refine Z85 hall hs haf hnap 7 14 [18,14] [(42,[.ptr 1 1,.iv x9.B,.ptr 0 0,.iv x1.N,.bv (decide (x1.N≤x9.B)),.bv (decide (x1.N≤x9.B)),.bv (decide (x1.N≤x9.B))])] (by kernel_rfl) ?_;dsimp only [go_sem];refine Z15 48 h rfl (fun _ h=>?_) fun _ h=>?_
        ·dsimp only [go_sem];refine Z85 hall hs haf hnap 14 0 [32] [(49,[.un,.un,.un,.un,.un,.un,.un,.un,.un,.un,.un,.un,.un,.tt])] (by kernel_rfl) ?_;dsimp only [go_sem];refine Zt3 rfl ?_ _;exact Zt4 J3 (s:=true) h
        ·dsimp only [go_sem];refine Z85 hall hs haf hnap 3 11 [21,11] [(49,[.iv x8,.bv (decide (0<x8)),.bv (decide (0<x8))])] (by kernel_rfl) ?_;dsimp only [go_sem];refine Z15 51 h rfl (fun _ h=>?_) fun _ h=>?_
         ·dsimp only [go_sem];refine Z85 hall hs haf hnap 5 6 [25,2,1,4] [(52,[.ptr 0 1,.sl 2 (List.map Edge.row x1.Edges),.iv x8,.iv (wr (x8-1))]),(2,[.agg [.iv x9.A,.iv x9.B]])] (by kernel_rfl) ?_;dsimp only [go_sem];obtain ⟨x10,ex10,h⟩:=Bs h;refine Zn4 hall hs haf hnap 25 Edge.row ex10 rfl rfl trivial rfl rfl rfl rfl ?_;refine Z75 hall hs haf hnap 1 4 ?_;dsimp only [go_sem];refine An ?_;refine Zu3 28 rfl ?_;obtain ⟨x11,ex11,h⟩:=Bs h;refine Z04 hall rfl trivial (Zv8 x10 x9 _ ex11) (h:=?_);dsimp only [go_sem]
          refine Z85 hall hs haf hnap 3 0 [32] [(60,[.bv (!x11),.bv (!x11),.bv (!x11)])] (by kernel_rfl) ?_;dsimp only [go_sem];refine Zt3 rfl ?_ _;exact Zt4 J3 (s:=!x11) h
         ·dsimp only [go_sem];refine Z85 hall hs haf hnap 11 0 [32] [(52,[.un,.un,.un,.un,.un,.un,.un,.un,.un,.ff,.ff])] (by kernel_rfl) ?_;dsimp only [go_sem];refine Zt3 rfl ?_ _;exact Zt4 J3 (s:=false) h
    ·refine Zo2 1 ?_;dsimp only [go_sem];refine An ?_;exact Zt4 J2 (s:=()) (Zg4 h hout1)
 ·refine Zq4 8 h rfl (fun _ h=>?_) fun _ h=>?_
  ·dsimp only [go_sem];refine Zo2 11 ?_;dsimp only [go_sem];refine An ?_;exact Zt4 J1 (s:=true) h
  ·dsimp only [go_sem];refine Zo2 5 ?_;dsimp only [go_sem];refine An ?_;refine Zq4 13 h rfl (fun _ h=>?_) fun _ h=>?_
   ·dsimp only [go_sem];refine Zo2 6 ?_;dsimp only [go_sem];refine An ?_;exact Zt4 J1 (s:=true) h
   ·dsimp only [go_sem];refine Zo2 6 ?_;dsimp only [go_sem];refine An ?_;exact Zt4 J1 (s:=decide (400<(ln Edge.row x1.Edges))) h
set_option maxRecDepth 100000
set_option maxHeartbeats 4000000
set_option maxRecDepth 100000
set_option maxHeartbeats 4000000
@[go_sem] def e30_L0:EC:=.seq (.seq (.reg [(Qm 6 5),(Qm 7 0),(Qa 8 (.len (.t 7))),(Qa 9 (.bin .lss (.t 6) (.t 8)))]) (.ite (.t 9) (.skip) (.exit 0))) (.seq (.blk 1 (.seq (.reg [(Qm 12 0),(Qm 13 5),(Qk 14 1 12 13),(Ql 15 14),(Qm 16 1),(Qa 17 (.bin .eql (.t 15) (.t 16)))]) (.ite (.t 17) (.seq (.reg [(Qa 4 (.mv (.c .tt)))]) (.ret)) (.skip)))) (.reg [(Qm 10 5),(Qv 11 10 1),(Qm 5 11)]))
@[go_sem] def e30:EC:=.seq (.reg [(Qa 4 (.mv (.c .ff)))]) (.seq (.seq (.reg [(Qi 5 0)]) (.blk 0 (.loop e30_L0))) (.seq (.reg [(Qa 4 (.mv (.c .ff)))]) (.ret)))
theorem ok30:FnOK Tryz.prog 30 Tryz.f30 e30 [.t 4] 2 16:=⟨by kernel_rfl,⟨_,rfl,by kernel_rfl⟩,by kernel_rfl,by kernel_rfl⟩
noncomputable def Z29:Unit→Option Bool
| ()=>
 some false
noncomputable def Z39 (x1:(List Int)) (x2:Int):Int→Option (Int ⊕ Bool)
| x5=>
 ifb (decide (x5<(ln Zx4 x1))) (
 (at_ x1 x5).bind fun x6=>
 ifb (decide (x6=x2)) (
 Option.map Sum.inr (some true)) (
 some (.inl (wr (x5+1))))) (
 Option.map Sum.inr (Z29 ()))
noncomputable def Z49 (x1:(List Int)) (x2:Int):Option Bool:=
 loop (Z39 x1 x2) 0
theorem Z59 (x1:(List Int)) (x2:Int) (r:Bool) (h:Z49 x1 x2=some r):Zu2 Tryz.prog 30 [.sl 1 (List.map Zx4 x1),.iv x2] (.bv r):=by
 refine Zy2 ok30 rfl rfl fun w0 H0=>?_
 rw [Z49] at h
 refine Zo2 9 ?_;dsimp only [go_sem];refine An ?_;refine Zh4 (fun (_:Unit)=>(⟨(an 18 []),[],[]⟩:St)) Z29 r ?_ fun J1=>?_
 ·rintro ⟨⟩ h;rw [Z29] at h;(try dsimp only);refine Zo2 4 ?_;dsimp only [go_sem];refine An ?_;exact Zr4 (res:=fun (r:Bool)=>.bv r) ok30 h
 ·refine Zo2 1 ?_;dsimp only [go_sem];refine An ?_;refine Zi4 h (fun (x5:Int)=>(⟨(.sl 1 (List.map Zx4 x1) :: .iv x2::an 3 (.iv x5::an 12 [])),[],[]⟩:St)) (by simp [go_sem]) (by intro x5;first | rfl | simp [go_sem]) ?_;rintro n1 x5 y1 h hin1 hout1;rw [Z39] at h;(try dsimp only);refine Zo2 8 ?_;dsimp only [go_sem];refine An ?_;refine Zj4 h rfl (fun _ h=>?_) fun _ h=>?_
  ·refine Zo2 7 ?_;dsimp only [go_sem];refine An ?_;obtain ⟨x6,ex6,h⟩:=Bs h;refine Zm4 Zx4 ex6 trivial rfl rfl rfl ?_;refine Zo2 4 ?_;dsimp only [go_sem];refine An ?_;refine Zj4 h rfl (fun _ h=>?_) fun _ h=>?_
   ·refine Zo2 4 ?_;dsimp only [go_sem];refine An ?_;exact Zr4 (res:=fun (r:Bool)=>.bv r) ok30 (Zg4 h hout1)
   ·refine Zo2 7 ?_;dsimp only [go_sem];refine An ?_;exact Zs4 h hin1
  ·refine Zo2 1 ?_;dsimp only [go_sem];refine An ?_;exact Zt4 J1 (s:=()) (Zg4 h hout1)
def cg (c:List Int) (i:Int):Int:=(c[i.toNat]?).getD 0
theorem at_cg {c:List Int} {i:Int} (h0:0≤i) (h:i<c.length):at_ c i=some (cg c i):=by
 obtain ⟨x,h1,h2⟩:=at_lt h0 h
 rw [h1,cg,h2];rfl
def Z69 (g:Graph) (c:List Int):Bool:=decide ((c.length:Int)=g.N)&&(c.all (fun x=>decide (1≤x))&&g.Edges.all (fun e=>!decide (cg c e.A=cg c e.B)))
theorem s_Right (g:Graph) (c:List Int) (_:c.length≤1000000):Zr8 g c=some (okG g&&Z69 g c):=by
 simp only [Zr8,Zc7,Option.bind_some,Zw5]
 cases hg:okG g with
 | false=>simp [Zq8]
 | true=>
   obtain ⟨g1,g2,g3,g4,g5⟩:=Zd7 hg
   simp only [if_true,decide_true,Zu5,Bool.true_and,Z05]
   by_cases hl:(c.length:Int)=g.N
   ·rw [Za7 c (fun z=>Zm8 z) (fun x=>decide (x<1)) (by omega) (fun x _=>rfl)]
    simp only [hl,decide_true,Zu5,Option.bind_some,Z69,Bool.true_and]
    have e1:c.any (fun x=>decide (x<1))=!c.all (fun x=>decide (1≤x)):=Ze7 _ _ _ (fun x=>by
     by_cases h:x<1
     ·have:¬1≤x:=by omega
      simp [h,this]
     ·have:1≤x:=by omega
      simp [h,this])
    rw [e1]
    cases hp:c.all (fun x=>decide (1≤x)) with
    | false=>simp [Zq8]
    | true=>
      simp only [Bool.not_true,Zq8,Zv5]
      rw [Z97 g.Edges _ (fun e=>decide (cg c e.A=cg c e.B)) (by omega) (fun e he=>by
       obtain ⟨k1,k2,k3⟩:=g4 e he
       simp only [Zo8,at_cg (c:=c) k1 (by omega),at_cg (c:=c) (show 0≤e.B by omega) (by omega),Option.bind_some])]
      simp [all_not_any]
   ·simp [hl,Z69,Zq8]
theorem s_ahead (x y:Edge):Zu8 x y=some (x.lt y):=by
 simp only [Zu8,Zt8,Edge.lt]
 by_cases h1:x.A<y.A
 ·simp [h1]
 ·by_cases h2:x.A=y.A<;>simp [h1,h2]
theorem s_r03Check (g:Graph):Z09 g=some (okG g):=by
 simp only [Z09,Zz8]
 by_cases h1:g.N<0
 ·have:¬0≤g.N:=by omega
  simp [h1,okG,this]
 by_cases h2:64<g.N
 ·have:¬g.N≤64:=by omega
  simp [h1,h2,okG,this]
 by_cases h3:400<g.Edges.length
 ·have:¬g.Edges.length≤400:=by omega
  have h3':(400:Int)<ln Edge.row g.Edges:=by rw [Z05];omega
  simp [h1,h2,h3',okG,this]
 have h3':¬(400:Int)<ln Edge.row g.Edges:=by rw [Z05];omega
 have e1:0≤g.N:=by omega
 have e2:g.N≤64:=by omega
 have e3:g.Edges.length≤400:=by omega
 simp only [h1,h2,h3',decide_false,Zv5,okG,e1,e2,e3,decide_true,Bool.true_and]
 have key:=Zb7 g.Edges (Zy8 g) false true (fun e=>!e.ok g.N) (by omega) (fun k x hx=>by
  have hw:wr ((k:Int)+1)=((k+1:Nat):Int):=Z36 hx (by omega)
  simp only [Zy8,Z06 hx,Zu5,Zy5 hx,Option.bind_some,Zx8,hw,Edge.ok]
  by_cases k1:x.A<0
  ·have:¬0≤x.A:=by omega
   simp [k1,this]
  ·have k1':0≤x.A:=by omega
   by_cases k2:x.B≤x.A
   ·have:¬x.A<x.B:=by omega
    simp [k1,k2,this]
   ·have k2':x.A<x.B:=by omega
    by_cases k3:g.N≤x.B
    ·have:¬x.B<g.N:=by omega
     simp [k1,k2,k3,this]
    ·have k3':x.B<g.N:=by omega
     simp only [k1,k2,k3,k1',k2',k3',decide_false,decide_true,Zv5,Bool.and_self,Bool.not_true,Bool.false_or]
     cases k with
     | zero=>simp
     | succ k=>
       have hk:=(List.getElem?_eq_some_iff.1 hx).1
       have hy:g.Edges[k]?=some g.Edges[k]:=List.getElem?_eq_getElem (by omega)
       have h0:decide ((0:Int)<((k+1:Nat):Int))=true:=decide_eq_true (by omega)
       simp only [h0,Zu5,wr_pred (show k≤4000000000000000000 by omega),Zy5 hy,hy,Option.bind_some,s_ahead]
       cases g.Edges[k].lt x<;>simp)
  (by simp only [Zy8,Z16,Zv5,Zw8,Option.map_some])
 rw [key]
 have:g.Edges.all (fun x=>!!Edge.ok g.N x)=g.Edges.all (Edge.ok g.N):=by simp
 rw [this]
 cases g.Edges.all (Edge.ok g.N)&&risB g.Edges<;>rfl
theorem s_r01Has (l:List Int) (x:Int) (hl:l.length≤1000000):Z49 l x=some (decide (x∈l)):=by
 unfold Z49
 rw [loop_any l (Z39 l x) (fun y=>decide (y=x)) true false (by omega) (fun k y hy=>by
  have hw:wr ((k:Int)+1)=((k+1:Nat):Int):=Z36 hy (by omega)
  simp only [Z39,Z06 hy,Zu5,Zy5 hy,Option.bind_some,hw]
  by_cases h:y=x<;>simp [h])
  (by simp only [Z39,Z16,Zv5,Z29,Option.map_some])]
 by_cases h:x∈l
 ·have:l.any (fun y=>decide (y=x))=true:=by rw [List.any_eq_true];exact ⟨x,h,by simp⟩
  simp [this,h]
 ·have:l.any (fun y=>decide (y=x))=false:=by
   rw [List.any_eq_false];intro y hy;simp;rintro rfl;exact h hy
  simp [this,h]
end NX
end Go.Proofs.YtadebhbiglmodaaGreat
namespace Go.Proofs.YtadebhbiglmodaaGreat
namespace NX
open Go Go.RowKit
section
variable {c:Ctx} {M:Mem} {S S':St} {a:Act} {w:World} {fn:Func} {K:AV→List (Option Blk)→List (Option Sl)→Prop} {k:List It} {bs:List (Option Blk)} {ss:List (Option Sl)}
theorem isLL_ints {M:Mem} {zs:List Int} {vss:List (List Value)} (h:AV.isLL M 1 (zs.map Zx4) vss):vss.flatten=zs.map (Value.int .i64):=by
 induction zs generalizing vss with
 | nil=>simp [AV.isLL] at h;subst h;rfl
 | cons z zs ih=>
   obtain ⟨v,r,rfl,h1,h2,h3⟩:=h
   obtain ⟨u,q,rfl,h4,h5⟩:=h2
   simp only [AV.isL] at h5
   simp only [AV.is] at h4
   subst h5;subst h4
   simp [ih h3]
theorem Z79 {M:Mem}:∀(zs:List Int),∃vss,AV.isLL M 1 (zs.map Zx4) vss∧vss.flatten=zs.map (Value.int .i64)
 | []=>⟨[],rfl,rfl⟩
 | z::zs=>by
   obtain ⟨vss,h1,h2⟩:=Z79 (M:=M) zs
   exact ⟨[.int .i64 z]::vss,⟨_,_,rfl,rfl,⟨_,_,rfl,rfl,rfl⟩,h1⟩,by simp [h2]⟩
theorem sem_sort {ρ:Shelf.Ren} (Ly:Lays.n189 c.P ρ) {j T:Nat} {x:X} {zs:List Int} (hx:S.x x = .osl j) (hj:Zf S.ss j=some ⟨T,1,zs.map Zx4⟩) (hlen:zs.length<4611686018427387904):
  Zz2 c S (.call (ρ.f 189) [x]) (.tup []) ⟨S.tm,S.bs,Zg S.ss j (some ⟨T,1,(zs.mergeSort fun x y=>decide (x≤y)).map Zx4⟩)⟩:=by
 intro ro ho M a w hT next Q hn
 obtain ⟨dst,op,ty,pos,af,gd⟩:=ro
 dsimp only at ho
 obtain ⟨cargs,argTypes,rfl,hfn,hxs⟩:=Z23 ho
 obtain ⟨q,rfl⟩:∃q,cargs = #[q]:=by
  have:cargs.toList.length=1:=by have:=congrArg List.length hxs;simpa using this
  obtain ⟨l⟩:=cargs
  match l,this with
  | [q],_=>exact ⟨q,rfl⟩
 have hqx:cX q=x:=by simpa using hxs
 have hq:=Zy1 hT q
 rw [hqx,hx] at hq
 obtain ⟨hjn,hq⟩:=hq
 obtain ⟨g0,vss,h1,h2,h3,h4⟩:=hT.st.slc j _ hj
 dsimp only at h1 h3 g0
 have hfl:=isLL_ints h1
 have hrun:(execOp a.eval ⟨dst,.call ⟨.value (.func (ρ.f 189)), #[q],argTypes⟩,ty,pos,af,gd⟩).run c.P w = .ok (.enter (ρ.f 189) (#[q].map a.eval)) w:=by
  have he:a.eval (.func (ρ.f 189)) = .func (.func (ρ.f 189)) #[] #[]:=rfl
  generalize a.eval=ρ' at *
  simp [execOp,resolve,Deferred.ofValue,invoke,he,Z13 hfn]
 have e1:(#[q].map a.eval) = #[M.σ j]:=by
  apply Array.ext';simp;exact hq
 rw [e1] at hrun
 unfold Oper.wp
 rw [hrun]
 show Calls c.P (ρ.f 189) #[M.σ j] w _
 obtain ⟨rs,hr1,hr2⟩:=Z79 (M:=M.pure) (zs.mergeSort fun x y=>decide (x≤y))
 have hone:∀v∈rs.flatten,v.oneCell'=true:=by
  rw [hr2];intro v hv
  obtain ⟨z,_,rfl⟩:=List.mem_map.1 hv;rfl
 have hl2:(zs.mergeSort fun x y=>decide (x≤y)).length=zs.length:=by simp
 rcases h3.2 with ⟨e2,e3⟩ | ⟨g,cap,cur,e2,hb,e3,e4,e5,e6,e7⟩
 ·have hz:zs=[]:=by simpa using e3
  subst hz
  rw [e2]
  refine (Any.slices_Sort_int_none Ly none 0 w).mono ?_
  rintro e w' ⟨rfl,rfl⟩
  refine hn M _ _ (.refl M) ?_ ⟨[],rfl,rfl⟩
  have:Zg S.ss j (some (⟨T,1,([].mergeSort fun (x y:Int)=>decide (x≤y)).map Zx4⟩:Sl))=S.ss:=by
   have hj':=hj
   simp only [List.map_nil] at hj'
   have:∀(l:List (Option Sl)) (j:Nat) (L:Sl),Zf l j=some L→Zg l j (some L)=l:=by
    intro l
    induction l with
    | nil=>intro j L h;simp [Zf] at h
    | cons x l ih=>intro j L h;cases j with
      | zero=>simp [Zf] at h;subst h;rfl
      | succ j=>simp only [Zg];rw [ih j L (by simpa [Zf] using h)]
   simpa using this _ _ _ hj'
  rw [this];exact hT.st
 ·have e4':zs.length≤cap:=by simpa using e4
  rw [e2]
  simp only [List.length_map]
  rw [Nat.mul_one,List.length_map] at e7
  rw [hfl] at e7
  refine (Any.slices_Sort_int Ly g 0 cap zs w (holds_of_blockI e3 e7) (Array.getElem?_eq_some_iff.1 e3).1 hlen).mono ?_
  rintro e w' ⟨rfl,n,os,rfl⟩
  refine hn M _ _ (.refl M) ?_ ⟨[],rfl,rfl⟩
  refine hT.st.rewrite hj (g:=g) (by rw [e2];rfl) (grownBy_sortedI _) (vss':=rs) hr1 hone ?_
  rw [hr2,List.length_map,hl2,e2,List.length_map]
  exact ownsRow_sortedI (ss:=zs) hl2 hb e3 e4' e5 e6
theorem V_sort {ρ:Shelf.Ren} (Ly:Lays.n189 c.P ρ) {d:Option Nat} {g:Option (Nat×Bool)} {l:List EOp} {j T f:Nat} {x:X} (zs:List Int) (hg:gm S g) (hf:f=ρ.f 189) (hx:S.x x = .osl j) (hj:Zf S.ss j=some ⟨T,1,zs.map Zx4⟩) (hlen:zs.length<4611686018427387904)
  (h:V c fn K (.ops l::k) ((⟨S.tm,S.bs,Zg S.ss j (some ⟨T,1,(zs.mergeSort fun x y=>decide (x≤y)).map Zx4⟩)⟩:St).put d (.tup []))):V c fn K (.ops (⟨d,g,.call f [x]⟩::l)::k) S:=by
 subst hf
 exact Z03 hg (sem_sort Ly hx hj hlen) rfl h
theorem sem_compact {ρ:Shelf.Ren} (Ly:Lays2.n20 c.P ρ) {j T:Nat} {x:X} {zs:List Int} (hx:S.x x = .osl j) (hj:Zf S.ss j=some ⟨T,1,zs.map Zx4⟩) (hlen:zs.length<4611686018427387904):
  Zz2 c S (.call (ρ.f 20) [x]) (.osl (Zj S.ss)) ⟨S.tm,S.bs,Zg S.ss j none++[some ⟨T,1,(Lib.compact zs).map Zx4⟩]⟩:=by
 intro ro ho M a w hT next Q hn
 obtain ⟨dst,op,ty,pos,af,gd⟩:=ro
 dsimp only at ho
 obtain ⟨cargs,argTypes,rfl,hfn,hxs⟩:=Z23 ho
 obtain ⟨q,rfl⟩:∃q,cargs = #[q]:=by
  have:cargs.toList.length=1:=by have:=congrArg List.length hxs;simpa using this
  obtain ⟨l⟩:=cargs
  match l,this with
  | [q],_=>exact ⟨q,rfl⟩
 have hqx:cX q=x:=by simpa using hxs
 have hq:=Zy1 hT q
 rw [hqx,hx] at hq
 obtain ⟨hjn,hq⟩:=hq
 have hS:=hT.st
 obtain ⟨g0,vss,h1,h2,h3,h4⟩:=hS.slc j _ hj
 dsimp only at h1 h3 g0
 have hfl:=isLL_ints h1
 have hrun:(execOp a.eval ⟨dst,.call ⟨.value (.func (ρ.f 20)), #[q],argTypes⟩,ty,pos,af,gd⟩).run c.P w = .ok (.enter (ρ.f 20) (#[q].map a.eval)) w:=by
  have he:a.eval (.func (ρ.f 20)) = .func (.func (ρ.f 20)) #[] #[]:=rfl
  generalize a.eval=ρ' at *
  simp [execOp,resolve,Deferred.ofValue,invoke,he,Z13 hfn]
 have e1:(#[q].map a.eval) = #[M.σ j]:=by
  apply Array.ext';simp;exact hq
 rw [e1] at hrun
 unfold Oper.wp
 rw [hrun]
 show Calls c.P (ρ.f 20) #[M.σ j] w _
 obtain ⟨rs,hr1,hr2⟩:=Z79 (M:=M.pure) (Lib.compact zs)
 have hone:∀v∈rs.flatten,v.oneCell'=true:=by
  rw [hr2];intro v hv
  obtain ⟨z,_,rfl⟩:=List.mem_map.1 hv;rfl
 have hcl:=Lib.compact_length_le zs
 have hsub:∀i N,Zf (Zg S.ss j none) i=some N→Zf S.ss i=some N∧∀g,(M.σ j).ownBlock=some g→(M.σ i).ownBlock≠some g:=by
  intro i N hi
  rw [Zb1] at hi
  split at hi
  ·simp at hi
  ·rename_i e
   refine ⟨hi,fun g hg e2=>e ⟨?_,Zd1 hj⟩⟩
   exact hS.d3 i j N _ g hi hj e2 hg
 have fin:∀v' w',w.grownBy w' (M.σ j).ownBlock→v'.ownBlock=(M.σ j).ownBlock→w'.ownsRow 0 T 1 v' (Lib.compact zs).length rs.flatten→next (a.put dst v') w':=fun v' w' hg hv hrow=>by
  have hr:RelS c (M.addS v') S.bs (Zg S.ss j none++[some (⟨T,1,(Lib.compact zs).map Zx4⟩:Sl)]) w':=
   RelS.grown (v:=M.σ j) (vss:=rs) hS (Zc1 _ _ _) hsub (.inr fun i B hi=>hS.d2 i j B _ hi hj) h4 hg (.inl hv) g0 hr1 hone (by simpa using hrow)
  refine hn (M.addS v') w' v' (Mem.le_addS M v') hr ?_
  rw [Z71,←hS.ns]
  exact ⟨Nat.lt_succ_self _,by simp [Mem.addS]⟩
 rcases h3.2 with ⟨e2,e3⟩ | ⟨g,cap,cur,e2,hb,e3,e4,e5,e6,e7⟩
 ·have hz:zs=[]:=by simpa using e3
  subst hz
  rw [e2] at fin ⊢
  refine (Any.slices_Compact_int_empty Ly none 0 w).mono ?_
  rintro e w' ⟨rfl,rfl⟩
  refine fin _ _ ⟨rfl,rfl,rfl,Nat.le_refl _,fun _ _ _=>rfl⟩ rfl ?_
  rw [hr2]
  exact World.ownsRow_nil _ _ _ _
 ·have e4':zs.length≤cap:=by simpa using e4
  rw [e2] at fin ⊢
  simp only [List.length_map]
  rw [Nat.mul_one,List.length_map] at e7
  rw [hfl] at e7
  refine (Any.slices_Compact_int Ly g 0 cap zs w (holds_of_blockI e3 e7) (by omega) e4').mono ?_
  rintro e w' ⟨rfl,n,rfl⟩
  have hgr:=grownBy_sortedI (w:=w) (g:=g) (n:=n) (os:= #[]) (Lib.compact zs++List.replicate (zs.length-(Lib.compact zs).length) 0).toArray
  have hhp:=heap_sortedI (w:=w) (g:=g) (n:=n) (os:= #[]) (Lib.compact zs++List.replicate (zs.length-(Lib.compact zs).length) 0).toArray e3
  rw [Sort.grow_empty] at hgr hhp
  refine fin _ _ hgr rfl ⟨by rw [hr2];simp,.inr ⟨g,cap,_,rfl,hb,hhp,by omega,e5,by simp [Sort.putCells,e6],?_⟩⟩
  have htk:=take_putCellsI cur (Lib.compact zs++List.replicate (zs.length-(Lib.compact zs).length) 0) (by simp;omega)
  rw [hr2,Nat.mul_one]
  have:=congrArg (List.take (Lib.compact zs).length) htk
  rw [List.take_take,List.map_append,List.take_append_of_le_length (by simp)] at this
  rw [Nat.min_eq_left (by simp)] at this
  rw [this,List.take_of_length_le (by simp)]
theorem V_compact {ρ:Shelf.Ren} (Ly:Lays2.n20 c.P ρ) {d:Option Nat} {g:Option (Nat×Bool)} {l:List EOp} {j T f:Nat} {x:X} (zs:List Int) (hg:gm S g) (hf:f=ρ.f 20) (hx:S.x x = .osl j) (hj:Zf S.ss j=some ⟨T,1,zs.map Zx4⟩) (hlen:zs.length<4611686018427387904)
  (h:V c fn K (.ops l::k) ((⟨S.tm,S.bs,Zg S.ss j none++[some ⟨T,1,(Lib.compact zs).map Zx4⟩]⟩:St).put d (.osl (Zj S.ss)))):V c fn K (.ops (⟨d,g,.call f [x]⟩::l)::k) S:=by
 subst hf
 exact Z03 hg (sem_compact Ly hx hj hlen) rfl h
end
end NX
end Go.Proofs.YtadebhbiglmodaaGreat
/-
  The function slices.Clone[[]int,int]: its code compiled, a model, and that the code answers as the model. Written by a program of ours (lb.py). No statement of the seat is proved here.
-/
namespace Go.Proofs.YtadebhbiglmodaaGreat
namespace NX
open Go
set_option maxRecDepth 100000
set_option maxHeartbeats 4000000
@[go_sem] def e109:EC:=.seq (.reg [(Qa 2 (.mv (.c .nl)))]) (.seq (.seq (.reg [(Qm 3 0),(Qa 4 (.isnil false (.t 3)))]) (.ite (.t 4) (.seq (.reg [(Qa 2 (.mv (.c .nl)))]) (.ret)) (.skip))) (.seq (.reg [(Qa 5 (.bsl 3 1 0 [.iv 0] [])),(Qm 6 0),(Qa 7 (.app 3 1 8 (.t 5) (.t 6))),(Qm 2 7)]) (.ret)))
theorem ok109:FnOK Tryz.prog 109 Tryz.f109 e109 [.t 2] 1 7:=⟨by kernel_rfl,⟨_,rfl,by kernel_rfl⟩,by kernel_rfl,by kernel_rfl⟩
noncomputable def Z89 (x1:(List Int)):Option (List Int):=Za4 8 [] x1
theorem Z99 (x1:(List Int)) (r:(List Int)) (h:Z89 x1=some r):FunO Tryz.prog 109 [.sl 1 (List.map Zx4 x1)] 3 1 (List.map Zx4 r):=by
 refine Z55 ok109 rfl fun w0 H0=>?_
 rw [Z89] at h
 refine Zo2 100 ?_
 dsimp only [e109,go_sem]
 refine ⟨by simp,?_⟩
 refine V_isnil trivial rfl (fun hn=>?_) ?_
 ·refine Zo2 100 ?_
  dsimp only [go_sem]
  refine ⟨by simp,?_⟩
  refine Z64 2 3 1 rfl rfl ?_
  dsimp only [go_sem]
  have hn:x1=[]:=by simpa using hn
  subst hn
  exact Z95 Zx4 (e:=[]) ok109 (by simpa [Za4] using h) rfl rfl
 ·refine Zo2 100 ?_
  dsimp only [go_sem]
  refine ⟨by simp,?_⟩
  refine Zo4 Zx4 h trivial rfl rfl rfl ?_
  refine Zo2 100 ?_
  dsimp only [go_sem]
  refine ⟨by simp,?_⟩
  exact Z95 Zx4 ok109 (rfl:some r=some r) rfl rfl
set_option maxRecDepth 100000
def laysSort_ren:Go.Shelf.Ren:=⟨(fun | 189=>126 | 125=>132 | 257=>131 | 128=>142 | 129=>143 | 294=>133 | 295=>134 | 296=>135 | 297=>136 | 298=>137 | 299=>138 | 216=>139 | 300=>140 | 301=>141 | 328=>144 | 329=>145 | 330=>146 | 331=>147 | 332=>148 | 215=>130 | 343=>149 | n=>n),(fun | 28=>43 | 3=>3 | 46=>152 | 0=>0 | 51=>162 | 53=>165 | 4=>4 | 183=>172 | 182=>171 | 131=>177 | 5=>5 | 9=>9 | 218=>181 | 222=>185 | 228=>187 | 229=>188 | n=>n),(fun | n=>n)⟩
theorem laysSort:Lays.n189 Tryz.prog laysSort_ren where
 mixed:=by kernel_rfl
 f125:=Tryz.func132.trans (congrArg some (by kernel_rfl))
 f128:=Tryz.func142.trans (congrArg some (by kernel_rfl))
 f129:=Tryz.func143.trans (congrArg some (by kernel_rfl))
 f189:=Tryz.func126.trans (congrArg some (by kernel_rfl))
 f215:=Tryz.func130.trans (congrArg some (by kernel_rfl))
 f216:=Tryz.func139.trans (congrArg some (by kernel_rfl))
 f257:=Tryz.func131.trans (congrArg some (by kernel_rfl))
 f294:=Tryz.func133.trans (congrArg some (by kernel_rfl))
 f295:=Tryz.func134.trans (congrArg some (by kernel_rfl))
 f296:=Tryz.func135.trans (congrArg some (by kernel_rfl))
 f297:=Tryz.func136.trans (congrArg some (by kernel_rfl))
 f298:=Tryz.func137.trans (congrArg some (by kernel_rfl))
 f299:=Tryz.func138.trans (congrArg some (by kernel_rfl))
 f300:=Tryz.func140.trans (congrArg some (by kernel_rfl))
 f301:=Tryz.func141.trans (congrArg some (by kernel_rfl))
 f328:=Tryz.func144.trans (congrArg some (by kernel_rfl))
 f329:=Tryz.func145.trans (congrArg some (by kernel_rfl))
 f330:=Tryz.func146.trans (congrArg some (by kernel_rfl))
 f331:=Tryz.func147.trans (congrArg some (by kernel_rfl))
 f332:=Tryz.func148.trans (congrArg some (by kernel_rfl))
 f343:=Tryz.func149.trans (congrArg some (by kernel_rfl))
 t0:=Tryz.underlying0
 a0:=Tryz.isAgg0
 z0:=Tryz.sizeOf0
 v0:=Tryz.zeroValue0
 t3:=Tryz.underlying3
 a3:=Tryz.isAgg3
 z3:=Tryz.sizeOf3
 v3:=Tryz.zeroValue3
 t4:=Tryz.underlying4
 a4:=Tryz.isAgg4
 z4:=Tryz.sizeOf4
 v4:=Tryz.zeroValue4
 t5:=Tryz.underlying5
 a5:=Tryz.isAgg5
 z5:=Tryz.sizeOf5
 v5:=Tryz.zeroValue5
 t9:=Tryz.underlying9
 a9:=Tryz.isAgg9
 z9:=Tryz.sizeOf9
 v9:=Tryz.zeroValue9
 t28:=Tryz.underlying43
 a28:=Tryz.isAgg43
 z28:=Tryz.sizeOf43
 v28:=Tryz.zeroValue43
 t46:=Tryz.underlying152
 a46:=Tryz.isAgg152
 z46:=Tryz.sizeOf152
 v46:=Tryz.zeroValue152
 t51:=Tryz.underlying162
 a51:=Tryz.isAgg162
 z51:=Tryz.sizeOf162
 v51:=Tryz.zeroValue162
 t53:=Tryz.underlying165
 a53:=Tryz.isAgg165
 z53:=Tryz.sizeOf165
 v53:=Tryz.zeroValue165
 t131:=Tryz.underlying177
 a131:=Tryz.isAgg177
 z131:=Tryz.sizeOf177
 v131:=Tryz.zeroValue177
 t182:=Tryz.underlying171
 a182:=Tryz.isAgg171
 z182:=Tryz.sizeOf171
 v182:=Tryz.zeroValue171
 t183:=Tryz.underlying172
 a183:=Tryz.isAgg172
 z183:=Tryz.sizeOf172
 v183:=Tryz.zeroValue172
 t218:=Tryz.underlying181
 a218:=Tryz.isAgg181
 z218:=Tryz.sizeOf181
 v218:=Tryz.zeroValue181
 t222:=Tryz.underlying185
 a222:=Tryz.isAgg185
 z222:=Tryz.sizeOf185
 v222:=Tryz.zeroValue185
 t228:=Tryz.underlying187
 a228:=Tryz.isAgg187
 z228:=Tryz.sizeOf187
 v228:=Tryz.zeroValue187
 t229:=Tryz.underlying188
 a229:=Tryz.isAgg188
 z229:=Tryz.sizeOf188
 v229:=Tryz.zeroValue188
def Za9:Go.Shelf.Ren:=⟨(fun | 20=>127 | n=>n),(fun | 22=>43 | 3=>3 | 4=>4 | 0=>0 | n=>n),(fun | n=>n)⟩
theorem laysCompact:Lays2.n20 Tryz.prog Za9 where
 mixed:=by kernel_rfl
 f20:=Tryz.func127.trans (congrArg some (by kernel_rfl))
 t0:=Tryz.underlying0
 a0:=Tryz.isAgg0
 z0:=Tryz.sizeOf0
 v0:=Tryz.zeroValue0
 t3:=Tryz.underlying3
 a3:=Tryz.isAgg3
 z3:=Tryz.sizeOf3
 v3:=Tryz.zeroValue3
 t4:=Tryz.underlying4
 a4:=Tryz.isAgg4
 z4:=Tryz.sizeOf4
 v4:=Tryz.zeroValue4
 t22:=Tryz.underlying43
 a22:=Tryz.isAgg43
 z22:=Tryz.sizeOf43
 v22:=Tryz.zeroValue43
 i3:=by kernel_rfl
@[go_sem] def e114:EC:=.seq (.reg [(Qa 2 (.mv (.c .nl)))]) (.seq (.reg [(Qm 4 0),(Qa 5 (.call 109 [(.t 4)])),(Qm 3 5)]) (.seq (.reg [(Qm 6 3),(Qa 7 (.call 126 [(.t 6)]))]) (.seq (.reg [(Qm 8 3),(Qa 9 (.call 127 [(.t 8)])),(Qm 2 9)]) (.ret))))
theorem ok114:FnOK Tryz.prog 114 Tryz.f114 e114 [.t 2] 1 9:=⟨by kernel_rfl,⟨_,rfl,by kernel_rfl⟩,by kernel_rfl,by kernel_rfl⟩
noncomputable def Zb9 (x1:List Int):Option (List Int):=
 (Z89 x1).bind fun x2=>
 ifb (decide (x2.length<4611686018427387904)) (
 some (Lib.compact (x2.mergeSort fun x y=>decide (x≤y)))) none
theorem k_set_Of (x1:List Int) (r:List Int) (h:Zb9 x1=some r):Zu2 Tryz.prog 114 [.sl 1 (List.map Zx4 x1)] (.sl 1 (List.map Zx4 r)):=by
 refine Zy2 ok114 rfl rfl fun w0 H0=>?_
 rw [Zb9] at h
 refine Zo2 100 ?_
 dsimp only [e114,go_sem]
 refine ⟨by simp,?_⟩
 obtain ⟨x2,ex2,h⟩:=Option.bind_eq_some_iff.1 h
 refine Z65 trivial (Z99 x1 _ ex2) (by first | exact Z94 _ | simp [go_sem]) (by first | rfl | simp [go_sem]) ?_
 refine Zo2 100 ?_
 dsimp only [e114,go_sem]
 refine ⟨by simp,?_⟩
 by_cases hl:x2.length<4611686018427387904
 ·rw [show decide (x2.length<4611686018427387904)=true from decide_eq_true hl] at h
  have h:some (Lib.compact (x2.mergeSort fun x y=>decide (x≤y)))=some r:=h
  refine V_sort laysSort x2 trivial (by kernel_rfl) rfl rfl hl ?_
  refine Zo2 100 ?_
  dsimp only [e114,go_sem]
  refine ⟨by simp,?_⟩
  refine V_compact laysCompact (x2.mergeSort fun x y=>decide (x≤y)) trivial (by kernel_rfl) rfl rfl (by simpa using hl) ?_
  refine Zo2 100 ?_
  dsimp only [e114,go_sem]
  refine ⟨by simp,?_⟩
  refine Zb3 1 rfl ?_
  dsimp only [go_sem]
  exact Zr4 (res:=fun (r:List Int)=>.sl 1 (List.map Zx4 r)) ok114 h (by first | exact le_refl _ | simp [go_sem])
 ·rw [show decide (x2.length<4611686018427387904)=false from decide_eq_false hl] at h
  cases h
set_option maxRecDepth 100000
set_option maxHeartbeats 4000000
@[go_sem] def e88_L0:EC:=.seq (.reg [(Qa 15 (.bin .lss (.t 14) (.t 13)))]) (.seq (.ite (.t 15) (.skip) (.exit 0)) (.seq (.blk 1 (.seq (.reg [(Qk 16 2 12 14),(Qe 17 2 16),(Qa 7 (.alloc 29 [.iv 0,.iv 0])),(Qs 2 7 17)]) (.seq (.reg [(Qm 18 1)]) (.blk 2 (.seq (.reg [(Qf 20 0 7),(Ql 21 20),(Qa 22 (.bin .eql (.t 18) (.t 21))),(Qm 19 22)]) (.ite (.t 19) (.reg [(Qm 23 5),(Qf 24 1 7),(Ql 25 24),(Qa 26 (.bsl 3 1 1 [.iv 0] [(0,(.t 25))])),(Qa 27 (.app 3 1 8 (.t 23) (.t 26))),(Qm 5 27)]) (.seq (.reg [(Qf 29 1 7),(Ql 30 29),(Qa 31 (.bin .eql (.t 18) (.t 30))),(Qm 28 31)]) (.ite (.t 28) (.reg [(Qm 32 5),(Qf 33 0 7),(Ql 34 33),(Qa 35 (.bsl 3 1 1 [.iv 0] [(0,(.t 34))])),(Qa 36 (.app 3 1 8 (.t 32) (.t 35))),(Qm 5 36)]) (.skip))))))))) (.reg [(Qv 37 14 1),(Qm 14 37)])))
@[go_sem] def e88:EC:=.seq (.reg [(Qx 2 48 2 0),(Qa 4 (.mv (.c .nl)))]) (.seq (.seq (.reg [(Qe 8 2 2),(Qa 9 (.call 80 [(.t 8)])),(Qa 10 (.bin .neq (.t 9) (.c (.iv 0))))]) (.ite (.t 10) (.seq (.reg [(Qa 4 (.mv (.c .nl)))]) (.ret)) (.skip))) (.seq (.reg [(Qa 5 (.mv (.c .nl)))]) (.seq (.seq (.reg [(Qf 11 1 2),(Ql 12 11),(Qa 13 (.len (.t 12))),(Qi 14 0)]) (.blk 0 (.loop e88_L0))) (.seq (.reg [(Qm 38 5),(Qa 39 (.call 114 [(.t 38)])),(Qm 4 39)]) (.ret)))))
theorem ok88:FnOK Tryz.prog 88 Tryz.f88 e88 [.t 4] 2 38:=⟨by kernel_rfl,⟨_,rfl,by kernel_rfl⟩,by kernel_rfl,by kernel_rfl⟩
noncomputable def Zc9:(List Int)→Option (List Int)
| x23=>
 (Zb9 x23).bind fun x24=>
 some x24
noncomputable def Zd9 (x10:Int):(List Int)→Option ((Int×(List Int)) ⊕ (List Int))
| x15=>
 some (.inl (wr (x10+1),x15))
noncomputable def Ze9 (x1:Graph) (x2:Int):(Int×(List Int))→Option ((Int×(List Int)) ⊕ (List Int))
| (x10,x11)=>
 ifb (decide (x10<(ln Edge.row x1.Edges))) (
 (at_ x1.Edges x10).bind fun x12=>
 ifb (decide (x2=x12.A)) (
 (Za4 8 x11 ([x12.B])).bind fun x13=>
 (Zd9 x10) x13) (
 ifb (decide (x2=x12.B)) (
 (Za4 8 x11 ([x12.A])).bind fun x14=>
 (Zd9 x10) x14) (
 (Zd9 x10) x11))) (
 Option.map Sum.inr (Zc9 x11))
noncomputable def Zf9 (x1:Graph) (x2:Int):Option (List Int):=
 (Zy6 x1).bind fun x3=>
 ifb (!decide (x3=0)) (
 some ([]:(List Int))) (
 loop (Ze9 x1 x2) (0,([]:List Int)))
theorem Zg9 (x1:Graph) (x2:Int) (r:(List Int)) (h:Zf9 x1 x2=some r):Zu2 Tryz.prog 88 [.agg (Graph.row x1),.iv x2] (.sl 1 (List.map Zx4 r)):=by
 refine Zy2 ok88 rfl rfl fun w0 H0=>?_
 rw [Zf9] at h
 refine Zo2 9 ?_;dsimp only [go_sem];refine An ?_;obtain ⟨x3,ex3,h⟩:=Bs h;refine Z33 trivial (Zz6 x1 _ ex3) (h:=?_);refine Zo2 2 ?_;dsimp only [go_sem];refine An ?_;refine Zj4 h rfl (fun _ h=>?_) fun _ h=>?_
 ·refine Zo2 4 ?_;dsimp only [go_sem];refine An ?_;exact Zr4 (res:=fun (r:(List Int))=>.sl 1 (List.map Zx4 r)) ok88 h
 ·refine Zo2 13 ?_;dsimp only [go_sem];refine An ?_;refine Zh4 (fun (x23:(List Int))=>(⟨(an 5 (.osl 0::an 34 [])),[],[some ⟨3,1,List.map Zx4 x23⟩]⟩:St)) Zc9 r ?_ fun J1=>?_
  ·intro x23 h;rw [Zc9] at h;(try dsimp only);refine Zo2 3 ?_;dsimp only [go_sem];refine An ?_;refine Zb3 0 rfl ?_;dsimp only [go_sem];obtain ⟨x24,ex24,h⟩:=Bs h;refine Z33 trivial (k_set_Of x23 _ ex24) (h:=?_);refine Zo2 2 ?_;dsimp only [go_sem];refine An ?_;exact Zr4 (res:=fun (r:(List Int))=>.sl 1 (List.map Zx4 r)) ok88 h
  ·refine Zo2 1 ?_;dsimp only [go_sem];refine An ?_;refine Z64 5 3 1 rfl rfl ?_;dsimp only [go_sem];refine Zi4 h (fun ((x10,x11):(Int×(List Int)))=>(⟨(.any :: .iv x2::an 3 (.osl 0::an 6 (.sl 2 (List.map Edge.row x1.Edges) :: .iv (ln Edge.row x1.Edges) :: .iv x10::an 25 []))),[],[some ⟨3,1,List.map Zx4 x11⟩]⟩:St)) (by simp [go_sem]) (by rintro ⟨x10,x11⟩;first | rfl | simp [go_sem]) ?_;rintro n1 ⟨x10,x11⟩ y1 h hin1 hout1;rw [Ze9] at h;(try dsimp only);refine Zo2 5 ?_;dsimp only [go_sem];refine An ?_
   refine Zj4 h rfl (fun _ h=>?_) fun _ h=>?_
   ·refine Zo2 5 ?_;dsimp only [go_sem];refine An ?_;obtain ⟨x12,ex12,h⟩:=Bs h;refine Zm4 Edge.row ex12 trivial rfl rfl rfl ?_;refine Zo2 16 ?_;dsimp only [go_sem];refine An ?_;refine Zh4 (fun (x15:(List Int))=>(⟨(.any :: .iv x2::an 3 (.osl 0::an 6 (.sl 2 (List.map Edge.row x1.Edges) :: .iv (ln Edge.row x1.Edges) :: .iv x10::an 25 []))),[],[some ⟨3,1,List.map Zx4 x15⟩]⟩:St)) (Zd9 x10) y1 ?_ fun J2=>?_
    ·intro x15 h;rw [Zd9] at h;(try dsimp only);refine Zo2 6 ?_;dsimp only [go_sem];refine An ?_;exact Zs4 h hin1
    ·refine Zj4 h rfl (fun _ h=>?_) fun _ h=>?_
     ·refine Zo2 5 ?_;dsimp only [go_sem];refine An ?_;obtain ⟨x13,ex13,h⟩:=Bs h;refine Zo4 Zx4 ex13 trivial rfl rfl rfl ?_;refine Zo2 2 ?_;dsimp only [go_sem];refine An ?_;refine Z54 2 0 rfl rfl rfl ?_;dsimp only [go_sem];exact Zt4 J2 (s:=x13) h
     ·refine Zo2 7 ?_;dsimp only [go_sem];refine An ?_;refine Zj4 h rfl (fun _ h=>?_) fun _ h=>?_
      ·refine Zo2 5 ?_;dsimp only [go_sem];refine An ?_;obtain ⟨x14,ex14,h⟩:=Bs h;refine Zo4 Zx4 ex14 trivial rfl rfl rfl ?_;refine Zo2 2 ?_;dsimp only [go_sem];refine An ?_;refine Z54 2 0 rfl rfl rfl ?_;dsimp only [go_sem];exact Zt4 J2 (s:=x14) h
      ·refine Zo2 1 ?_;dsimp only [go_sem];refine An ?_;exact Zt4 J2 (s:=x11) h
   ·refine Zo2 1 ?_;dsimp only [go_sem];refine An ?_;exact Zt4 J1 (s:=x11) (Zg4 h hout1)
set_option maxRecDepth 100000
set_option maxHeartbeats 4000000
@[go_sem] def e56_L1:EC:=.seq (.reg [(Qa 34 (.bin .lss (.t 33) (.t 32)))]) (.seq (.ite (.t 34) (.skip) (.exit 2)) (.seq (.blk 3 (.seq (.reg [(Qk 35 1 31 33),(Ql 36 35),(Qm 11 36)]) (.seq (.drw [(Qm 37 1),(Qm 38 8),(Qk 39 1 37 38),(Ql 40 39),(Qm 41 1),(Qm 42 11),(Qk 43 1 41 42),(Ql 44 43),(Qa 45 (.bin .gtr (.t 40) (.t 44))),(Qm 12 45)] [[],[],[0,1],[2],[],[],[4,5],[6],[3,7],[8,0,1,2,3,4,5,6,7,8]] [[2],[2],[0,1,3],[2,8],[6],[6],[4,5,7],[6,8],[3,7,9],[8]]) (.reg [(Qf 46 2 9),(Ql 47 46),(Qm 48 11),(Qm 49 12),(Qm 50 12),(Qm 51 12),(Qm 52 12),(Qa 53 (.not (.t 52))),(Qm 54 12),(Qa 55 (.not (.t 54))),(Qa 56 (.build [.iv 0,.iv 0,.iv 0,.ff,.ff,.ff,.ff,.ff] [(0,1,(.t 48)),(1,1,(.c (.iv 1))),(3,1,(.t 49)),(4,1,(.t 50)),(6,1,(.t 51)),(5,1,(.t 53)),(7,1,(.t 55))])),(Qa 57 (.bsl 65 8 1 [.iv 0,.iv 0,.iv 0,.ff,.ff,.ff,.ff,.ff] [(0,(.t 56))])),(Qa 58 (.app 65 8 32 (.t 47) (.t 57))),(Qf 59 2 9),(Qs 1 59 58)])))) (.reg [(Qv 60 33 1),(Qm 33 60)])))
@[go_sem] def e56_L0:EC:=.seq (.reg [(Qa 25 (.bin .lss (.t 24) (.t 23)))]) (.seq (.ite (.t 25) (.skip) (.exit 0)) (.seq (.blk 1 (.seq (.reg [(Qm 26 24),(Qm 8 26)]) (.seq (.reg [(Qm 27 8),(Qa 28 (.build [.iv 0,.iv 0,.nl] [(0,1,(.t 27))])),(Qa 9 (.alloc 70 [.iv 0,.iv 0,.nl])),(Qs 3 9 28)]) (.seq (.seq (.reg [(Qe 29 2 2),(Qm 30 8),(Qa 31 (.call 88 [(.t 29),(.t 30)])),(Qa 32 (.len (.t 31))),(Qi 33 0)]) (.blk 2 (.loop e56_L1))) (.reg [(Qm 61 7),(Qe 62 3 9),(Qa 63 (.bsl 70 3 1 [.iv 0,.iv 0,.nl] [(0,(.t 62))])),(Qa 64 (.app 70 3 40 (.t 61) (.t 63))),(Qm 7 64)]))))) (.reg [(Qv 65 24 1),(Qm 24 65)])))
@[go_sem] def e56:EC:=.seq (.reg [(Qx 2 48 2 0),(Qa 4 (.mv (.c .nl))),(Qi 5 0)]) (.seq (.seq (.reg [(Qe 13 2 2),(Qa 14 (.call 80 [(.t 13)])),(Qm 6 14)]) (.seq (.reg [(Qm 15 6),(Qa 16 (.bin .neq (.t 15) (.c (.iv 0))))]) (.ite (.t 16) (.seq (.reg [(Qm 17 6),(Qa 4 (.mv (.c .nl))),(Qm 5 17)]) (.ret)) (.skip)))) (.seq (.seq (.reg [(Qe 18 2 2),(Qm 19 1),(Qa 20 (.call 87 [(.t 18),(.t 19)])),(Qa 21 (.not (.t 20)))]) (.ite (.t 21) (.seq (.reg [(Qa 4 (.mv (.c .nl))),(Qi 5 120)]) (.ret)) (.skip))) (.seq (.reg [(Qa 7 (.mv (.c .nl)))]) (.seq (.seq (.reg [(Qf 22 0 2),(Ql 23 22),(Qi 24 0)]) (.blk 0 (.loop e56_L0))) (.seq (.reg [(Qm 66 7),(Qm 4 66),(Qi 5 0)]) (.ret))))))
theorem ok56:FnOK Tryz.prog 56 Tryz.f56 e56 [.t 4,.t 5] 2 65:=⟨by kernel_rfl,⟨_,rfl,by kernel_rfl⟩,by kernel_rfl,by kernel_rfl⟩
noncomputable def Zh9:(List Diner)→Option ((List Diner)×Int)
| x68=>
 some (x68,0)
noncomputable def Zi9 (x31:Int) (x32:(List Diner)):(List Side)→Option ((Int×(List Diner)) ⊕ ((List Diner)×Int))
| x59=>
 (Za4 40 x32 ([(Diner.mk x31 0 x59)])).bind fun x60=>
 some (.inl (wr (x31+1),x60))
noncomputable def Zj9 (x2:(List Int)) (x31:Int) (x32:(List Diner)) (x33:(List Int)):(Int×(List Side))→Option ((Int×(List Side)) ⊕ ((Int×(List Diner)) ⊕ ((List Diner)×Int)))
| (x40,x41)=>
 ifb (decide (x40<(ln Zx4 x33))) (
 (at_ x33 x40).bind fun x42=>
 (at_ x2 x31).bind fun x43=>
 (at_ x2 x42).bind fun x44=>
 (Za4 32 x41 ([(Side.mk x42 1 0 (decide (x44<x43)) (decide (x44<x43)) (!(decide (x44<x43))) (decide (x44<x43)) (!(decide (x44<x43))))])).bind fun x45=>
 some (.inl (wr (x40+1),x45))) (
 Option.map Sum.inr ((Zi9 x31 x32) x41))
noncomputable def Zk9 (x1:Graph) (x2:(List Int)):(Int×(List Diner))→Option ((Int×(List Diner)) ⊕ ((List Diner)×Int))
| (x31,x32)=>
 ifb (decide (x31<x1.N)) (
 (Zf9 x1 x31).bind fun x33=>
 loop (Zj9 x2 x31 x32 x33) (0,([]:List Side))) (
 Option.map Sum.inr (Zh9 x32))
noncomputable def Zl9 (x1:Graph) (x2:(List Int)):Option ((List Diner)×Int):=
 (Zy6 x1).bind fun x3=>
 ifb (!decide (x3=0)) (
 some (([]:(List Diner)),x3)) (
 (Zr8 x1 x2).bind fun x4=>
 ifb (!x4) (
 some (([]:(List Diner)),120)) (
 loop (Zk9 x1 x2) (0,([]:List Diner))))
theorem k_place_Table (x1:Graph) (x2:(List Int)) (r:((List Diner)×Int)) (h:Zl9 x1 x2=some r):Zu2 Tryz.prog 56 [.agg (Graph.row x1),.sl 1 (List.map Zx4 x2)] (.tup [.sl 3 (List.map Diner.row r.1),.iv r.2]):=by
 refine Zy2 ok56 rfl rfl fun w0 H0=>?_
 rw [Zl9] at h
 refine Zo2 10 ?_;dsimp only [go_sem];refine An ?_;obtain ⟨x3,ex3,h⟩:=Bs h;refine Z33 trivial (Zz6 x1 _ ex3) (h:=?_);refine Zo2 7 ?_;dsimp only [go_sem];refine An ?_;refine Zj4 h rfl (fun _ h=>?_) fun _ h=>?_
 ·refine Zo2 6 ?_;dsimp only [go_sem];refine An ?_;exact Zr4 (res:=fun (r:((List Diner)×Int))=>.tup [.sl 3 (List.map Diner.row r.1),.iv r.2]) ok56 h
 ·refine Zo2 6 ?_;dsimp only [go_sem];refine An ?_;obtain ⟨x4,ex4,h⟩:=Bs h;refine Z33 trivial (Zs8 x1 x2 _ ex4) (h:=?_);refine Zo2 2 ?_;dsimp only [go_sem];refine An ?_;refine Zj4 h rfl (fun _ h=>?_) fun _ h=>?_
  ·refine Zo2 5 ?_;dsimp only [go_sem];refine An ?_;exact Zr4 (res:=fun (r:((List Diner)×Int))=>.tup [.sl 3 (List.map Diner.row r.1),.iv r.2]) ok56 h
  ·refine Zo2 12 ?_;dsimp only [go_sem];refine An ?_;refine Zh4 (fun (x68:(List Diner))=>(⟨(an 7 (.osl 0::an 59 [])),[],[some ⟨70,3,List.map Diner.row x68⟩]⟩:St)) Zh9 r ?_ fun J1=>?_
   ·intro x68 h;rw [Zh9] at h;(try dsimp only);refine Zo2 6 ?_;dsimp only [go_sem];refine An ?_;refine Zb3 0 rfl ?_;dsimp only [go_sem];exact Zr4 (res:=fun (r:((List Diner)×Int))=>.tup [.sl 3 (List.map Diner.row r.1),.iv r.2]) ok56 h
   ·refine Zo2 1 ?_;dsimp only [go_sem];refine An ?_;refine Z64 7 70 3 rfl rfl ?_;dsimp only [go_sem];refine Zi4 h (fun ((x31,x32):(Int×(List Diner)))=>(⟨(.any :: .sl 1 (List.map Zx4 x2) :: .ptr 0 0::an 4 (.osl 0::an 15 (.iv x1.N :: .iv x31::an 42 []))),[some ⟨48,[.iv x1.N,.sl 2 (List.map Edge.row x1.Edges)]⟩],[some ⟨70,3,List.map Diner.row x32⟩]⟩:St)) (by simp [go_sem]) (by rintro ⟨x31,x32⟩;first | rfl | simp [go_sem]) ?_;rintro n1 ⟨x31,x32⟩ y1 h hin1 hout1;rw [Zk9] at h;(try dsimp only);refine Zo2 5 ?_;dsimp only [go_sem]
    refine An ?_;refine Zj4 h rfl (fun _ h=>?_) fun _ h=>?_
    ·refine Zo2 20 ?_;dsimp only [go_sem];refine An ?_;obtain ⟨x33,ex33,h⟩:=Bs h;refine Z33 trivial (Zg9 x1 x31 _ ex33) (h:=?_);refine Zo2 3 ?_;dsimp only [go_sem];refine An ?_
     refine Zh4 (fun (x59:(List Side))=>(⟨(.any :: .sl 1 (List.map Zx4 x2) :: .ptr 0 0::an 4 (.osl 0 :: .any :: .ptr 1 0::an 13 (.iv x1.N :: .iv x31::an 42 []))),[some ⟨48,[.iv x1.N,.sl 2 (List.map Edge.row x1.Edges)]⟩,some ⟨70,[.iv x31,.iv 0,.osl 1]⟩],[some ⟨70,3,List.map Diner.row x32⟩,some ⟨65,8,List.map Side.row x59⟩]⟩:St)) (Zi9 x31 x32) y1 ?_ fun J2=>?_
     ·intro x59 h;rw [Zi9] at h;(try dsimp only);refine Zo2 3 ?_;dsimp only [go_sem];refine An ?_;refine Zb3 1 rfl ?_;dsimp only [go_sem];refine Zo2 1 ?_;dsimp only [go_sem];refine An ?_;obtain ⟨x60,ex60,h⟩:=Bs h;refine Zo4 Diner.row ex60 trivial rfl rfl rfl ?_;refine Zo2 7 ?_;dsimp only [go_sem];refine An ?_;refine Z54 3 0 rfl rfl rfl ?_;dsimp only [go_sem];exact Zs4 h hin1
     ·refine Zo2 1 ?_;dsimp only [go_sem];refine An ?_;refine V_ownB 1 2 65 8 rfl rfl rfl ?_;dsimp only [go_sem]
      refine Zi4 h (fun ((x40,x41):(Int×(List Side)))=>(⟨(.any :: .sl 1 (List.map Zx4 x2) :: .ptr 0 0::an 4 (.osl 0 :: .iv x31 :: .ptr 1 0::an 13 (.iv x1.N :: .iv x31::an 6 (.sl 1 (List.map Zx4 x33) :: .iv (ln Zx4 x33) :: .iv x40::an 33 [])))),[some ⟨48,[.iv x1.N,.sl 2 (List.map Edge.row x1.Edges)]⟩,some ⟨70,[.iv x31,.iv 0,.osl 1]⟩],[some ⟨70,3,List.map Diner.row x32⟩,some ⟨65,8,List.map Side.row x41⟩]⟩:St)) (by simp [go_sem]) (by rintro ⟨x40,x41⟩;first | rfl | simp [go_sem]) ?_;rintro n2 ⟨x40,x41⟩ y2 h hin2 hout2;rw [Zj9] at h
      (try dsimp only);refine Zo2 5 ?_;dsimp only [go_sem];refine An ?_;refine Zj4 h rfl (fun _ h=>?_) fun _ h=>?_
      ·refine Zo2 5 ?_;dsimp only [go_sem];refine An ?_;obtain ⟨x42,ex42,h⟩:=Bs h;refine Zm4 Zx4 ex42 trivial rfl rfl rfl ?_;refine Zo2 4 ?_;dsimp only [go_sem];refine An ?_;refine Zj3 (by kernel_rfl) fun all hall hs hnap haf=>?_;dsimp only [go_sem];refine Z75 hall hs haf hnap 4 6 ?_;dsimp only [go_sem];refine An ?_;obtain ⟨x43,ex43,h⟩:=Bs h;refine Zn4 hall hs haf hnap 2 Zx4 ex43 rfl rfl trivial rfl rfl rfl rfl ?_;refine Z75 hall hs haf hnap 1 4 ?_;dsimp only [go_sem];refine An ?_;obtain ⟨x44,ex44,h⟩:=Bs h
       refine Zn4 hall hs haf hnap 6 Zx4 ex44 rfl rfl trivial rfl rfl rfl rfl ?_;refine Z75 hall hs haf hnap 3 0 ?_;dsimp only [go_sem];refine An ?_;refine Zt3 rfl ?_ _;refine Zo2 13 ?_;dsimp only [go_sem];refine An ?_;obtain ⟨x45,ex45,h⟩:=Bs h;refine Zo4 Side.row ex45 trivial rfl rfl rfl ?_;refine Zo2 8 ?_;dsimp only [go_sem];refine An ?_;refine Z54 3 1 rfl rfl rfl ?_;dsimp only [go_sem];exact Zs4 h hin2
      ·refine Zo2 1 ?_;dsimp only [go_sem];refine An ?_;exact Zt4 J2 (s:=x41) (Zg4 h hout2)
    ·refine Zo2 1 ?_;dsimp only [go_sem];refine An ?_;exact Zt4 J1 (s:=x32) (Zg4 h hout1)
set_option maxRecDepth 100000
set_option maxHeartbeats 4000000
theorem pw_ext {α:Type} {R:α→α→Prop} (irr:∀x,¬R x x) (asy:∀x y,R x y→¬R y x):∀ {l m:List α},l.Pairwise R→m.Pairwise R→(∀x,x∈l↔x∈m)→l=m
 | [],[],_,_,_=>rfl
 | [],y::m,_,_,h=>absurd ((h y).2 (by simp)) (by simp)
 | x::l,[],_,_,h=>absurd ((h x).1 (by simp)) (by simp)
 | x::l,y::m,hl,hm,h=>by
   rw [List.pairwise_cons] at hl hm
   have hxy:x=y:=by
    rcases List.mem_cons.1 ((h x).1 (by simp)) with e | e
    ·exact e
    ·rcases List.mem_cons.1 ((h y).2 (by simp)) with e2 | e2
     ·exact e2.symm
     ·exact absurd (hl.1 y e2) (asy _ _ (hm.1 x e))
   subst hxy
   rw [pw_ext irr asy hl.2 hm.2 fun z=>?_]
   constructor
   ·intro hz
    rcases List.mem_cons.1 ((h z).1 (List.mem_cons_of_mem _ hz)) with e | e
    ·subst e;exact absurd (hl.1 z hz) (irr z)
    ·exact e
   ·intro hz
    rcases List.mem_cons.1 ((h z).2 (List.mem_cons_of_mem _ hz)) with e | e
    ·subst e;exact absurd (hm.1 z hz) (irr z)
    ·exact e
theorem Edge.lt_trans {x y z:Edge} (h:x.lt y=true) (k:y.lt z=true):x.lt z=true:=by
 simp only [Edge.lt,Bool.or_eq_true,Bool.and_eq_true,decide_eq_true_eq] at *
 omega
theorem Edge.lt_irr (x:Edge):¬x.lt x=true:=by
 simp only [Edge.lt,Bool.or_eq_true,Bool.and_eq_true,decide_eq_true_eq]
 omega
theorem Zm9:∀ {l:List Edge},risB l=true→l.Pairwise fun x y=>x.lt y=true
 | [],_=>List.Pairwise.nil
 | [x],_=>by simp
 | x::y::l,h=>by
   simp only [risB,Bool.and_eq_true] at h
   have ih:=Zm9 h.2
   refine List.pairwise_cons.2 ⟨?_,ih⟩
   intro z hz
   rcases List.mem_cons.1 hz with rfl | hz
   ·exact h.1
   ·exact Edge.lt_trans h.1 ((List.pairwise_cons.1 ih).1 z hz)
theorem okG_pw {g:Graph} (h:okG g=true):g.Edges.Pairwise fun x y=>x.lt y=true:=Zm9 (Zd7 h).2.2.2.2
def Zn9 (a:Int) (e:Edge):Option Int:=if a=e.A then some e.B else if a=e.B then some e.A else none
def Zo9 (g:Graph) (a:Int):List Int:=g.Edges.filterMap (Zn9 a)
theorem Zp9 {g:Graph} (h:okG g=true) (a:Int):(Zo9 g a).Pairwise (· < ·):=by
 unfold Zo9
 rw [List.pairwise_filterMap]
 obtain ⟨_,_,_,h4,_⟩:=Zd7 h
 refine List.Pairwise.imp_of_mem ?_ (okG_pw h)
 intro x y hx hy hxy b hb b' hb'
 have k1:=h4 x hx
 have k2:=h4 y hy
 simp only [Edge.lt,Bool.or_eq_true,Bool.and_eq_true,decide_eq_true_eq] at hxy
 unfold Zn9 at hb hb'
 split at hb<;>split at hb'
 ·simp at hb hb';omega
 ·split at hb'
  ·simp at hb hb';omega
  ·simp at hb'
 ·split at hb
  ·simp at hb hb';omega
  ·simp at hb
 ·split at hb<;>split at hb'
  ·simp at hb hb';omega
  ·simp at hb'
  ·simp at hb
  ·simp at hb
theorem pw_chain {l:List Int} (h:l.Pairwise (· < ·)) {k:Nat} {x y:Int} (hx:l[k]?=some x) (hy:l[k+1]?=some y):x<y:=by
 rw [List.pairwise_iff_getElem] at h
 obtain ⟨h1,rfl⟩:=List.getElem?_eq_some_iff.1 hx
 obtain ⟨h2,rfl⟩:=List.getElem?_eq_some_iff.1 hy
 exact h k (k+1) h1 h2 (by omega)
theorem compact_pw {l:List Int} (h:l.Pairwise (· < ·)):Lib.compact l=l:=by
 refine Lib.compact_all l fun j hj=>?_
 cases j with
 | zero=>exact Lib.keeps_lt_one _ 0 (by omega)
 | succ j=>
   have hx:l[j+1]?=some l[j+1]:=List.getElem?_eq_getElem hj
   have hy:l[j]?=some l[j]:=List.getElem?_eq_getElem (by omega)
   have:=pw_chain h hy hx
   refine Lib.keeps_pos ?_
   simp only [Nat.add_sub_cancel]
   rw [getElem!_pos _ _ (by simpa using hj),getElem!_pos _ _ (by simp;omega)]
   simp only [List.getElem_toArray]
   omega
def setL (l:List Int):List Int:=Lib.compact (l.mergeSort fun x y=>decide (x≤y))
theorem s_setL (l:List Int) (hl:l.length≤1000000):Zb9 l=some (setL l):=by
 simp only [Zb9,Z89]
 rw [Zz5 _ _ (by omega) (by simp;omega),Option.bind_some,List.nil_append,decide_eq_true (by omega),Zu5]
 rfl
theorem s_setOf (l:List Int) (hl:l.length≤1000000) (h:l.Pairwise (· < ·)):Zb9 l=some l:=by
 rw [s_setL l hl]
 unfold setL
 rw [List.mergeSort_of_pairwise (h.imp fun hxy=>decide_eq_true (by omega)),compact_pw h]
theorem Zq9 (g:Graph) (a:Int):(Zo9 g a).length≤g.Edges.length:=List.length_filterMap_le _ _
theorem s_Near (g:Graph) (a:Int):Zf9 g a=some (if okG g then Zo9 g a else []):=by
 simp only [Zf9,Zc7,Option.bind_some]
 cases hg:okG g with
 | false=>rfl
 | true=>
   have h400:=(Zd7 hg).2.2.1
   simp only [if_true,decide_true,Bool.not_true,Zv5]
   refine Zm7 g.Edges _ (fun pre=>((pre.length:Int),pre.filterMap (Zn9 a))) (Zo9 g a) (fun pre e post h=>?_) ?_
   ·have hx:=Zn7 h
    have hm:=Zo7 h
    have hl:(pre.filterMap (Zn9 a)).length≤pre.length:=List.length_filterMap_le _ _
    dsimp only [Ze9]
    rw [Z06 hx,Zu5,Zy5 hx,Option.bind_some,Zr7,List.filterMap_append]
    by_cases h1:a=e.A
    ·rw [decide_eq_true h1,Zu5,Zz5 _ _ (by omega) (by simp only [List.length_singleton];omega),Option.bind_some,Zd9,Z26 (by omega)]
     simp [Zn9,h1]
    ·by_cases h2:a=e.B
     ·rw [decide_eq_false h1,Zv5,decide_eq_true h2,Zu5,Zz5 _ _ (by omega) (by simp only [List.length_singleton];omega),Option.bind_some,Zd9,Z26 (by omega)]
      have:¬e.B=e.A:=fun e'=>h1 (h2.trans e')
      simp [Zn9,h2,this]
     ·rw [decide_eq_false h1,Zv5,decide_eq_false h2,Zv5,Zd9,Z26 (by omega)]
      simp [Zn9,h1,h2]
   ·dsimp only [Ze9]
    rw [Z16,Zv5,Zc9]
    have:(g.Edges.filterMap (Zn9 a))=Zo9 g a:=rfl
    rw [this,s_setOf _ (by have:=Zq9 g a;omega) (Zp9 hg a)]
    rfl
theorem Zr9 {g:Graph} (h:okG g=true) {a b:Int}:b∈Zo9 g a↔(⟨a,b⟩:Edge)∈g.Edges∨(⟨b,a⟩:Edge)∈g.Edges:=by
 obtain ⟨_,_,_,h4,_⟩:=Zd7 h
 unfold Zo9
 rw [List.mem_filterMap]
 constructor
 ·rintro ⟨e,he,hb⟩
  unfold Zn9 at hb
  split at hb
  ·rename_i h1
   simp at hb;subst hb;subst h1;exact .inl he
  ·split at hb
   ·rename_i h2
    simp at hb;subst hb;subst h2;exact .inr he
   ·simp at hb
 ·rintro (he | he)
  ·exact ⟨_,he,by simp [Zn9]⟩
  ·have:=h4 _ he
   dsimp only at this
   exact ⟨_,he,by unfold Zn9;rw [if_neg (by dsimp only;omega),if_pos rfl]⟩
theorem Zs9 {g:Graph} (h:okG g=true) {a b:Int} (hb:b∈Zo9 g a):0≤b∧b<g.N∧b≠a∧0≤a∧a<g.N:=by
 obtain ⟨_,_,_,h4,_⟩:=Zd7 h
 rcases (Zr9 h).1 hb with he | he
 ·have:=h4 _ he;dsimp only at this;omega
 ·have:=h4 _ he;dsimp only at this;omega
def Zt9 (c:List Int) (a b:Int):Side:=⟨b,1,0,decide (cg c b<cg c a),decide (cg c b<cg c a),!decide (cg c b<cg c a),decide (cg c b<cg c a),!decide (cg c b<cg c a)⟩
def Zu9 (g:Graph) (c:List Int) (a:Nat):Diner:=⟨a,0,(Zo9 g a).map (Zt9 c a)⟩
def Zv9 (g:Graph) (c:List Int):List Diner:=(List.range g.N.toNat).map (Zu9 g c)
theorem Zw9 {α:Type} (f:Nat→α) (k:Nat):(List.range (k+1)).map f=(List.range k).map f++[f k]:=by simp [List.range_succ]
theorem s_Table2 (g:Graph) (hg:okG g=true) (c:List Int) (hc:(c.length:Int)=g.N) (a:Nat) (ha:(a:Int)<g.N) (L:List Diner) (hL:L.length≤1000):
  loop (Zj9 c a L (Zo9 g a)) (0,[])=some (.inl (((a+1:Nat):Int),L++[Zu9 g c a])):=by
 obtain ⟨g1,g2,g3,_,_⟩:=Zd7 hg
 have hnl:=Zq9 g a
 refine Zm7 (Zo9 g a) _ (fun pre=>((pre.length:Int),pre.map (Zt9 c a))) _ (fun pre b post h=>?_) ?_
 ·have hx:=Zn7 h
  have hm:=Zo7 h
  obtain ⟨b1,b2,_,_,_⟩:=Zs9 hg (Zp7 h)
  dsimp only [Zj9]
  rw [Z06 hx,Zu5,Zy5 hx,Option.bind_some,at_cg (c:=c) (Int.natCast_nonneg a) (by omega),Option.bind_some,at_cg (c:=c) b1 (by omega),Option.bind_some,Zz5 _ _ (by omega) (by simp;omega),Option.bind_some,Zr7,Z26 (by omega),List.map_append]
  rfl
 ·dsimp only [Zj9]
  rw [Z16,Zv5,Zi9,Zz5 _ _ (by omega) (by simp;omega),Option.bind_some,Z26 (by omega)]
  rfl
theorem rightB_len {g:Graph} {c:List Int} (h:Z69 g c=true):(c.length:Int)=g.N:=by
 simp only [Z69,Bool.and_eq_true,decide_eq_true_eq] at h;exact h.1
theorem s_Table (g:Graph) (c:List Int) (hc:c.length≤1000000):Zl9 g c=some (if okG g then (if Z69 g c then (Zv9 g c,0) else ([],120)) else ([],30)):=by
 simp only [Zl9,Zc7,Option.bind_some]
 cases hg:okG g with
 | false=>rfl
 | true=>
   obtain ⟨g1,g2,_,_,_⟩:=Zd7 hg
   simp only [if_true,decide_true,Bool.not_true,Zv5,s_Right g c hc,hg,Bool.true_and,Option.bind_some]
   cases hr:Z69 g c with
   | false=>rfl
   | true=>
     simp only [Bool.not_true,Zv5,if_true]
     refine Zs7 g.N.toNat (Zk9 g c) (fun k=>((k:Int),(List.range k).map (Zu9 g c))) _ (fun k hk=>?_) ?_
     ·dsimp only [Zk9]
      rw [decide_eq_true (by omega),Zu5,s_Near,hg,if_pos rfl,Option.bind_some,s_Table2 g hg c (rightB_len hr) k (by omega) _ (by simp;omega),Zw9]
     ·dsimp only [Zk9]
      rw [decide_eq_false (by omega),Zv5]
      rfl
theorem rightB_ne {g:Graph} (hg:okG g=true) {c:List Int} (h:Z69 g c=true) {a b:Int} (hb:b∈Zo9 g a):cg c a≠cg c b:=by
 simp only [Z69,Bool.and_eq_true,List.all_eq_true,Bool.not_eq_true',decide_eq_false_iff_not] at h
 rcases (Zr9 hg).1 hb with he | he
 ·exact h.2.2 _ he
 ·exact fun e=>h.2.2 _ he e.symm
theorem Zx9 {g:Graph} {c:List Int} {a:Int} (h0:0≤a) (h:a<g.N):(Zv9 g c)[a.toNat]?=some (Zu9 g c a.toNat):=by
 unfold Zv9
 rw [List.getElem?_map,List.getElem?_range (by omega)];rfl
theorem Zy9 {g:Graph} (hg:okG g=true) (c:List Int):((Zv9 g c).length:Int)=g.N:=by
 have:=(Zd7 hg).1
 simp [Zv9];omega
theorem sideO_T (g:Graph) (c:List Int) (a:Nat) (b:Int):Zw7 (Zu9 g c a) b=if b∈Zo9 g a then some (Zt9 c a b) else none:=by
 unfold Zw7 Zu9
 dsimp only
 rw [List.find?_map]
 have e:((fun x:Side=>decide (x.Peer=b))∘Zt9 c a)=fun z=>decide (z=b):=rfl
 rw [e]
 by_cases h:b∈Zo9 g a
 ·rw [if_pos h]
  have:(Zo9 g a).find? (fun z=>decide (z=b))=some b:=by
   cases hf:(Zo9 g a).find? (fun z=>decide (z=b)) with
   | none=>rw [List.find?_eq_none] at hf;exact absurd (by simp) (hf b h)
   | some z=>have:=List.find?_some hf;simp at this;rw [this]
  rw [this];rfl
 ·rw [if_neg h]
  have:(Zo9 g a).find? (fun z=>decide (z=b))=none:=by
   rw [List.find?_eq_none];intro z hz;simp;rintro rfl;exact h hz
  rw [this];rfl
theorem Zz9 {g:Graph} (hg:okG g=true) {a b:Int} (h:b∈Zo9 g a):a∈Zo9 g b:=by
 rw [Zr9 hg] at *;exact h.symm
theorem tableT_pw {g:Graph} (hg:okG g=true) (c:List Int) (d:Diner) (hd:d∈Zv9 g c):d.Sides.Pairwise fun x y=>x.Peer<y.Peer:=by
 obtain ⟨a,_,rfl⟩:=List.mem_map.1 hd
 simp only [Zu9,List.pairwise_map]
 exact Zp9 hg a
theorem graphP_T {g:Graph} (hg:okG g=true) (c:List Int):Zd8 (Zv9 g c)=(g,true):=by
 obtain ⟨g1,g2,g3,g4,g5⟩:=Zd7 hg
 have hlen:=Zy9 hg c
 have hall:Za8 (Zv9 g c) 0 (Zv9 g c)=true:=by
  rw [Zj8]
  intro k d hd
  have hk:=(List.getElem?_eq_some_iff.1 hd).1
  have e:=Zx9 (g:=g) (c:=c) (a:=(k:Int)) (by omega) (by omega)
  rw [Int.toNat_natCast,hd] at e
  simp at e;subst e
  refine ⟨by simp [Zu9],?_⟩
  rw [Nat.zero_add,Zi8]
  refine ⟨fun x hx=>?_,tableT_pw hg c _ (List.mem_iff_getElem?.2 ⟨_,hd⟩),by simp⟩
  obtain ⟨b,hb,rfl⟩:=List.mem_map.1 hx
  obtain ⟨b1,b2,b3,_,_⟩:=Zs9 hg hb
  have hs:Zw7 (Zu9 g c b.toNat) k=some (Zt9 c b.toNat k):=by
   rw [sideO_T,if_pos]
   rw [Int.toNat_of_nonneg b1];exact Zz9 hg hb
  have hs':(Zw7 (Zu9 g c b.toNat) (k:Int)).isSome=true:=by rw [hs];rfl
  show (decide (0≤b)&&(decide (b<((Zv9 g c).length:Int))&&(!decide (b=(k:Int))&&(match (Zv9 g c)[b.toNat]? with | some e=>(Zw7 e k).isSome | none=>false))))=true
  rw [decide_eq_true b1,decide_eq_true (by omega),decide_eq_false b3,Zx9 (c:=c) b1 b2]
  simpa using hs'
 have hedges:Zb8 0 (Zv9 g c)=g.Edges:=by
  refine pw_ext (R:=fun x y=>x.lt y=true) Edge.lt_irr (fun x y h1 h2=>Edge.lt_irr x (Edge.lt_trans h1 h2)) (edgesL_pw (tableT_pw hg c)) (okG_pw hg) fun e=>?_
  rw [Zl8]
  constructor
  ·rintro ⟨k,d,hd,he⟩
   have hk:=(List.getElem?_eq_some_iff.1 hd).1
   have e':=Zx9 (g:=g) (c:=c) (a:=(k:Int)) (by omega) (by omega)
   rw [Int.toNat_natCast,hd] at e'
   simp at e';subst e'
   obtain ⟨h1,h2,x,hx,h3⟩:=Zk8.1 he
   obtain ⟨b,hb,rfl⟩:=List.mem_map.1 hx
   simp only [Zt9] at h3
   subst h3
   rw [Nat.zero_add] at h1 h2
   rcases (Zr9 hg).1 hb with hb | hb
   ·obtain ⟨e1,e2⟩:=e;dsimp only at h1 hb;rw [h1];exact hb
   ·have:=g4 _ hb;dsimp only at this;omega
  ·intro he
   have h:=g4 e he
   refine ⟨e.A.toNat,Zu9 g c e.A.toNat,Zx9 h.1 (by omega),Zk8.2 ⟨by omega,by omega,Zt9 c e.A.toNat e.B,?_,rfl⟩⟩
   simp only [Zu9]
   refine List.mem_map_of_mem ?_
   rw [Zr9 hg,Int.toNat_of_nonneg h.1]
   exact .inl he
 have hG:(⟨(Zv9 g c).length,Zb8 0 (Zv9 g c)⟩:Graph)=g:=by
  rw [hedges,hlen]
 unfold Zd8
 rw [hG,hall,hg];rfl
set_option maxRecDepth 100000
set_option maxHeartbeats 4000000
@[go_sem] def e78:EC:=.seq (.reg [(Qx 3 65 8 0),(Qa 4 (.mv (.c .ff)))]) (.seq (.reg [(Qf 6 0 3),(Ql 7 6),(Ql 8 1),(Qa 9 (.bin .gtr (.t 7) (.t 8))),(Qm 10 9),(Qh 11 10 true 0 3),(Qn 12 10 true 11),(Qh 13 10 true 0 2),(Qn 14 10 true 13),(Qg 15 10 true (.bin .neq (.t 12) (.t 14))),(Qp 16 10 15),(Qm 5 16)]) (.seq (.reg [(Qf 17 0 3),(Ql 18 17),(Qs 1 1 18)]) (.seq (.reg [(Qm 19 5),(Qa 20 (.not (.t 19))),(Qm 21 20),(Qh 22 21 false 1 3),(Qn 23 21 false 22),(Qg 24 21 false (.bin .lss (.t 23) (.c (.iv 0)))),(Qq 25 21 24),(Qm 26 25),(Qh 27 26 false 1 3),(Qn 28 26 false 27),(Qg 29 26 false (.bin .gtr (.t 28) (.c (.iv 65535)))),(Qq 30 26 29),(Qm 31 30),(Qh 32 31 false 2 3),(Qn 33 31 false 32),(Qg 34 31 false (.bin .lss (.t 33) (.c (.iv 0)))),(Qq 35 31 34),(Qm 36 35),(Qh 37 36 false 2 3),(Qn 38 36 false 37),(Qg 39 36 false (.bin .gtr (.t 38) (.c (.iv 3)))),(Qq 40 36 39),(Qm 41 40),(Qh 42 41 false 4 3),(Qn 43 41 false 42),(Qg 44 41 false (.mv (.t 43))),(Qh 45 44 true 3 3),(Qn 46 44 true 45),(Qg 47 44 true (.not (.t 46))),(Qg 48 41 false (.pick (.t 44) (.t 47) (.c .ff))),(Qq 49 41 48),(Qm 4 49)]) (.ret))))
theorem ok78:FnOK Tryz.prog 78 Tryz.f78 e78 [.t 4] 3 47:=⟨by kernel_rfl,⟨_,rfl,by kernel_rfl⟩,by kernel_rfl,by kernel_rfl⟩
set_option maxRecDepth 100000
set_option maxHeartbeats 4000000
@[go_sem] def e79:EC:=.seq (.reg [(Qa 4 (.mv (.c .ff)))]) (.seq (.reg [(Qm 5 0),(Qm 6 1),(Qa 7 (.call 64 [(.t 5),(.t 6)])),(Qa 8 (.bin .geq (.t 7) (.c (.iv 0)))),(Qm 4 8)]) (.ret))
theorem ok79:FnOK Tryz.prog 79 Tryz.f79 e79 [.t 4] 2 7:=⟨by kernel_rfl,⟨_,rfl,by kernel_rfl⟩,by kernel_rfl,by kernel_rfl⟩
set_option maxRecDepth 100000
set_option maxHeartbeats 4000000
@[go_sem] def e43:EC:=.seq (.reg [(Qx 1 70 3 0),(Qi 2 0)]) (.seq (.reg [(Qa 3 (.alloc 3 [.iv 0])),(Qb (.store 1 (.t 3) (.c (.iv (-1)))))]) (.seq (.reg [(Qa 5 (.mkf 78 [(.t 3),(.t 1)])),(Qm 4 5)]) (.seq (.seq (.reg [(Qf 6 0 1),(Ql 7 6),(Qa 8 (.bin .lss (.t 7) (.c (.iv 0)))),(Qm 9 8),(Qh 10 9 false 1 1),(Qn 11 9 false 10),(Qg 12 9 false (.bin .lss (.t 11) (.c (.iv 0)))),(Qq 13 9 12),(Qm 14 13),(Qh 15 14 false 1 1),(Qn 16 14 false 15),(Qg 17 14 false (.bin .gtr (.t 16) (.c (.iv 2)))),(Qq 18 14 17),(Qm 19 18),(Qh 20 19 false 2 1),(Qn 21 19 false 20),(Qg 22 19 false (.len (.t 21))),(Qg 23 19 false (.bin .geq (.t 22) (.c (.iv 64)))),(Qq 24 19 23),(Qm 25 24),(Qh 26 25 false 2 1),(Qn 27 25 false 26),(Qg 28 25 false (.mv (.t 4))),(Qg 29 25 false (.call 79 [(.t 27),(.t 28)])),(Qq 30 25 29)]) (.ite (.t 30) (.seq (.reg [(Qi 2 130)]) (.ret)) (.skip))) (.seq (.reg [(Qi 2 0)]) (.ret)))))
theorem ok43:FnOK Tryz.prog 43 Tryz.f43 e43 [.t 2] 1 30:=⟨by kernel_rfl,⟨_,rfl,by kernel_rfl⟩,by kernel_rfl,by kernel_rfl⟩
noncomputable def Z0a:Bool→Option Bool
| x5=>
 some x5
noncomputable def Z1a (x1:Side):Bool→Option Bool
| x4=>
 ifb (!x4) (
 Z0a true) (
 ifb (decide (x1.Epoch<0)) (
 Z0a true) (
 ifb (decide (65535<x1.Epoch)) (
 Z0a true) (
 ifb (decide (x1.State<0)) (
 Z0a true) (
 ifb (decide (3<x1.State)) (
 Z0a true) (
 ifb x1.Dirty (
 Z0a (!x1.Fork)) (
 Z0a false))))))
noncomputable def Z2a (x1:Side) (x2:Diner) (x3:Int):Option Bool:=
 ifb (decide (x3<x1.Peer)) (
 (Z1a x1) (!decide (x1.Peer=x2.ID))) (
 (Z1a x1) false)
theorem Z3a (x1:Side) (x2:Diner) (x3:Int) (r:Bool) (h:Z2a x1 x2 x3=some r):FunT Tryz.prog 78 [.agg [.iv x1.Peer,.iv x1.Epoch,.iv x1.State,.bv x1.Fork,.bv x1.Dirty,.bv x1.Token,.bv x1.Bottle,.bv x1.Ask],.ptr 1 0,.ptr 0 0] [some ⟨70,[.iv x2.ID,.iv x2.Phase,.sl 8 (List.map Side.row x2.Sides)]⟩,some ⟨3,[.iv x3]⟩] [] (.bv r) [some ⟨70,[.iv x2.ID,.iv x2.Phase,.sl 8 (List.map Side.row x2.Sides)]⟩,some ⟨3,[.iv x1.Peer]⟩] []:=by
 refine Zk5 ok78 rfl rfl rfl (by first | rfl | simp [go_sem]) fun w0 M0=>?_
 rw [Z2a] at h
 dsimp only [lun,List.cons_append,List.nil_append]
 refine Zo2 12 ?_;dsimp only [go_sem];refine An ?_;refine Zh4 (fun (x4:Bool)=>(⟨(.any :: .ptr 1 0 :: .any :: .ptr 2 0 :: .any :: .bv x4::an 44 []),[some ⟨70,[.iv x2.ID,.iv x2.Phase,.sl 8 (List.map Side.row x2.Sides)]⟩,some ⟨3,[.iv x3]⟩,some ⟨65,[.iv x1.Peer,.iv x1.Epoch,.iv x1.State,.bv x1.Fork,.bv x1.Dirty,.bv x1.Token,.bv x1.Bottle,.bv x1.Ask]⟩],[]⟩:St)) (Z1a x1) r ?_ fun J1=>?_
 ·intro x4 h;rw [Z1a] at h;(try dsimp only);refine Zo2 11 ?_;dsimp only [go_sem];refine An ?_;refine Zh4 (fun (x5:Bool)=>(⟨(an 4 (.bv x5::an 45 [])),[some ⟨70,[.iv x2.ID,.iv x2.Phase,.sl 8 (List.map Side.row x2.Sides)]⟩,some ⟨3,[.iv x1.Peer]⟩],[]⟩:St)) Z0a r ?_ fun J2=>?_
  ·intro x5 h;rw [Z0a] at h;(try dsimp only);obtain rfl:=Option.some.inj h;exact T_done ok78 rfl (by simp [go_sem])
  ·refine Zq4 21 h rfl (fun _ h=>?_) fun _ h=>?_
   ·dsimp only [go_sem];refine Zo2 30 ?_;dsimp only [go_sem];refine An ?_;exact Zt4 J2 (s:=true) h
   ·dsimp only [go_sem];refine Zo2 5 ?_;dsimp only [go_sem];refine An ?_;refine Zq4 26 h rfl (fun _ h=>?_) fun _ h=>?_
    ·dsimp only [go_sem];refine Zo2 25 ?_;dsimp only [go_sem];refine An ?_;exact Zt4 J2 (s:=true) h
    ·dsimp only [go_sem];refine Zo2 5 ?_;dsimp only [go_sem];refine An ?_;refine Zq4 31 h rfl (fun _ h=>?_) fun _ h=>?_
     ·dsimp only [go_sem];refine Zo2 20 ?_;dsimp only [go_sem];refine An ?_;exact Zt4 J2 (s:=true) h
     ·dsimp only [go_sem];refine Zo2 5 ?_;dsimp only [go_sem];refine An ?_;refine Zq4 36 h rfl (fun _ h=>?_) fun _ h=>?_
      ·dsimp only [go_sem];refine Zo2 15 ?_;dsimp only [go_sem];refine An ?_;exact Zt4 J2 (s:=true) h
      ·dsimp only [go_sem];refine Zo2 5 ?_;dsimp only [go_sem];refine An ?_;refine Zq4 41 h rfl (fun _ h=>?_) fun _ h=>?_
       ·dsimp only [go_sem];refine Zo2 10 ?_;dsimp only [go_sem];refine An ?_;exact Zt4 J2 (s:=true) h
       ·dsimp only [go_sem];refine Zo2 3 ?_;dsimp only [go_sem];refine An ?_;refine Zq4 44 h rfl (fun _ h=>?_) fun _ h=>?_
        ·dsimp only [go_sem];refine Zo2 7 ?_;dsimp only [go_sem];refine An ?_;exact Zt4 J2 (s:=!x1.Fork) h
        ·dsimp only [go_sem];refine Zo2 7 ?_;dsimp only [go_sem];refine An ?_;exact Zt4 J2 (s:=false) h
 ·refine Zq4 10 h rfl (fun _ h=>?_) fun _ h=>?_
  ·dsimp only [go_sem];refine Zo2 8 ?_;dsimp only [go_sem];refine An ?_;exact Zt4 J1 (s:=!decide (x1.Peer=x2.ID)) h
  ·dsimp only [go_sem];refine Zo2 8 ?_;dsimp only [go_sem];refine An ?_;exact Zt4 J1 (s:=false) h
noncomputable def Z4a:Int→Option (Int×Int)
| x19=>
 some ((-1),x19)
noncomputable def Z5a (x1:(List Side)) (x2:Diner):(Int×Int)→Option ((Int×Int) ⊕ (Int×Int))
| (x8,x9)=>
 ifb (decide (x8<(ln Side.row x1))) (
 (at_ x1 x8).bind fun x10=>
 (Z2a x10 x2 x9).bind fun x11=>
 ifb x11 (
 Option.map Sum.inr (some (x8,x10.Peer))) (
 some (.inl (wr (x8+1),x10.Peer)))) (
 Option.map Sum.inr (Z4a x9))
noncomputable def Z6a (x1:(List Side)) (x2:Diner) (x3:Int):Option (Int×Int):=
 loop (Z5a x1 x2) (0,x3)
theorem Z7a (x1:(List Side)) (x2:Diner) (x3:Int) (r:(Int×Int)) (h:Z6a x1 x2 x3=some r):FunT Tryz.prog 64 [.sl 8 (List.map Side.row x1),.clo 78 [.ptr 1 0,.ptr 0 0]] [some ⟨70,[.iv x2.ID,.iv x2.Phase,.sl 8 (List.map Side.row x2.Sides)]⟩,some ⟨3,[.iv x3]⟩] [] (.iv r.1) [some ⟨70,[.iv x2.ID,.iv x2.Phase,.sl 8 (List.map Side.row x2.Sides)]⟩,some ⟨3,[.iv r.2]⟩] []:=by
 refine Zk5 ok64 rfl rfl rfl (by first | rfl | simp [go_sem]) fun w0 M0=>?_
 rw [Z6a] at h
 dsimp only [lun,List.cons_append,List.nil_append]
 refine Zo2 11 ?_;dsimp only [go_sem];refine An ?_;refine Zh4 (fun (x19:Int)=>(⟨(an 19 []),[some ⟨70,[.iv x2.ID,.iv x2.Phase,.sl 8 (List.map Side.row x2.Sides)]⟩,some ⟨3,[.iv x19]⟩],[]⟩:St)) Z4a r ?_ fun J1=>?_
 ·intro x19 h;rw [Z4a] at h;(try dsimp only);refine Zo2 4 ?_;dsimp only [go_sem];refine An ?_;obtain rfl:=Option.some.inj h;exact T_done ok64 rfl (by simp [go_sem])
 ·refine Zo2 1 ?_;dsimp only [go_sem];refine An ?_;refine Zi4 h (fun ((x8,x9):(Int×Int))=>(⟨(.sl 8 (List.map Side.row x1) :: .clo 78 [.ptr 1 0,.ptr 0 0]::an 5 (.iv (ln Side.row x1) :: .iv x8::an 10 [])),[some ⟨70,[.iv x2.ID,.iv x2.Phase,.sl 8 (List.map Side.row x2.Sides)]⟩,some ⟨3,[.iv x9]⟩],[]⟩:St)) (by simp [go_sem]) (by rintro ⟨x8,x9⟩;first | rfl | simp [go_sem]) ?_;rintro n1 ⟨x8,x9⟩ y1 h hin1 hout1;rw [Z5a] at h;(try dsimp only);refine Zo2 5 ?_;dsimp only [go_sem];refine An ?_
  refine Zj4 h rfl (fun _ h=>?_) fun _ h=>?_
  ·refine Zo2 13 ?_;dsimp only [go_sem];refine An ?_;obtain ⟨x10,ex10,h⟩:=Bs h;refine Zm4 Side.row ex10 trivial rfl rfl rfl ?_;refine Zo2 1 ?_;dsimp only [go_sem];refine An ?_;obtain ⟨x11,ex11,h⟩:=Bs h;refine Zm5 [true,true] [] trivial rfl (Z3a x10 x2 x9 _ ex11) (by kernel_rfl) (h:=?_);dsimp only [go_sem];refine Zo2 1 ?_;dsimp only [go_sem];refine An ?_;refine Zj4 h rfl (fun _ h=>?_) fun _ h=>?_
   ·refine Zo2 5 ?_;dsimp only [go_sem];refine An ?_;obtain rfl:=Option.some.inj (Zg4 h hout1);exact T_done ok64 rfl (by simp [go_sem])
   ·refine Zo2 6 ?_;dsimp only [go_sem];refine An ?_;exact Zs4 h hin1
  ·refine Zo2 1 ?_;dsimp only [go_sem];refine An ?_;exact Zt4 J1 (s:=x9) (Zg4 h hout1)
noncomputable def Z8a (x1:(List Side)) (x2:Diner) (x3:Int):Option (Bool×Int):=
 (Z6a x1 x2 x3).bind fun x4=>
 some (decide (0≤x4.1),x4.2)
theorem Z9a (x1:(List Side)) (x2:Diner) (x3:Int) (r:(Bool×Int)) (h:Z8a x1 x2 x3=some r):FunT Tryz.prog 79 [.sl 8 (List.map Side.row x1),.clo 78 [.ptr 1 0,.ptr 0 0]] [some ⟨70,[.iv x2.ID,.iv x2.Phase,.sl 8 (List.map Side.row x2.Sides)]⟩,some ⟨3,[.iv x3]⟩] [] (.bv r.1) [some ⟨70,[.iv x2.ID,.iv x2.Phase,.sl 8 (List.map Side.row x2.Sides)]⟩,some ⟨3,[.iv r.2]⟩] []:=by
 refine Zk5 ok79 rfl rfl rfl (by first | rfl | simp [go_sem]) fun w0 M0=>?_
 rw [Z8a] at h
 dsimp only [lun,List.cons_append,List.nil_append]
 refine Zo2 8 ?_;dsimp only [go_sem];refine An ?_;obtain ⟨x4,ex4,h⟩:=Bs h;refine V_callT [true,true] [] trivial (Z7a x1 x2 x3 _ ex4) (h:=?_);dsimp only [go_sem];refine Zo2 3 ?_;dsimp only [go_sem];refine An ?_;obtain rfl:=Option.some.inj h;exact T_done ok79 rfl (by simp [go_sem])
noncomputable def Zaa:Bool→Option Int
| x3=>
 ifb x3 (
 some 130) (
 some 0)
noncomputable def Zba (x1:Diner):Option Int:=
 ifb (decide (x1.ID<0)) (
 Zaa true) (
 ifb (decide (x1.Phase<0)) (
 Zaa true) (
 ifb (decide (2<x1.Phase)) (
 Zaa true) (
 ifb (decide (64≤(ln Side.row x1.Sides))) (
 Zaa true) (
 (Z8a x1.Sides x1 ((-1))).bind fun x2=>
 Zaa x2.1))))
theorem Zca (x1:Diner) (r:Int) (h:Zba x1=some r):Zu2 Tryz.prog 43 [.agg (Diner.row x1)] (.iv r):=by
 refine Zy2 ok43 rfl rfl fun w0 H0=>?_
 rw [Zba] at h
 refine Zo2 22 ?_;dsimp only [go_sem];refine An ?_;refine Zh4 (fun (x3:Bool)=>(⟨(an 30 [.bv x3]),[],[]⟩:St)) Zaa r ?_ fun J1=>?_
 ·intro x3 h;rw [Zaa] at h;(try dsimp only);refine Zj4 h rfl (fun _ h=>?_) fun _ h=>?_
  ·refine Zo2 4 ?_;dsimp only [go_sem];refine An ?_;exact Zr4 (res:=fun (r:Int)=>.iv r) ok43 h
  ·refine Zo2 5 ?_;dsimp only [go_sem];refine An ?_;exact Zr4 (res:=fun (r:Int)=>.iv r) ok43 h
 ·refine Zq4 9 h rfl (fun _ h=>?_) fun _ h=>?_
  ·dsimp only [go_sem];refine Zo2 22 ?_;dsimp only [go_sem];refine An ?_;exact Zt4 J1 (s:=true) h
  ·dsimp only [go_sem];refine Zo2 5 ?_;dsimp only [go_sem];refine An ?_;refine Zq4 14 h rfl (fun _ h=>?_) fun _ h=>?_
   ·dsimp only [go_sem];refine Zo2 17 ?_;dsimp only [go_sem];refine An ?_;exact Zt4 J1 (s:=true) h
   ·dsimp only [go_sem];refine Zo2 5 ?_;dsimp only [go_sem];refine An ?_;refine Zq4 19 h rfl (fun _ h=>?_) fun _ h=>?_
    ·dsimp only [go_sem];refine Zo2 12 ?_;dsimp only [go_sem];refine An ?_;exact Zt4 J1 (s:=true) h
    ·dsimp only [go_sem];refine Zo2 6 ?_;dsimp only [go_sem];refine An ?_;refine Zq4 25 h rfl (fun _ h=>?_) fun _ h=>?_
     ·dsimp only [go_sem];refine Zo2 6 ?_;dsimp only [go_sem];refine An ?_;exact Zt4 J1 (s:=true) h
     ·dsimp only [go_sem];refine Zo2 3 ?_;dsimp only [go_sem];refine An ?_;obtain ⟨x2,ex2,h⟩:=Bs h;refine V_callT [true,true] [] trivial (Z9a x1.Sides x1 ((-1)) _ ex2) (h:=?_);dsimp only [go_sem];refine Zo2 2 ?_;dsimp only [go_sem];refine An ?_;exact Zt4 J1 (s:=x2.1) h
set_option maxRecDepth 100000
set_option maxHeartbeats 4000000
@[go_sem] def e101:EC:=.seq (.reg [(Qx 3 65 8 0),(Qa 4 (.mv (.c .ff)))]) (.seq (.reg [(Qf 5 0 3),(Ql 6 5),(Ql 7 1),(Qa 8 (.bin .eql (.t 6) (.t 7))),(Qm 9 8),(Qh 10 9 true 1 3),(Qn 11 9 true 10),(Qh 12 9 true 1 2),(Qn 13 9 true 12),(Qg 14 9 true (.bin .eql (.t 11) (.t 13))),(Qp 15 9 14),(Qm 4 15)]) (.ret))
theorem ok101:FnOK Tryz.prog 101 Tryz.f101 e101 [.t 4] 3 13:=⟨by kernel_rfl,⟨_,rfl,by kernel_rfl⟩,by kernel_rfl,by kernel_rfl⟩
noncomputable def Zda:Bool→Option Bool
| x4=>
 some x4
noncomputable def Zea (x1:Side) (x2:Int) (x3:Msg):Option Bool:=
 ifb (decide (x1.Peer=x2)) (
 Zda (decide (x1.Epoch=x3.Epoch))) (
 Zda false)
theorem k_dine_Get_1 (x1:Side) (x2:Int) (x3:Msg) (r:Bool) (h:Zea x1 x2 x3=some r):Zu2 Tryz.prog 101 [.agg (Side.row x1),.elt (Zx4 x2) 0,.elt (Msg.row x3) 0] (.bv r):=by
 refine Zy2 ok101 rfl rfl fun w0 H0=>?_
 rw [Zea] at h
 refine Zo2 12 ?_;dsimp only [go_sem];refine An ?_;refine Zh4 (fun (x4:Bool)=>(⟨(an 4 (.bv x4::an 11 [])),[],[]⟩:St)) Zda r ?_ fun J1=>?_
 ·intro x4 h;rw [Zda] at h;(try dsimp only);exact Zr4 (res:=fun (r:Bool)=>.bv r) ok101 h
 ·refine Zq4 9 h rfl (fun _ h=>?_) fun _ h=>?_
  ·dsimp only [go_sem];refine Zo2 8 ?_;dsimp only [go_sem];refine An ?_;exact Zt4 J1 (s:=decide (x1.Epoch=x3.Epoch)) h
  ·dsimp only [go_sem];refine Zo2 8 ?_;dsimp only [go_sem];refine An ?_;exact Zt4 J1 (s:=false) h
set_option maxRecDepth 100000
set_option maxHeartbeats 4000000
@[go_sem] def e100:EC:=.seq (.reg [(Qa 2 (.mv (.c .nl)))]) (.seq (.seq (.reg [(Qm 3 0),(Qa 4 (.isnil false (.t 3)))]) (.ite (.t 4) (.seq (.reg [(Qa 2 (.mv (.c .nl)))]) (.ret)) (.skip))) (.seq (.reg [(Qa 5 (.bsl 65 8 0 [.iv 0,.iv 0,.iv 0,.ff,.ff,.ff,.ff,.ff] [])),(Qm 6 0),(Qa 7 (.app 65 8 32 (.t 5) (.t 6))),(Qm 2 7)]) (.ret)))
theorem ok100:FnOK Tryz.prog 100 Tryz.f100 e100 [.t 2] 1 7:=⟨by kernel_rfl,⟨_,rfl,by kernel_rfl⟩,by kernel_rfl,by kernel_rfl⟩
noncomputable def Zfa (x1:(List Side)):Option (List Side):=Za4 32 [] x1
theorem Zga (x1:(List Side)) (r:(List Side)) (h:Zfa x1=some r):FunO Tryz.prog 100 [.sl 8 (List.map Side.row x1)] 65 8 (List.map Side.row r):=by
 refine Z55 ok100 rfl fun w0 H0=>?_
 rw [Zfa] at h
 refine Zo2 100 ?_
 dsimp only [e100,go_sem]
 refine ⟨by simp,?_⟩
 refine V_isnil trivial rfl (fun hn=>?_) ?_
 ·refine Zo2 100 ?_
  dsimp only [go_sem]
  refine ⟨by simp,?_⟩
  refine Z64 2 65 8 rfl rfl ?_
  dsimp only [go_sem]
  have hn:x1=[]:=by simpa using hn
  subst hn
  exact Z95 Side.row (e:=[]) ok100 (by simpa [Za4] using h) rfl rfl
 ·refine Zo2 100 ?_
  dsimp only [go_sem]
  refine ⟨by simp,?_⟩
  refine Zo4 Side.row h trivial rfl rfl rfl ?_
  refine Zo2 100 ?_
  dsimp only [go_sem]
  refine ⟨by simp,?_⟩
  exact Z95 Side.row ok100 (rfl:some r=some r) rfl rfl
set_option maxRecDepth 100000
set_option maxHeartbeats 4000000
@[go_sem] def e73:EC:=.seq (.reg [(Qx 3 70 3 0),(Qx 4 3 1 1),(Qx 5 76 3 2),(Qa 6 (.alloc 70 [.iv 0,.iv 0,.nl])),(Qi 7 0)]) (.seq (.seq (.reg [(Qe 12 3 3),(Qa 13 (.call 43 [(.t 12)])),(Qm 8 13)]) (.seq (.reg [(Qm 14 8),(Qa 15 (.bin .neq (.t 14) (.c (.iv 0))))]) (.ite (.t 15) (.seq (.reg [(Qa 16 (.build [.iv 0,.iv 0,.nl] [])),(Qm 17 8),(Qs 3 6 16),(Qm 7 17)]) (.ret)) (.skip)))) (.seq (.reg [(Qf 18 2 3),(Ql 19 18),(Qa 20 (.mkf 101 [(.t 4),(.t 5)])),(Qa 21 (.call 64 [(.t 19),(.t 20)])),(Qm 9 21)]) (.seq (.seq (.reg [(Qm 22 9),(Qa 23 (.bin .lss (.t 22) (.c (.iv 0))))]) (.ite (.t 23) (.seq (.reg [(Qa 24 (.build [.iv 0,.iv 0,.nl] [])),(Qs 3 6 24),(Qi 7 131)]) (.ret)) (.skip))) (.seq (.reg [(Qf 25 2 3),(Ql 26 25),(Qa 27 (.call 100 [(.t 26)])),(Qf 28 2 3),(Qs 1 28 27)]) (.seq (.reg [(Qf 29 2 3),(Ql 30 29),(Qm 31 9),(Qk 32 8 30 31),(Qm 10 32)]) (.seq (.reg [(Qa 11 (.mv (.c .ff)))]) (.seq (.blk 0 (.seq (.reg [(Qf 35 0 5),(Ql 36 35),(Qa 37 (.bin .eql (.t 36) (.c (.iv 1)))),(Qm 38 37),(Qh 39 38 true 2 5),(Qn 40 38 true 39),(Qg 41 38 true (.bin .eql (.t 40) (.c (.iv 0)))),(Qp 42 38 41),(Qm 34 42)]) (.ite (.t 34) (.reg [(Qm 43 10),(Qm 44 10),(Qa 45 (.nilchk (.t 44))),(Qf 46 3 45),(Ql 47 46),(Qm 11 47),(Qa 48 (.nilchk (.t 43))),(Qf 49 3 48),(Qb (.store 1 (.t 49) (.c .tt)))]) (.seq (.reg [(Qf 51 0 5),(Ql 52 51),(Qa 53 (.bin .eql (.t 52) (.c (.iv 2)))),(Qm 54 53),(Qh 55 54 true 2 5),(Qn 56 54 true 55),(Qg 57 54 true (.bin .eql (.t 56) (.c (.iv 0)))),(Qp 58 54 57),(Qm 50 58)]) (.ite (.t 50) (.reg [(Qm 59 10),(Qm 60 10),(Qa 61 (.nilchk (.t 60))),(Qf 62 5 61),(Ql 63 62),(Qm 11 63),(Qa 64 (.nilchk (.t 59))),(Qf 65 5 64),(Qb (.store 1 (.t 65) (.c .tt)))]) (.seq (.reg [(Qa 33 (.build [.iv 0,.iv 0,.nl] [])),(Qs 3 6 33),(Qi 7 133)]) (.ret))))))) (.seq (.seq (.reg [(Qm 66 11)]) (.ite (.t 66) (.seq (.reg [(Qa 67 (.build [.iv 0,.iv 0,.nl] [])),(Qs 3 6 67),(Qi 7 132)]) (.ret)) (.skip))) (.seq (.reg [(Qe 68 3 3),(Qs 3 6 68),(Qi 7 0)]) (.ret))))))))))
theorem ok73:FnOK Tryz.prog 73 Tryz.f73 e73 [.c 6 (some 3),.t 7] 3 66:=⟨by kernel_rfl,⟨_,rfl,by kernel_rfl⟩,by kernel_rfl,by kernel_rfl⟩
noncomputable def Zha (x1:Diner):(Bool×(List Side))→Option (Diner×Int)
| (x10,x11)=>
 ifb x10 (
 some ((Diner.mk 0 0 (([]:(List Side)))),132)) (
 some ((Diner.mk x1.ID x1.Phase x11),0))
noncomputable def Zia (x1:Diner) (x5:Int) (x6:(List Side)) (x7:Side):Bool→Option (Diner×Int)
| x9=>
 ifb x9 (
 (Zha x1) (x7.Token,x6.set (x5).toNat ((Side.mk x7.Peer x7.Epoch x7.State x7.Fork x7.Dirty true x7.Bottle x7.Ask)))) (
 some ((Diner.mk 0 0 (([]:(List Side)))),133))
noncomputable def Zja (x1:Diner) (x3:Msg) (x5:Int) (x6:(List Side)) (x7:Side):Bool→Option (Diner×Int)
| x8=>
 ifb x8 (
 (Zha x1) (x7.Fork,x6.set (x5).toNat ((Side.mk x7.Peer x7.Epoch x7.State true x7.Dirty x7.Token x7.Bottle x7.Ask)))) (
 ifb (decide (x3.Kind=2)) (
 (Zia x1 x5 x6 x7) (decide (x3.Num=0))) (
 (Zia x1 x5 x6 x7) false))
noncomputable def Zka (x1:Diner) (x2:Int) (x3:Msg):Option (Diner×Int):=
 (Zba x1).bind fun x4=>
 ifb (!decide (x4=0)) (
 some ((Diner.mk 0 0 (([]:(List Side)))),x4)) (
 (Zh6 x1.Sides ((fun z=>Zea z x2 x3))).bind fun x5=>
 ifb (decide (x5<0)) (
 some ((Diner.mk 0 0 (([]:(List Side)))),131)) (
 (Zfa x1.Sides).bind fun x6=>
 (at_ x6 x5).bind fun x7=>
 ifb (decide (x3.Kind=1)) (
 (Zja x1 x3 x5 x6 x7) (decide (x3.Num=0))) (
 (Zja x1 x3 x5 x6 x7) false)))
theorem k_dine_Get (x1:Diner) (x2:Int) (x3:Msg) (r:(Diner×Int)) (h:Zka x1 x2 x3=some r):Zu2 Tryz.prog 73 [.agg (Diner.row x1),.iv x2,.agg (Msg.row x3)] (.tup [.agg (Diner.row r.1),.iv r.2]):=by
 refine Zy2 ok73 rfl rfl fun w0 H0=>?_
 rw [Zka] at h
 refine Zo2 12 ?_;dsimp only [go_sem];refine An ?_;obtain ⟨x4,ex4,h⟩:=Bs h;refine Z33 trivial (Zca x1 _ ex4) (h:=?_);refine Zo2 7 ?_;dsimp only [go_sem];refine An ?_;refine Zj4 h rfl (fun _ h=>?_) fun _ h=>?_
 ·refine Zo2 7 ?_;dsimp only [go_sem];refine An ?_;exact Zr4 (res:=fun (r:(Diner×Int))=>.tup [.agg (Diner.row r.1),.iv r.2]) ok73 h
 ·refine Zo2 6 ?_;dsimp only [go_sem];refine An ?_;obtain ⟨x5,ex5,h⟩:=Bs h;refine Zv4 trivial (((Zu4.refl _).block 1 rfl rfl).block 2 rfl rfl) (Zi6 x1.Sides _ _ ((fun z=>Zea z x2 x3)) ⟨by kernel_rfl,rfl,fun z r hz=>k_dine_Get_1 z x2 x3 r hz⟩ _ ex5) (h:=?_);refine Zo2 8 ?_;dsimp only [go_sem];refine An ?_;refine Zj4 h rfl (fun _ h=>?_) fun _ h=>?_
  ·refine Zo2 6 ?_;dsimp only [go_sem];refine An ?_;exact Zr4 (res:=fun (r:(Diner×Int))=>.tup [.agg (Diner.row r.1),.iv r.2]) ok73 h
  ·refine Zo2 5 ?_;dsimp only [go_sem];refine An ?_;obtain ⟨x6,ex6,h⟩:=Bs h;refine Z65 trivial (Zga x1.Sides _ ex6) (h:=?_);refine Zo2 8 ?_;dsimp only [go_sem];refine An ?_;obtain ⟨x7,ex7,h⟩:=Bs h;refine Za5 Side.row ex7 trivial rfl rfl rfl ?_;refine Zo2 14 ?_;dsimp only [go_sem];refine An ?_
   refine Zh4 (fun (x8:Bool)=>(⟨(an 3 (.ptr 0 0 :: .any :: .ptr 2 0 :: .ptr 3 0::an 3 (.oel 0 ((x5).toNat*8) 0::an 23 (.bv x8::an 34 [])))),[some ⟨70,[.iv x1.ID,.iv x1.Phase,.osl 0]⟩,none,some ⟨76,[.iv x3.Kind,.iv x3.Epoch,.iv x3.Num]⟩,some ⟨70,[.iv 0,.iv 0,.nl]⟩],[some ⟨65,8,List.map Side.row x6⟩]⟩:St)) (Zja x1 x3 x5 x6 x7) r ?_ fun J1=>?_
   ·intro x8 h;rw [Zja] at h;(try dsimp only);refine Zh4 (fun ((x10,x11):(Bool×(List Side)))=>(⟨(an 3 (.ptr 0 0 :: .any :: .any :: .ptr 3 0::an 4 (.bv x10::an 57 []))),[some ⟨70,[.iv x1.ID,.iv x1.Phase,.osl 0]⟩,none,none,some ⟨70,[.iv 0,.iv 0,.nl]⟩],[some ⟨65,8,List.map Side.row x11⟩]⟩:St)) (Zha x1) r ?_ fun J2=>?_
    ·rintro ⟨x10,x11⟩ h;rw [Zha] at h;(try dsimp only);refine Zo2 6 ?_;dsimp only [go_sem];refine An ?_;refine Zj4 h rfl (fun _ h=>?_) fun _ h=>?_
     ·refine Zo2 6 ?_;dsimp only [go_sem];refine An ?_;exact Zr4 (res:=fun (r:(Diner×Int))=>.tup [.agg (Diner.row r.1),.iv r.2]) ok73 h
     ·refine Zo2 7 ?_;dsimp only [go_sem];refine An ?_;refine Zb3 0 rfl ?_;dsimp only [go_sem];exact Zr4 (res:=fun (r:(Diner×Int))=>.tup [.agg (Diner.row r.1),.iv r.2]) ok73 h
    ·refine Zj4 h rfl (fun _ h=>?_) fun _ h=>?_
     ·refine Zo2 5 ?_;dsimp only [go_sem];refine An ?_;refine Zb5 Side.row ex7 trivial rfl rfl rfl ?_;refine Zo2 3 ?_;dsimp only [go_sem];refine An ?_;refine Zf5 [.bv true] Side.row (y':=(Side.mk x7.Peer x7.Epoch x7.State true x7.Dirty x7.Token x7.Bottle x7.Ask)) ex7 trivial rfl rfl rfl (by first | exact Z94 _ | simp [go_sem]) rfl rfl rfl rfl ?_;refine Zo2 1 ?_;dsimp only [go_sem];refine An ?_;exact Zt4 J2 (s:=(x7.Fork,x6.set (x5).toNat ((Side.mk x7.Peer x7.Epoch x7.State true x7.Dirty x7.Token x7.Bottle x7.Ask)))) h
     ·refine Zo2 6 ?_;dsimp only [go_sem];refine An ?_;refine Zh4 (fun (x9:Bool)=>(⟨(an 3 (.ptr 0 0 :: .any :: .any :: .ptr 3 0::an 3 (.oel 0 ((x5).toNat*8) 0::an 39 (.bv x9::an 18 [])))),[some ⟨70,[.iv x1.ID,.iv x1.Phase,.osl 0]⟩,none,none,some ⟨70,[.iv 0,.iv 0,.nl]⟩],[some ⟨65,8,List.map Side.row x6⟩]⟩:St)) (Zia x1 x5 x6 x7) r ?_ fun J3=>?_
      ·intro x9 h;rw [Zia] at h;(try dsimp only);refine Zj4 h rfl (fun _ h=>?_) fun _ h=>?_
       ·refine Zo2 5 ?_;dsimp only [go_sem];refine An ?_;refine Zb5 Side.row ex7 trivial rfl rfl rfl ?_;refine Zo2 3 ?_;dsimp only [go_sem];refine An ?_;refine Zf5 [.bv true] Side.row (y':=(Side.mk x7.Peer x7.Epoch x7.State x7.Fork x7.Dirty true x7.Bottle x7.Ask)) ex7 trivial rfl rfl rfl (by first | exact Z94 _ | simp [go_sem]) rfl rfl rfl rfl ?_;refine Zo2 1 ?_;dsimp only [go_sem];refine An ?_;exact Zt4 J2 (s:=(x7.Token,x6.set (x5).toNat ((Side.mk x7.Peer x7.Epoch x7.State x7.Fork x7.Dirty true x7.Bottle x7.Ask)))) h
       ·refine Zo2 6 ?_;dsimp only [go_sem];refine An ?_;exact Zr4 (res:=fun (r:(Diner×Int))=>.tup [.agg (Diner.row r.1),.iv r.2]) ok73 h
      ·refine Zq4 54 h rfl (fun _ h=>?_) fun _ h=>?_
       ·dsimp only [go_sem];refine Zo2 6 ?_;dsimp only [go_sem];refine An ?_;exact Zt4 J3 (s:=decide (x3.Num=0)) h
       ·dsimp only [go_sem];refine Zo2 6 ?_;dsimp only [go_sem];refine An ?_;exact Zt4 J3 (s:=false) h
   ·refine Zq4 38 h rfl (fun _ h=>?_) fun _ h=>?_
    ·dsimp only [go_sem];refine Zo2 6 ?_;dsimp only [go_sem];refine An ?_;exact Zt4 J1 (s:=decide (x3.Num=0)) h
    ·dsimp only [go_sem];refine Zo2 6 ?_;dsimp only [go_sem];refine An ?_;exact Zt4 J1 (s:=false) h
def sideD (id q:Int) (x:Side):Bool:=decide (q<x.Peer)&&(!decide (x.Peer=id)&&(decide (0≤x.Epoch)&&(decide (x.Epoch≤65535)&&(decide (0≤x.State)&&(decide (x.State≤3)&&!(x.Dirty&&!x.Fork))))))
def Zla (id:Int):Int→List Side→Bool
 | _,[]=>true
 | q,x::r=>sideD id q x&&Zla id x.Peer r
def okD (d:Diner):Bool:=decide (0≤d.ID)&&(decide (0≤d.Phase)&&(decide (d.Phase≤2)&&(decide (d.Sides.length<64)&&Zla d.ID (-1) d.Sides)))
theorem s_odd (x:Side) (d:Diner) (q:Int):Z2a x d q=some (!sideD d.ID q x):=by
 simp only [Z2a,Z1a,Z0a,sideD]
 by_cases h1:q<x.Peer
 ·by_cases h2:x.Peer=d.ID
  ·have h1':q<d.ID:=h2 ▸ h1
   simp [h2,h1']
  ·by_cases h3:x.Epoch<0
   ·have:¬0≤x.Epoch:=by omega
    simp [h1,h2,h3,this]
   ·have h3':0≤x.Epoch:=by omega
    by_cases h4:65535<x.Epoch
    ·have:¬x.Epoch≤65535:=by omega
     simp [h1,h2,h3,h4,this]
    ·have h4':x.Epoch≤65535:=by omega
     by_cases h5:x.State<0
     ·have:¬0≤x.State:=by omega
      simp [h1,h2,h3,h4,h5,this]
     ·have h5':0≤x.State:=by omega
      by_cases h6:3<x.State
      ·have:¬x.State≤3:=by omega
       simp [h1,h2,h3,h4,h5,h6,this]
      ·have h6':x.State≤3:=by omega
       simp only [h1,h2,h3,h4,h5,h6,h3',h4',h5',h6',decide_true,decide_false,Zu5,Zv5,Bool.not_true,Bool.not_false,Bool.true_and]
       cases x.Dirty<;>cases x.Fork<;>rfl
 ·simp [h1]
def Zma (id:Int):Nat→Int→List Side→Int×Int
 | _,q,[]=>(-1,q)
 | k,q,x::r=>if sideD id q x then Zma id (k+1) x.Peer r else (k,x.Peer)
theorem scanD_ok (id:Int):∀(l:List Side) (k:Nat) (q:Int),decide (0≤(Zma id k q l).1)=!Zla id q l
 | [],k,q=>by simp [Zma,Zla]
 | x::r,k,q=>by
   by_cases h:sideD id q x=true
   ·have e1:Zma id k q (x::r)=Zma id (k+1) x.Peer r:=by simp [Zma,h]
    rw [e1,scanD_ok id r (k+1) x.Peer]
    simp [Zla,h]
   ·have h':sideD id q x=false:=by simpa using h
    have e1:Zma id k q (x::r)=((k:Int),x.Peer):=by simp [Zma,h']
    rw [e1]
    simp [Zla,h']
def lastQ (q:Int) (pre:List Side):Int:=match pre.getLast? with | some x=>x.Peer | none=>q
theorem Zna (q:Int) (pre:List Side) (x:Side):lastQ q (pre++[x])=x.Peer:=by simp [lastQ]
theorem Zoa (d:Diner):Zba d=some (if okD d then 0 else 130):=by
 simp only [Zba,Zaa,okD]
 by_cases h1:d.ID<0
 ·have:¬0≤d.ID:=by omega
  simp [h1,this]
 have h1':0≤d.ID:=by omega
 by_cases h2:d.Phase<0
 ·have:¬0≤d.Phase:=by omega
  simp [h1,h2,this]
 have h2':0≤d.Phase:=by omega
 by_cases h3:2<d.Phase
 ·have:¬d.Phase≤2:=by omega
  simp [h1,h2,h3,this]
 have h3':d.Phase≤2:=by omega
 by_cases h4:64≤d.Sides.length
 ·have h4':(64:Int)≤ln Side.row d.Sides:=by rw [Z05];omega
  have:¬d.Sides.length<64:=by omega
  simp [h1,h2,h3,h4',this]
 have h4':¬(64:Int)≤ln Side.row d.Sides:=by rw [Z05];omega
 have h4'':d.Sides.length<64:=by omega
 simp only [h1,h2,h3,h4',h1',h2',h3',h4'',decide_true,decide_false,Zv5,Bool.true_and]
 have key:Z6a d.Sides d (-1)=some (Zma d.ID 0 (-1) d.Sides):=by
  unfold Z6a
  refine Zl7 d.Sides _ (fun pre=>((pre.length:Int),lastQ (-1) pre)) (fun pre post=>some (Zma d.ID pre.length (lastQ (-1) pre) post)) (fun pre x post h=>?_) ?_
  ·have hx:=Zn7 h
   have hm:=Zo7 h
   dsimp only [Z5a]
   rw [Z06 hx,Zu5,Zy5 hx,Option.bind_some,s_odd,Option.bind_some,Zw5]
   cases hs:sideD d.ID (lastQ (-1) pre) x with
   | true=>
     left
     exact ⟨by rw [Zu5,Zr7,Zna,Z26 (by omega)],by simp [Zma,hs,Zna]⟩
   | false=>
     right
     exact ⟨_,rfl,by simp [Zma,hs]⟩
  ·dsimp only [Z5a]
   rw [Z16,Zv5];rfl
 simp only [Z8a,key,Option.bind_some,scanD_ok]
 cases Zla d.ID (-1) d.Sides<;>rfl
theorem Zpa (l:List Side) (hl:l.length≤1000000):Zfa l=some l:=by
 simp only [Zfa]
 rw [Zz5 _ _ (by omega) (by simp;omega)];rfl
theorem Zqa {d:Diner} (h:okD d=true):d.Sides.length<64:=by
 simp only [okD,Bool.and_eq_true,decide_eq_true_eq] at h;exact h.2.2.2.1
def Zra:Diner:=⟨0,0,[]⟩
def Zsa (d:Diner) (a b:Int):Diner×Int:=if okD d then (if d.Phase=a then (⟨d.ID,b,d.Sides⟩,0) else (Zra,134)) else (Zra,130)
def Zta (ph:Int) (x:Side):Side:=if x.Fork&&(x.Dirty&&(x.Token&&!decide (ph=2))) then {x with Fork:=false,Dirty:=false} else x
def Zua (ph:Int) (x:Side):Side:=if decide (ph=1)&&((Zta ph x).Token&&!(Zta ph x).Fork) then {Zta ph x with Token:=false} else Zta ph x
def Zva (id ph:Int) (x:Side):List Mail:=
 (if x.Fork&&(x.Dirty&&(x.Token&&!decide (ph=2))) then [⟨id,x.Peer,⟨1,x.Epoch,0⟩⟩] else []) ++
 (if decide (ph=1)&&((Zta ph x).Token&&!(Zta ph x).Fork) then [⟨id,x.Peer,⟨2,x.Epoch,0⟩⟩] else [])
def Zwa (x:Side):Side:= {x with Dirty:=true}
def Zxa (d:Diner):Diner:=if decide (d.Phase=1)&&(d.Sides.map (Zua d.Phase)).all (·.Fork) then ⟨d.ID,2,(d.Sides.map (Zua d.Phase)).map Zwa⟩ else ⟨d.ID,d.Phase,d.Sides.map (Zua d.Phase)⟩
def Zya (d:Diner):List Mail:=d.Sides.flatMap (Zva d.ID d.Phase)
theorem fireM_len (id ph:Int) (x:Side):(Zva id ph x).length≤2:=by
 unfold Zva
 rw [List.length_append]
 have h1:∀(c:Bool) (m:Mail),(if c then [m] else []).length≤1:=by intro c m;cases c<;>simp
 have:=h1 (x.Fork&&(x.Dirty&&(x.Token&&!decide (ph=2)))) ⟨id,x.Peer,⟨1,x.Epoch,0⟩⟩
 have:=h1 (decide (ph=1)&&((Zta ph x).Token&&!(Zta ph x).Fork)) ⟨id,x.Peer,⟨2,x.Epoch,0⟩⟩
 omega
theorem Zza (l:List Side) (id ph:Int):(l.flatMap (Zva id ph)).length≤2*l.length:=by
 induction l with
 | nil=>simp
 | cons x l ih=>have:=fireM_len id ph x;rw [List.flatMap_cons,List.length_append,List.length_cons];omega
def getD' (d:Diner) (peer:Int) (m:Msg):Diner×Int:=
 if okD d then match d.Sides.findIdx? (fun x=>decide (x.Peer=peer)&&decide (x.Epoch=m.Epoch)) with
  | none=>(Zra,131)
  | some i=>match d.Sides[i]? with
    | none=>(Zra,131)
    | some x=>
      if decide (m.Kind=1)&&decide (m.Num=0) then (if x.Fork then (Zra,132) else (⟨d.ID,d.Phase,d.Sides.set i {x with Fork:=true}⟩,0))
      else if decide (m.Kind=2)&&decide (m.Num=0) then (if x.Token then (Zra,132) else (⟨d.ID,d.Phase,d.Sides.set i {x with Token:=true}⟩,0))
      else (Zra,133)
 else (Zra,130)
theorem s_Get (d:Diner) (peer:Int) (m:Msg):Zka d peer m=some (getD' d peer m):=by
 simp only [Zka,Zoa,Option.bind_some,getD']
 cases h:okD d with
 | false=>rfl
 | true=>
   have hl:=Zqa h
   simp only [if_true,decide_true,Bool.not_true,Zv5]
   rw [Z87 d.Sides (fun z=>Zea z peer m) (fun x=>decide (x.Peer=peer)&&decide (x.Epoch=m.Epoch)) (by omega) (fun x _=>by
    simp only [Zea,Zda]
    cases decide (x.Peer=peer)<;>rfl),Option.bind_some,plc_neg]
   have hfi:=Zx7 (fun x:Side=>decide (x.Peer=peer)&&decide (x.Epoch=m.Epoch)) d.Sides
   cases hf:d.Sides.findIdx? (fun x=>decide (x.Peer=peer)&&decide (x.Epoch=m.Epoch)) with
   | none=>rfl
   | some i=>
     rw [hf] at hfi
     obtain ⟨x,hx,_⟩:=hfi
     simp only [Option.isNone_some,Zv5,Zpa d.Sides (by omega),Option.bind_some,plc,Zy5 hx,hx,Int.toNat_natCast,Zja,Zha,Zia]
     by_cases k1:m.Kind=1
     ·by_cases k2:m.Num=0
      ·cases x.Fork<;>simp [k1,k2,Zra]
      ·have:¬(1:Int)=2:=by omega
       simp [k1,k2,Zra]
     ·by_cases k3:m.Kind=2
      ·by_cases k2:m.Num=0
       ·cases x.Token<;>simp [k3,k2,Zra]
       ·simp [k3,k2,Zra]
      ·simp [k1,k3,Zra]
def key (d:Diner):Int×List Int:=(d.ID,d.Sides.map (·.Peer))
def sideK (K:List (Int×List Int)) (i:Nat) (p:Int):Bool:=decide (0≤p)&&(decide (p<K.length)&&(!decide (p=i)&&(match K[p.toNat]? with | some e=>decide ((i:Int)∈e.2) | none=>false)))
def okFromK (K:List (Int×List Int)) (i:Nat):Option Int→List Int→Bool
 | _,[]=>true
 | p,x::r=>(match p with | none=>true | some q=>decide (q<x))&&(sideK K i x&&okFromK K i (some x) r)
def okAllK (K:List (Int×List Int)):Nat→List (Int×List Int)→Bool
 | _,[]=>true
 | i,d::r=>decide (d.1=i)&&(okFromK K i none d.2&&okAllK K (i+1) r)
def edgesK:Nat→List (Int×List Int)→List Edge
 | _,[]=>[]
 | i,d::r=>((d.2.filter fun x=>decide ((i:Int)<x)).map fun x=>⟨i,x⟩)++edgesK (i+1) r
theorem Z0b (d:Diner) (i:Int):(Zw7 d i).isSome=decide (i∈d.Sides.map (·.Peer)):=by
 unfold Zw7
 rw [Bool.eq_iff_iff,List.find?_isSome,decide_eq_true_iff,List.mem_map]
 simp
theorem sideB_key (l:List Diner) (i:Nat) (x:Side):Z78 l i x=sideK (l.map key) i x.Peer:=by
 unfold Z78 sideK
 rw [List.length_map,List.getElem?_map]
 cases l[x.Peer.toNat]? with
 | none=>rfl
 | some e=>simp only [Option.map_some,key,Z0b]
theorem Z1b (l:List Diner) (i:Nat):∀(xs:List Side) (p:Option Int),Z88 l i p xs=okFromK (l.map key) i p (xs.map (·.Peer))
 | [],_=>rfl
 | x::r,p=>by
   simp only [Z88,List.map_cons,okFromK,Z1b l i r,sideB_key]
   cases p<;>rfl
theorem Z2b (l:List Diner):∀(r:List Diner) (i:Nat),Za8 l i r=okAllK (l.map key) i (r.map key)
 | [],_=>rfl
 | d::r,i=>by
   simp only [Za8,List.map_cons,okAllK,Z2b l r,Z1b]
   rfl
theorem Z3b:∀(r:List Diner) (i:Nat),Zb8 i r=edgesK i (r.map key)
 | [],_=>rfl
 | d::r,i=>by
   simp only [Zb8,List.map_cons,edgesK,Z3b r,Z98,key,List.filter_map,List.map_map]
   rfl
theorem graphP_key {l m:List Diner} (h:l.map key=m.map key):Zd8 l=Zd8 m:=by
 have hl:l.length=m.length:=by have:=congrArg List.length h;simpa using this
 unfold Zd8
 rw [Z2b,Z2b,Z3b,Z3b,h,hl]
theorem pw_len:∀(l:List Int) (q n:Int),l.Pairwise (· < ·)→(∀x∈l,q≤x∧x<n)→l=[]∨(l.length:Int)≤n-q
 | [],_,_,_,_=>.inl rfl
 | x::l,q,n,h,hb=>by
   rw [List.pairwise_cons] at h
   have h1:=hb x (by simp)
   right
   rcases pw_len l (x+1) n h.2 (fun y hy=>⟨by have:=h.1 y hy;omega,(hb y (by simp [hy])).2⟩) with rfl | h2
   ·simp only [List.length_cons,List.length_nil];omega
   ·simp only [List.length_cons];omega
theorem near_few {g:Graph} (hg:okG g=true) (a:Int):((Zo9 g a).length:Int)≤g.N:=by
 rcases pw_len (Zo9 g a) 0 g.N (Zp9 hg a) (fun x hx=>by have:=Zs9 hg hx;omega) with h | h
 ·rw [h];exact (Zd7 hg).1
 ·omega
def has (x:Side) (k:Int):Bool:=if k=1 then x.Fork else x.Token
def bn (b:Bool):Nat:=if b then 1 else 0
def hasD (d:Diner) (k b:Int):Nat:=match Zw7 d b with | some x=>bn (has x k) | none=>0
def cnt (M:List Mail) (k a b:Int):Nat:=M.count ⟨a,b,⟨k,1,0⟩⟩
structure LocD (d:Diner):Prop where
 lo:0≤d.Phase
 hi:d.Phase≤2
 side:∀x∈d.Sides,x.Epoch=1∧x.State=0∧(x.Dirty=true→x.Fork=true)
 eat:d.Phase=2→∀x∈d.Sides,x.Fork=true∧x.Dirty=true
def mailG (g:Graph) (m:Mail):Prop:=(m.Msg.Kind=1∨m.Msg.Kind=2)∧m.Msg.Epoch=1∧m.Msg.Num=0∧m.To∈Zo9 g m.From
structure Inv (g:Graph) (s:Scene):Prop where
 len:(s.Diners.length:Int)=g.N
 shp:∀(a:Nat) d,s.Diners[a]?=some d→d.ID=a∧d.Sides.map (·.Peer)=Zo9 g a
 loc:∀d∈s.Diners,LocD d
 mail:∀m∈s.Mail,mailG g m
 one:∀(a b:Nat) da db,s.Diners[a]?=some da→s.Diners[b]?=some db→(b:Int)∈Zo9 g a→∀k,(k=1∨k=2)→hasD da k b+hasD db k a+cnt s.Mail k a b+cnt s.Mail k b a=1
theorem Inv.set {g:Graph} {s:Scene} (hg:okG g=true) (h:Inv g s) {a:Nat} {d d':Diner} (hd:s.Diners[a]?=some d) (hid:d'.ID=d.ID) (hp:d'.Sides.map (·.Peer)=d.Sides.map (·.Peer)) (hl:LocD d')
  {M:List Mail} (hm:∀m∈M,mailG g m) (ho:∀k p q:Int,p≠a→q≠a→cnt M k p q=cnt s.Mail k p q)
  (hc:∀b∈Zo9 g a,∀k,(k=1∨k=2)→hasD d' k b+cnt M k a b+cnt M k b a=hasD d k b+cnt s.Mail k a b+cnt s.Mail k b a):Inv g ⟨s.Diners.set a d',M⟩:=by
 have hlt:=(List.getElem?_eq_some_iff.1 hd).1
 have get:∀(k:Nat) e,(s.Diners.set a d')[k]?=some e→(k=a∧e=d')∨(k≠a∧s.Diners[k]?=some e):=fun k e he=>by
  rw [List.getElem?_set] at he
  split at he
  ·rename_i hk
   simp at he
   exact .inl ⟨hk.symm,he.symm⟩
  ·rename_i hk
   exact .inr ⟨fun e=>hk e.symm,he⟩
 refine ⟨by simpa using h.len,fun k e he=>?_,fun e he=>?_,hm,fun x y dx dy hx hy hxy k hk=>?_⟩
 ·rcases get k e he with ⟨rfl,rfl⟩ | ⟨_,he⟩
  ·rw [hid,hp];exact h.shp k d hd
  ·exact h.shp k e he
 ·obtain ⟨k,hk⟩:=List.mem_iff_getElem?.1 he
  rcases get k e hk with ⟨_,rfl⟩ | ⟨_,he⟩
  ·exact hl
  ·exact h.loc e (List.mem_iff_getElem?.2 ⟨_,he⟩)
 ·dsimp only at hx hy ⊢
  have hne:=(Zs9 hg hxy).2.2.1
  have hyx:=Zz9 hg hxy
  rcases get x dx hx with ⟨rfl,rfl⟩ | ⟨x1,hx'⟩<;>rcases get y dy hy with ⟨rfl,rfl⟩ | ⟨y1,hy'⟩
  ·exact absurd rfl hne
  ·have:=hc y hxy k hk
   have:=h.one x y d dy hd hy' hxy k hk
   omega
  ·have:=hc x hyx k hk
   have:=h.one x y dx d hx' hd hxy k hk
   omega
  ·rw [ho k x y (by omega) (by omega),ho k y x (by omega) (by omega)]
   exact h.one x y dx dy hx' hy' hxy k hk
theorem fire2_peer (ph:Int) (x:Side):(Zua ph x).Peer=x.Peer∧(Zua ph x).Epoch=x.Epoch∧(Zua ph x).State=x.State:=by
 unfold Zua Zta
 split<;>split<;>exact ⟨rfl,rfl,rfl⟩
theorem fire2_dirty (ph:Int) (x:Side) (h:x.Dirty=true→x.Fork=true):(Zua ph x).Dirty=true→(Zua ph x).Fork=true:=by
 unfold Zua Zta
 split<;>split<;>simp_all
theorem fire2_eats (x:Side):Zua 2 x=x:=by
 unfold Zua Zta
 simp
theorem fire_side (id ph k:Int) (x:Side) (hk:k=1∨k=2) (he:x.Epoch=1):bn (has (Zua ph x) k)+(Zva id ph x).count ⟨id,x.Peer,⟨k,1,0⟩⟩=bn (has x k):=by
 obtain ⟨p,e,st,f,d,t,bo,ask⟩:=x
 dsimp only at he
 subst he
 unfold Zva Zua Zta has bn
 generalize h1:decide (ph=1)=q1
 generalize h2:decide (ph=2)=q2
 rcases hk with rfl | rfl<;>cases f<;>cases d<;>cases t<;>cases q1<;>cases q2<;>simp
theorem Z4b {id ph:Int} {x:Side} {m:Mail} (h:m∈Zva id ph x):m.From=id∧m.To=x.Peer∧(m.Msg.Kind=1∨m.Msg.Kind=2)∧m.Msg.Epoch=x.Epoch∧m.Msg.Num=0:=by
 unfold Zva at h
 rw [List.mem_append] at h
 rcases h with h | h
 ·split at h
  ·simp at h;subst h;exact ⟨rfl,rfl,.inl rfl,rfl,rfl⟩
  ·simp at h
 ·split at h
  ·simp at h;subst h;exact ⟨rfl,rfl,.inr rfl,rfl,rfl⟩
  ·simp at h
theorem Z5b {M:List Mail} {m:Mail} (h:m∉M):M.count m=0:=List.count_eq_zero.2 h
theorem Z6b (id ph k b:Int):∀(l:List Side),l.Pairwise (fun x y=>x.Peer<y.Peer)→(l.flatMap (Zva id ph)).count ⟨id,b,⟨k,1,0⟩⟩=match l.find? (fun x=>decide (x.Peer=b)) with | some x=>(Zva id ph x).count ⟨id,x.Peer,⟨k,1,0⟩⟩ | none=>0
 | [],_=>rfl
 | x::l,h=>by
   rw [List.pairwise_cons] at h
   rw [List.flatMap_cons,List.count_append,Z6b id ph k b l h.2,List.find?_cons]
   by_cases hx:x.Peer=b
   ·have:l.find? (fun x=>decide (x.Peer=b))=none:=by
     rw [List.find?_eq_none]
     intro y hy
     have:=h.1 y hy
     simp;omega
    rw [this,decide_eq_true hx,←hx];simp
   ·rw [decide_eq_false hx,Z5b (fun hm=>hx (Z4b hm).2.1.symm)];simp
theorem Z7b {d:Diner} {k p q:Int} (hp:p≠d.ID):(Zya d).count ⟨p,q,⟨k,1,0⟩⟩=0:=by
 refine Z5b fun h=>?_
 obtain ⟨x,_,hx⟩:=List.mem_flatMap.1 h
 exact hp (Z4b hx).1
def Z8b (d:Diner) (x:Side):Side:=if decide (d.Phase=1)&&(d.Sides.map (Zua d.Phase)).all (·.Fork) then Zwa (Zua d.Phase x) else Zua d.Phase x
theorem Z9b (d:Diner):(Zxa d).Sides=d.Sides.map (Z8b d):=by
 unfold Zxa Z8b
 split
 ·simp only [List.map_map];rfl
 ·rfl
theorem fireD_id (d:Diner):(Zxa d).ID=d.ID:=by unfold Zxa;split<;>rfl
theorem Zab (d:Diner) (x:Side):(Z8b d x).Peer=x.Peer∧(Z8b d x).Epoch=x.Epoch∧(Z8b d x).State=x.State∧∀k,has (Z8b d x) k=has (Zua d.Phase x) k:=by
 obtain ⟨h1,h2,h3⟩:=fire2_peer d.Phase x
 unfold Z8b
 split
 ·exact ⟨h1,h2,h3,fun k=>rfl⟩
 ·exact ⟨h1,h2,h3,fun k=>rfl⟩
theorem sideO_map (d:Diner) (f:Side→Side) (hf:∀x,(f x).Peer=x.Peer) (i p b:Int):Zw7 ⟨i,p,d.Sides.map f⟩ b=(Zw7 d b).map f:=by
 unfold Zw7
 dsimp only
 rw [List.find?_map]
 congr 2
 funext x
 simp only [Function.comp,hf]
theorem Zbb (d:Diner) (b:Int):Zw7 (Zxa d) b=(Zw7 d b).map (Z8b d):=by
 have:=sideO_map d (Z8b d) (fun x=>(Zab d x).1) (Zxa d).ID (Zxa d).Phase b
 rw [←Z9b] at this
 exact this
theorem Zcb {d:Diner} {b:Int} {x:Side} (h:Zw7 d b=some x):x∈d.Sides∧x.Peer=b:=by
 unfold Zw7 at h
 exact ⟨List.mem_of_find?_eq_some h,by simpa using List.find?_some h⟩
theorem LocD.fire {d:Diner} (h:LocD d):LocD (Zxa d):=by
 have hs:∀y∈(Zxa d).Sides,∃x∈d.Sides,y=Z8b d x:=fun y hy=>by
  rw [Z9b] at hy
  obtain ⟨x,hx,rfl⟩:=List.mem_map.1 hy
  exact ⟨x,hx,rfl⟩
 have hph:(Zxa d).Phase=2→(decide (d.Phase=1)&&(d.Sides.map (Zua d.Phase)).all (·.Fork))=true∨d.Phase=2:=fun h2=>by
  unfold Zxa at h2
  split at h2
  ·rename_i h1;exact .inl h1
  ·exact .inr h2
 have allF:(decide (d.Phase=1)&&(d.Sides.map (Zua d.Phase)).all (·.Fork))=true→∀x∈d.Sides,(Zua d.Phase x).Fork=true:=fun h1 x hx=>by
  rw [Bool.and_eq_true,List.all_eq_true] at h1
  exact h1.2 _ (List.mem_map_of_mem hx)
 refine ⟨?_,?_,fun y hy=>?_,fun h2 y hy=>?_⟩
 ·unfold Zxa;split
  ·show (0:Int)≤2;omega
  ·exact h.lo
 ·unfold Zxa;split
  ·exact Int.le_refl _
  ·exact h.hi
 ·obtain ⟨x,hx,rfl⟩:=hs y hy
  obtain ⟨s1,s2,s3⟩:=h.side x hx
  obtain ⟨p1,p2,p3,_⟩:=Zab d x
  refine ⟨by rw [p2,s1],by rw [p3,s2],?_⟩
  unfold Z8b
  split
  ·rename_i h1;exact fun _=>allF h1 x hx
  ·exact fire2_dirty _ _ s3
 ·obtain ⟨x,hx,rfl⟩:=hs y hy
  rcases hph h2 with h1 | h1
  ·unfold Z8b
   rw [if_pos h1]
   exact ⟨allF h1 x hx,rfl⟩
  ·unfold Z8b
   rw [h1,show (decide ((2:Int)=1)&&(d.Sides.map (Zua 2)).all (·.Fork))=false from rfl,if_neg (by simp),fire2_eats]
   exact h.eat h1 x hx
theorem Inv.pw {g:Graph} {s:Scene} (hg:okG g=true) (h:Inv g s) {a:Nat} {d:Diner} (hd:s.Diners[a]?=some d):d.Sides.Pairwise fun x y=>x.Peer<y.Peer:=by
 have:=Zp9 hg a
 rw [←(h.shp a d hd).2,List.pairwise_map] at this
 exact this
theorem Inv.fire {g:Graph} {s:Scene} (hg:okG g=true) (h:Inv g s) {a:Nat} {d:Diner} (hd:s.Diners[a]?=some d):Inv g ⟨s.Diners.set a (Zxa d),s.Mail++Zya d⟩:=by
 obtain ⟨hid,hsh⟩:=h.shp a d hd
 have hdm:=List.mem_iff_getElem?.2 ⟨_,hd⟩
 have hloc:=h.loc d hdm
 refine h.set hg hd (fireD_id d) ?_ hloc.fire (fun m hm=>?_) (fun k p q hp hq=>?_) (fun b hb k hk=>?_)
 ·rw [Z9b,List.map_map]
  refine List.map_congr_left fun x _=>(Zab d x).1
 ·rcases List.mem_append.1 hm with hm | hm
  ·exact h.mail m hm
  ·obtain ⟨x,hx,hxm⟩:=List.mem_flatMap.1 hm
   obtain ⟨m1,m2,m3,m4,m5⟩:=Z4b hxm
   refine ⟨m3,by rw [m4];exact (hloc.side x hx).1,m5,?_⟩
   rw [m1,m2,hid,←hsh]
   exact List.mem_map_of_mem hx
 ·unfold cnt
  rw [List.count_append,Z7b (by rw [hid];exact hp)]
  rfl
 ·have hne:=(Zs9 hg hb).2.2.1
  unfold cnt
  rw [List.count_append,List.count_append,Z7b (p:=b) (by rw [hid];exact hne)]
  have e:=Z6b d.ID d.Phase k b d.Sides (h.pw hg hd)
  rw [hid] at e
  unfold Zya
  rw [hid,e]
  unfold hasD
  rw [Zbb]
  unfold Zw7
  cases hf:d.Sides.find? (fun x=>decide (x.Peer=b)) with
  | none=>simp
  | some x=>
    have hx:=List.mem_of_find?_eq_some hf
    have:=fire_side (a:Int) d.Phase k x hk (hloc.side x hx).1
    have h3:=(Zab d x).2.2.2 k
    simp only [Option.map_some,h3]
    omega
set_option maxRecDepth 100000
set_option maxHeartbeats 4000000
@[go_sem] def e49:EC:=.seq (.reg [(Qx 2 25 2 0),(Qa 4 (.mv (.c .ff)))]) (.seq (.reg [(Qm 5 1),(Qa 6 (.bin .geq (.t 5) (.c (.iv 0)))),(Qm 7 6),(Qg 8 7 true (.mv (.t 1))),(Qh 9 7 true 0 2),(Qn 10 7 true 9),(Qg 11 7 true (.len (.t 10))),(Qg 12 7 true (.bin .lss (.t 8) (.t 11))),(Qp 13 7 12),(Qm 4 13)]) (.ret))
theorem ok49:FnOK Tryz.prog 49 Tryz.f49 e49 [.t 4] 2 12:=⟨by kernel_rfl,⟨_,rfl,by kernel_rfl⟩,by kernel_rfl,by kernel_rfl⟩
noncomputable def Zdb:Bool→Option Bool
| x3=>
 some x3
noncomputable def Zeb (x1:Scene) (x2:Int):Option Bool:=
 ifb (decide (0≤x2)) (
 Zdb (decide (x2<(ln Diner.row x1.Diners)))) (
 Zdb false)
theorem Zfb (x1:Scene) (x2:Int) (r:Bool) (h:Zeb x1 x2=some r):Zu2 Tryz.prog 49 [.agg (Scene.row x1),.iv x2] (.bv r):=by
 refine Zy2 ok49 rfl rfl fun w0 H0=>?_
 rw [Zeb] at h
 refine Zo2 10 ?_;dsimp only [go_sem];refine An ?_;refine Zh4 (fun (x3:Bool)=>(⟨(an 4 (.bv x3::an 9 [])),[],[]⟩:St)) Zdb r ?_ fun J1=>?_
 ·intro x3 h;rw [Zdb] at h;(try dsimp only);exact Zr4 (res:=fun (r:Bool)=>.bv r) ok49 h
 ·refine Zq4 7 h rfl (fun _ h=>?_) fun _ h=>?_
  ·dsimp only [go_sem];refine Zo2 8 ?_;dsimp only [go_sem];refine An ?_;exact Zt4 J1 (s:=decide (x2<(ln Diner.row x1.Diners))) h
  ·dsimp only [go_sem];refine Zo2 8 ?_;dsimp only [go_sem];refine An ?_;exact Zt4 J1 (s:=false) h
set_option maxRecDepth 100000
set_option maxHeartbeats 4000000
@[go_sem] def e41:EC:=.seq (.reg [(Qx 2 78 5 0),(Qa 3 (.mv (.c .ff)))]) (.seq (.reg [(Qf 4 0 2),(Ql 5 4),(Qf 6 1 2),(Ql 7 6),(Qa 8 (.mm false [(.t 5),(.t 7)])),(Qa 9 (.bin .lss (.t 8) (.c (.iv 0)))),(Qm 10 9),(Qh 11 10 false 0 2),(Qn 12 10 false 11),(Qh 13 10 false 1 2),(Qn 14 10 false 13),(Qg 15 10 false (.mm true [(.t 12),(.t 14)])),(Qh 16 10 false 0 1),(Qn 17 10 false 16),(Qg 18 10 false (.len (.t 17))),(Qg 19 10 false (.bin .geq (.t 15) (.t 18))),(Qq 20 10 19),(Qm 21 20),(Qh 22 21 false 0 2),(Qn 23 21 false 22),(Qh 24 21 false 1 2),(Qn 25 21 false 24),(Qg 26 21 false (.bin .eql (.t 23) (.t 25))),(Qq 27 21 26),(Qm 3 27)]) (.ret))
theorem ok41:FnOK Tryz.prog 41 Tryz.f41 e41 [.t 3] 2 26:=⟨by kernel_rfl,⟨_,rfl,by kernel_rfl⟩,by kernel_rfl,by kernel_rfl⟩
noncomputable def Zgb:Bool→Option Bool
| x3=>
 some x3
noncomputable def Zhb (x1:Mail) (x2:Scene):Option Bool:=
 ifb (decide (((min x1.From x1.To))<0)) (
 Zgb true) (
 ifb (decide ((ln Diner.row x2.Diners)≤((max x1.From x1.To)))) (
 Zgb true) (
 Zgb (decide (x1.From=x1.To))))
theorem Zib (x1:Mail) (x2:Scene) (r:Bool) (h:Zhb x1 x2=some r):Zu2 Tryz.prog 41 [.agg (Mail.row x1),.elt (Scene.row x2) 0] (.bv r):=by
 refine Zy2 ok41 rfl rfl fun w0 H0=>?_
 rw [Zhb] at h
 refine Zo2 14 ?_;dsimp only [go_sem];refine An ?_;refine Zh4 (fun (x3:Bool)=>(⟨(an 3 (.bv x3::an 24 [])),[],[]⟩:St)) Zgb r ?_ fun J1=>?_
 ·intro x3 h;rw [Zgb] at h;(try dsimp only);exact Zr4 (res:=fun (r:Bool)=>.bv r) ok41 h
 ·refine Zq4 10 h rfl (fun _ h=>?_) fun _ h=>?_
  ·dsimp only [go_sem];refine Zo2 19 ?_;dsimp only [go_sem];refine An ?_;exact Zt4 J1 (s:=true) h
  ·dsimp only [go_sem];refine Zo2 11 ?_;dsimp only [go_sem];refine An ?_;refine Zq4 21 h rfl (fun _ h=>?_) fun _ h=>?_
   ·dsimp only [go_sem];refine Zo2 8 ?_;dsimp only [go_sem];refine An ?_;exact Zt4 J1 (s:=true) h
   ·dsimp only [go_sem];refine Zo2 8 ?_;dsimp only [go_sem];refine An ?_;exact Zt4 J1 (s:=decide (x1.From=x1.To)) h
set_option maxRecDepth 100000
set_option maxHeartbeats 4000000
@[go_sem] def e42:EC:=.seq (.reg [(Qx 1 70 3 0),(Qa 2 (.mv (.c .ff)))]) (.seq (.reg [(Qe 3 3 1),(Qa 4 (.call 43 [(.t 3)])),(Qa 5 (.bin .neq (.t 4) (.c (.iv 0)))),(Qm 2 5)]) (.ret))
theorem ok42:FnOK Tryz.prog 42 Tryz.f42 e42 [.t 2] 1 5:=⟨by kernel_rfl,⟨_,rfl,by kernel_rfl⟩,by kernel_rfl,by kernel_rfl⟩
noncomputable def Zjb (x1:Diner):Option Bool:=
 (Zba x1).bind fun x2=>
 some (!decide (x2=0))
theorem Zkb (x1:Diner) (r:Bool) (h:Zjb x1=some r):Zu2 Tryz.prog 42 [.agg (Diner.row x1)] (.bv r):=by
 refine Zy2 ok42 rfl rfl fun w0 H0=>?_
 rw [Zjb] at h
 refine Zo2 8 ?_;dsimp only [go_sem];refine An ?_;obtain ⟨x2,ex2,h⟩:=Bs h;refine Z33 trivial (Zca x1 _ ex2) (h:=?_);refine Zo2 3 ?_;dsimp only [go_sem];refine An ?_;exact Zr4 (res:=fun (r:Bool)=>.bv r) ok42 h
set_option maxRecDepth 100000
set_option maxHeartbeats 4000000
@[go_sem] def e81_L0:EC:=.seq (.reg [(Qa 9 (.bin .lss (.t 8) (.t 7)))]) (.seq (.ite (.t 9) (.skip) (.exit 0)) (.seq (.blk 1 (.seq (.reg [(Qm 10 8),(Qm 5 10)]) (.seq (.reg [(Qm 11 1),(Qm 12 0),(Qm 13 5),(Qk 14 3 12 13),(Qe 15 3 14),(Qa 16 (.callv (.t 11) [(.t 15)]))]) (.ite (.t 16) (.seq (.reg [(Qm 17 5),(Qm 4 17)]) (.ret)) (.skip))))) (.reg [(Qv 18 8 1),(Qm 8 18)])))
@[go_sem] def e81:EC:=.seq (.reg [(Qi 4 0)]) (.seq (.seq (.reg [(Qm 6 0),(Qa 7 (.len (.t 6))),(Qi 8 0)]) (.blk 0 (.loop e81_L0))) (.seq (.reg [(Qa 4 (.mv (.c (.iv (-1)))))]) (.ret)))
theorem ok81:FnOK Tryz.prog 81 Tryz.f81 e81 [.t 4] 2 17:=⟨by kernel_rfl,⟨_,rfl,by kernel_rfl⟩,by kernel_rfl,by kernel_rfl⟩
noncomputable def Zlb:Unit→Option Int
| ()=>
 some (-1)
noncomputable def Zmb (x1:(List Diner)) (p1:(Diner→Option Bool)):Int→Option (Int ⊕ Int)
| x5=>
 ifb (decide (x5<(ln Diner.row x1))) (
 (at_ x1 x5).bind fun x6=>
 (p1 x6).bind fun x7=>
 ifb x7 (
 Option.map Sum.inr (some x5)) (
 some (.inl (wr (x5+1))))) (
 Option.map Sum.inr (Zlb ()))
noncomputable def Znb (x1:(List Diner)) (p1:(Diner→Option Bool)):Option Int:=
 loop (Zmb x1 p1) 0
theorem Zob (x1:(List Diner)) (g1:Nat) (caps1:List AV) (p1:(Diner→Option Bool)) (hc1:CloOK Tryz.prog g1 caps1 (fun z=>[.agg (Diner.row z)]) p1 (fun z=>.bv z)) (r:Int) (h:Znb x1 p1=some r):Zu2 Tryz.prog 81 [.sl 3 (List.map Diner.row x1),.clo g1 caps1] (.iv r):=by
 refine Zy2 ok81 rfl rfl fun w0 H0=>?_
 rw [Znb] at h
 refine Zo2 11 ?_;dsimp only [go_sem];refine An ?_;refine Zh4 (fun (_:Unit)=>(⟨(an 19 []),[],[]⟩:St)) Zlb r ?_ fun J1=>?_
 ·rintro ⟨⟩ h;rw [Zlb] at h;(try dsimp only);refine Zo2 4 ?_;dsimp only [go_sem];refine An ?_;exact Zr4 (res:=fun (r:Int)=>.iv r) ok81 h
 ·refine Zo2 1 ?_;dsimp only [go_sem];refine An ?_;refine Zi4 h (fun (x5:Int)=>(⟨(.sl 3 (List.map Diner.row x1) :: .clo g1 caps1::an 5 (.iv (ln Diner.row x1) :: .iv x5::an 10 [])),[],[]⟩:St)) (by simp [go_sem]) (by intro x5;first | rfl | simp [go_sem,Z84 _ hc1.pu]) ?_;rintro n1 x5 y1 h hin1 hout1;rw [Zmb] at h;(try dsimp only);refine Zo2 5 ?_;dsimp only [go_sem];refine An ?_;refine Zj4 h rfl (fun _ h=>?_) fun _ h=>?_
  ·refine Zo2 13 ?_;dsimp only [go_sem];refine An ?_;obtain ⟨x6,ex6,h⟩:=Bs h;refine Zm4 Diner.row ex6 trivial rfl rfl rfl ?_;refine Zo2 1 ?_;dsimp only [go_sem];refine An ?_;obtain ⟨x7,ex7,h⟩:=Bs h;refine Zw4 trivial rfl hc1 (x:=x6) ex7 (by first | exact Z94 _ | simp [go_sem]) (by first | rfl | simp [go_sem,hc1.pu]) ?_;refine Zo2 1 ?_;dsimp only [go_sem];refine An ?_;refine Zj4 h rfl (fun _ h=>?_) fun _ h=>?_
   ·refine Zo2 5 ?_;dsimp only [go_sem];refine An ?_;exact Zr4 (res:=fun (r:Int)=>.iv r) ok81 (Zg4 h hout1)
   ·refine Zo2 6 ?_;dsimp only [go_sem];refine An ?_;exact Zs4 h hin1 (hok:=by first | rfl | simp [go_sem,Z84 _ hc1.pu])
  ·refine Zo2 1 ?_;dsimp only [go_sem];refine An ?_;exact Zt4 J1 (s:=()) (Zg4 h hout1) (hok:=by first | rfl | simp [go_sem,Z84 _ hc1.pu])
set_option maxRecDepth 100000
set_option maxHeartbeats 4000000
@[go_sem] def e45:EC:=.seq (.reg [(Qa 4 (.mv (.c .ff)))]) (.seq (.reg [(Qm 5 0),(Qm 6 1),(Qa 7 (.call 81 [(.t 5),(.t 6)])),(Qa 8 (.bin .geq (.t 7) (.c (.iv 0)))),(Qm 4 8)]) (.ret))
theorem ok45:FnOK Tryz.prog 45 Tryz.f45 e45 [.t 4] 2 7:=⟨by kernel_rfl,⟨_,rfl,by kernel_rfl⟩,by kernel_rfl,by kernel_rfl⟩
noncomputable def Zpb (x1:(List Diner)) (p1:(Diner→Option Bool)):Option Bool:=
 (Znb x1 p1).bind fun x2=>
 some (decide (0≤x2))
theorem Zqb (x1:(List Diner)) (g1:Nat) (caps1:List AV) (p1:(Diner→Option Bool)) (hc1:CloOK Tryz.prog g1 caps1 (fun z=>[.agg (Diner.row z)]) p1 (fun z=>.bv z)) (r:Bool) (h:Zpb x1 p1=some r):Zu2 Tryz.prog 45 [.sl 3 (List.map Diner.row x1),.clo g1 caps1] (.bv r):=by
 refine Zy2 ok45 rfl rfl fun w0 H0=>?_
 rw [Zpb] at h
 refine Zo2 8 ?_;dsimp only [go_sem];refine An ?_;obtain ⟨x2,ex2,h⟩:=Bs h;refine Z33 trivial (Zob x1 _ _ p1 hc1 _ ex2) (hp:=(by first | rfl | simp [go_sem,hc1.pu])) (h:=?_);refine Zo2 3 ?_;dsimp only [go_sem];refine An ?_;exact Zr4 (res:=fun (r:Bool)=>.bv r) ok45 h
set_option maxRecDepth 100000
set_option maxHeartbeats 4000000
@[go_sem] def e68_L0:EC:=.seq (.reg [(Qa 9 (.bin .lss (.t 8) (.t 7)))]) (.seq (.ite (.t 9) (.skip) (.exit 0)) (.seq (.blk 1 (.seq (.reg [(Qm 10 8),(Qm 5 10)]) (.seq (.reg [(Qm 11 1),(Qm 12 0),(Qm 13 5),(Qk 14 5 12 13),(Qe 15 5 14),(Qa 16 (.callv (.t 11) [(.t 15)]))]) (.ite (.t 16) (.seq (.reg [(Qm 17 5),(Qm 4 17)]) (.ret)) (.skip))))) (.reg [(Qv 18 8 1),(Qm 8 18)])))
@[go_sem] def e68:EC:=.seq (.reg [(Qi 4 0)]) (.seq (.seq (.reg [(Qm 6 0),(Qa 7 (.len (.t 6))),(Qi 8 0)]) (.blk 0 (.loop e68_L0))) (.seq (.reg [(Qa 4 (.mv (.c (.iv (-1)))))]) (.ret)))
theorem ok68:FnOK Tryz.prog 68 Tryz.f68 e68 [.t 4] 2 17:=⟨by kernel_rfl,⟨_,rfl,by kernel_rfl⟩,by kernel_rfl,by kernel_rfl⟩
noncomputable def Zrb:Unit→Option Int
| ()=>
 some (-1)
noncomputable def Zsb (x1:(List Mail)) (p1:(Mail→Option Bool)):Int→Option (Int ⊕ Int)
| x5=>
 ifb (decide (x5<(ln Mail.row x1))) (
 (at_ x1 x5).bind fun x6=>
 (p1 x6).bind fun x7=>
 ifb x7 (
 Option.map Sum.inr (some x5)) (
 some (.inl (wr (x5+1))))) (
 Option.map Sum.inr (Zrb ()))
noncomputable def Ztb (x1:(List Mail)) (p1:(Mail→Option Bool)):Option Int:=
 loop (Zsb x1 p1) 0
theorem Zub (x1:(List Mail)) (g1:Nat) (caps1:List AV) (p1:(Mail→Option Bool)) (hc1:CloOK Tryz.prog g1 caps1 (fun z=>[.agg (Mail.row z)]) p1 (fun z=>.bv z)) (r:Int) (h:Ztb x1 p1=some r):Zu2 Tryz.prog 68 [.sl 5 (List.map Mail.row x1),.clo g1 caps1] (.iv r):=by
 refine Zy2 ok68 rfl rfl fun w0 H0=>?_
 rw [Ztb] at h
 refine Zo2 11 ?_;dsimp only [go_sem];refine An ?_;refine Zh4 (fun (_:Unit)=>(⟨(an 19 []),[],[]⟩:St)) Zrb r ?_ fun J1=>?_
 ·rintro ⟨⟩ h;rw [Zrb] at h;(try dsimp only);refine Zo2 4 ?_;dsimp only [go_sem];refine An ?_;exact Zr4 (res:=fun (r:Int)=>.iv r) ok68 h
 ·refine Zo2 1 ?_;dsimp only [go_sem];refine An ?_;refine Zi4 h (fun (x5:Int)=>(⟨(.sl 5 (List.map Mail.row x1) :: .clo g1 caps1::an 5 (.iv (ln Mail.row x1) :: .iv x5::an 10 [])),[],[]⟩:St)) (by simp [go_sem]) (by intro x5;first | rfl | simp [go_sem,Z84 _ hc1.pu]) ?_;rintro n1 x5 y1 h hin1 hout1;rw [Zsb] at h;(try dsimp only);refine Zo2 5 ?_;dsimp only [go_sem];refine An ?_;refine Zj4 h rfl (fun _ h=>?_) fun _ h=>?_
  ·refine Zo2 13 ?_;dsimp only [go_sem];refine An ?_;obtain ⟨x6,ex6,h⟩:=Bs h;refine Zm4 Mail.row ex6 trivial rfl rfl rfl ?_;refine Zo2 1 ?_;dsimp only [go_sem];refine An ?_;obtain ⟨x7,ex7,h⟩:=Bs h;refine Zw4 trivial rfl hc1 (x:=x6) ex7 (by first | exact Z94 _ | simp [go_sem]) (by first | rfl | simp [go_sem,hc1.pu]) ?_;refine Zo2 1 ?_;dsimp only [go_sem];refine An ?_;refine Zj4 h rfl (fun _ h=>?_) fun _ h=>?_
   ·refine Zo2 5 ?_;dsimp only [go_sem];refine An ?_;exact Zr4 (res:=fun (r:Int)=>.iv r) ok68 (Zg4 h hout1)
   ·refine Zo2 6 ?_;dsimp only [go_sem];refine An ?_;exact Zs4 h hin1 (hok:=by first | rfl | simp [go_sem,Z84 _ hc1.pu])
  ·refine Zo2 1 ?_;dsimp only [go_sem];refine An ?_;exact Zt4 J1 (s:=()) (Zg4 h hout1) (hok:=by first | rfl | simp [go_sem,Z84 _ hc1.pu])
set_option maxRecDepth 100000
set_option maxHeartbeats 4000000
@[go_sem] def e46:EC:=.seq (.reg [(Qa 4 (.mv (.c .ff)))]) (.seq (.reg [(Qm 5 0),(Qm 6 1),(Qa 7 (.call 68 [(.t 5),(.t 6)])),(Qa 8 (.bin .geq (.t 7) (.c (.iv 0)))),(Qm 4 8)]) (.ret))
theorem ok46:FnOK Tryz.prog 46 Tryz.f46 e46 [.t 4] 2 7:=⟨by kernel_rfl,⟨_,rfl,by kernel_rfl⟩,by kernel_rfl,by kernel_rfl⟩
noncomputable def Zvb (x1:(List Mail)) (p1:(Mail→Option Bool)):Option Bool:=
 (Ztb x1 p1).bind fun x2=>
 some (decide (0≤x2))
theorem Zwb (x1:(List Mail)) (g1:Nat) (caps1:List AV) (p1:(Mail→Option Bool)) (hc1:CloOK Tryz.prog g1 caps1 (fun z=>[.agg (Mail.row z)]) p1 (fun z=>.bv z)) (r:Bool) (h:Zvb x1 p1=some r):Zu2 Tryz.prog 46 [.sl 5 (List.map Mail.row x1),.clo g1 caps1] (.bv r):=by
 refine Zy2 ok46 rfl rfl fun w0 H0=>?_
 rw [Zvb] at h
 refine Zo2 8 ?_;dsimp only [go_sem];refine An ?_;obtain ⟨x2,ex2,h⟩:=Bs h;refine Z33 trivial (Zub x1 _ _ p1 hc1 _ ex2) (hp:=(by first | rfl | simp [go_sem,hc1.pu])) (h:=?_);refine Zo2 3 ?_;dsimp only [go_sem];refine An ?_;exact Zr4 (res:=fun (r:Bool)=>.bv r) ok46 h
set_option maxRecDepth 100000
set_option maxHeartbeats 4000000
@[go_sem] def e12:EC:=.seq (.reg [(Qx 1 25 2 0),(Qi 2 0)]) (.seq (.reg [(Qa 7 (.mkf 41 [(.t 1)])),(Qm 3 7)]) (.seq (.reg [(Qa 4 (.mv (.c (.clo 42 []))))]) (.seq (.seq (.reg [(Qf 9 0 1),(Ql 10 9),(Qa 11 (.call 44 [(.t 10)])),(Qm 8 11),(Qa 12 (.ext (.t 8) 0)),(Qa 13 (.ext (.t 8) 1)),(Qa 5 (.alloc 48 [.iv 0,.nl])),(Qs 2 5 12),(Qm 6 13)]) (.seq (.reg [(Qm 14 6),(Qa 15 (.not (.t 14))),(Qm 16 15),(Qh 17 16 false 0 1),(Qn 18 16 false 17),(Qg 19 16 false (.mv (.t 4))),(Qg 20 16 false (.call 45 [(.t 18),(.t 19)])),(Qq 21 16 20),(Qm 22 21),(Qh 23 22 false 1 1),(Qn 24 22 false 23),(Qg 25 22 false (.mv (.t 3))),(Qg 26 22 false (.call 46 [(.t 24),(.t 25)])),(Qq 27 22 26)]) (.ite (.t 27) (.seq (.reg [(Qi 2 142)]) (.ret)) (.skip)))) (.seq (.reg [(Qi 2 0)]) (.ret)))))
theorem ok12:FnOK Tryz.prog 12 Tryz.f12 e12 [.t 2] 1 27:=⟨by kernel_rfl,⟨_,rfl,by kernel_rfl⟩,by kernel_rfl,by kernel_rfl⟩
noncomputable def Zxb:Bool→Option Int
| x5=>
 ifb x5 (
 some 142) (
 some 0)
noncomputable def Zyb (x1:Scene):Option Int:=
 (Z68 x1.Diners).bind fun x2=>
 ifb (!x2.2) (
 Zxb true) (
 (Zpb x1.Diners ((fun z=>Zjb z))).bind fun x3=>
 ifb x3 (
 Zxb true) (
 (Zvb x1.Mail ((fun z=>Zhb z x1))).bind fun x4=>
 Zxb x4))
theorem Zzb (x1:Scene) (r:Int) (h:Zyb x1=some r):Zu2 Tryz.prog 12 [.agg (Scene.row x1)] (.iv r):=by
 refine Zy2 ok12 rfl rfl fun w0 H0=>?_
 rw [Zyb] at h
 refine Zo2 19 ?_;dsimp only [go_sem];refine An ?_;obtain ⟨x2,ex2,h⟩:=Bs h;refine Z33 trivial (k_place_Graph x1.Diners _ ex2) (h:=?_);refine Zo2 12 ?_;dsimp only [go_sem];refine An ?_;refine Zh4 (fun (x5:Bool)=>(⟨(an 27 [.bv x5]),[],[]⟩:St)) Zxb r ?_ fun J1=>?_
 ·intro x5 h;rw [Zxb] at h;(try dsimp only);refine Zj4 h rfl (fun _ h=>?_) fun _ h=>?_
  ·refine Zo2 4 ?_;dsimp only [go_sem];refine An ?_;exact Zr4 (res:=fun (r:Int)=>.iv r) ok12 h
  ·refine Zo2 5 ?_;dsimp only [go_sem];refine An ?_;exact Zr4 (res:=fun (r:Int)=>.iv r) ok12 h
 ·refine Zq4 16 h rfl (fun _ h=>?_) fun _ h=>?_
  ·dsimp only [go_sem];refine Zo2 12 ?_;dsimp only [go_sem];refine An ?_;exact Zt4 J1 (s:=true) h
  ·dsimp only [go_sem];refine Zo2 3 ?_;dsimp only [go_sem];refine An ?_;obtain ⟨x3,ex3,h⟩:=Bs h;refine Z33 trivial (Zqb x1.Diners _ _ ((fun z=>Zjb z)) ⟨by kernel_rfl,rfl,fun z r hz=>Zkb z r hz⟩ _ ex3) (h:=?_);refine Zo2 2 ?_;dsimp only [go_sem];refine An ?_;refine Zq4 22 h rfl (fun _ h=>?_) fun _ h=>?_
   ·dsimp only [go_sem];refine Zo2 6 ?_;dsimp only [go_sem];refine An ?_;exact Zt4 J1 (s:=true) h
   ·dsimp only [go_sem];refine Zo2 3 ?_;dsimp only [go_sem];refine An ?_;obtain ⟨x4,ex4,h⟩:=Bs h;refine Zv4 trivial ((Zu4.refl _).block 0 rfl rfl) (Zwb x1.Mail _ _ ((fun z=>Zhb z x1)) ⟨by kernel_rfl,rfl,fun z r hz=>Zib z x1 r hz⟩ _ ex4) (h:=?_);refine Zo2 2 ?_;dsimp only [go_sem];refine An ?_;exact Zt4 J1 (s:=x4) h
set_option maxRecDepth 100000
set_option maxHeartbeats 4000000
@[go_sem] def e98:EC:=.seq (.reg [(Qa 4 (.mv (.c .nl)))]) (.seq (.seq (.reg [(Qm 5 1),(Qa 6 (.bin .lss (.t 5) (.c (.iv 0))))]) (.ite (.t 6) (.reg [(Qa 7 .bad),(Qb .bad)]) (.skip))) (.seq (.seq (.reg [(Qm 8 1),(Qm 9 0),(Qa 10 (.cap (.t 9))),(Qm 11 0),(Qa 12 (.len (.t 11))),(Qa 13 (.bin .sub (.t 10) (.t 12))),(Qa 14 (.bin .sub (.t 8) (.t 13))),(Qm 1 14)]) (.seq (.reg [(Qm 15 1),(Qa 16 (.bin .gtr (.t 15) (.c (.iv 0))))]) (.ite (.t 16) (.reg [(Qm 17 0),(Qm 18 0),(Qa 19 (.cap (.t 18))),(Qa 20 (.slice 5 (.t 17) none (some (.t 19)))),(Qm 21 1),(Qa 22 (.apz 78 5 40 [.iv 0,.iv 0,.iv 0,.iv 0,.iv 0] (.t 20) (.t 21))),(Qm 23 0),(Qa 24 (.len (.t 23))),(Qa 25 (.slice 5 (.t 22) none (some (.t 24)))),(Qm 0 25)]) (.skip)))) (.seq (.reg [(Qm 26 0),(Qm 4 26)]) (.ret))))
theorem ok98:FnOK Tryz.prog 98 Tryz.f98 e98 [.t 4] 2 25:=⟨by kernel_rfl,⟨_,rfl,by kernel_rfl⟩,by kernel_rfl,by kernel_rfl⟩
set_option maxRecDepth 100000
set_option maxHeartbeats 4000000
@[go_sem] def e70_L1:EC:=.seq (.reg [(Qa 28 (.bin .lss (.t 27) (.t 26)))]) (.seq (.ite (.t 28) (.skip) (.exit 2)) (.seq (.blk 3 (.seq (.reg [(Qk 29 1 25 27),(Ql 30 29),(Qm 8 30)]) (.reg [(Qm 31 6),(Qm 32 8),(Qa 33 (.app 78 5 40 (.t 31) (.t 32))),(Qm 6 33)]))) (.reg [(Qv 34 27 1),(Qm 27 34)])))
@[go_sem] def e70_L0:EC:=.seq (.reg [(Qa 12 (.bin .lss (.t 11) (.t 10)))]) (.seq (.ite (.t 12) (.skip) (.exit 0)) (.seq (.blk 1 (.seq (.reg [(Qk 13 1 9 11),(Ql 14 13),(Qm 5 14)]) (.seq (.reg [(Qm 15 3),(Qm 16 5),(Qa 17 (.len (.t 16))),(Qa 18 (.bin .add (.t 15) (.t 17))),(Qm 3 18)]) (.seq (.reg [(Qm 19 3),(Qa 20 (.bin .lss (.t 19) (.c (.iv 0))))]) (.ite (.t 20) (.reg [(Qa 21 .bad),(Qb .bad)]) (.skip)))))) (.reg [(Qv 22 11 1),(Qm 11 22)])))
@[go_sem] def e70:EC:=.seq (.reg [(Qa 2 (.mv (.c .nl)))]) (.seq (.reg [(Qi 3 0)]) (.seq (.seq (.reg [(Qm 9 0),(Qa 10 (.len (.t 9))),(Qi 11 0)]) (.blk 0 (.loop e70_L0))) (.seq (.reg [(Qm 23 3),(Qa 24 (.call 98 [(.c .nl),(.t 23)])),(Qm 6 24)]) (.seq (.seq (.reg [(Qm 25 0),(Qa 26 (.len (.t 25))),(Qi 27 0)]) (.blk 2 (.loop e70_L1))) (.seq (.reg [(Qm 35 6),(Qm 2 35)]) (.ret))))))
theorem ok70:FnOK Tryz.prog 70 Tryz.f70 e70 [.t 2] 1 35:=⟨by kernel_rfl,⟨_,rfl,by kernel_rfl⟩,by kernel_rfl,by kernel_rfl⟩
noncomputable def Z0c:(List Mail)→Option (List Mail)
| x4=>
 some x4
noncomputable def Z1c (x1:Int):Unit→Option (List Mail)
| ()=>
 ifb (decide (0<(wr (x1-(wr (0-0)))))) (
 (apz_ 40 (wr (x1-(wr (0-0)))) ((Mail.mk 0 0 ((Msg.mk 0 0 0))))).bind fun x2=>
 (Zb4 x2 0 0).bind fun x3=>
 Z0c x3) (
 Z0c (([]:List Mail)))
noncomputable def Z2c (x1:Int):Option (List Mail):=
 ifb (decide (x1<0)) (
 none) (
 (Z1c x1) ())
theorem Z3c (x1:Int) (r:(List Mail)) (h:Z2c x1=some r):FunT Tryz.prog 98 [.nl,.iv x1] [] [] (.osl 0) [] [some ⟨78,5,List.map Mail.row r⟩]:=by
 refine Zk5 ok98 rfl rfl rfl (by first | rfl | simp [go_sem]) fun w0 M0=>?_
 rw [Z2c] at h
 dsimp only [lun,List.cons_append,List.nil_append]
 refine Zo2 10 ?_;dsimp only [go_sem];refine An ?_;refine Zh4 (fun (_:Unit)=>(⟨(.nl :: .iv x1::an 25 []),[],[]⟩:St)) (Z1c x1) r ?_ fun J1=>?_
 ·rintro ⟨⟩ h;rw [Z1c] at h;(try dsimp only);refine Zo2 5 ?_;dsimp only [go_sem];refine An ?_;refine V_capN trivial rfl ?_;refine Zo2 11 ?_;dsimp only [go_sem];refine An ?_;refine Zh4 (fun (x4:(List Mail))=>(⟨(.osl 0::an 26 []),[],[some ⟨78,5,List.map Mail.row x4⟩]⟩:St)) Z0c r ?_ fun J2=>?_
  ·intro x4 h;rw [Z0c] at h;(try dsimp only);refine Zo2 5 ?_;dsimp only [go_sem];refine An ?_;obtain rfl:=Option.some.inj h;exact T_done ok98 rfl (by simp [go_sem])
  ·refine Zj4 h rfl (fun _ h=>?_) fun _ h=>?_
   ·refine Zo2 3 ?_;dsimp only [go_sem];refine An ?_;refine V_capN trivial rfl ?_;refine V_sliceN trivial rfl rfl rfl ?_;refine Zo2 1 ?_;dsimp only [go_sem];refine An ?_;obtain ⟨x2,ex2,h⟩:=Bs h;refine V_apzM Mail.row ex2 trivial rfl rfl rfl rfl ?_;refine Zo2 2 ?_;dsimp only [go_sem];refine An ?_;obtain ⟨x3,ex3,h⟩:=Bs h;refine V_cutM Mail.row ex3 trivial rfl rfl rfl rfl ?_;refine Zo2 2 ?_;dsimp only [go_sem];refine An ?_;refine Z54 1 0 rfl rfl rfl ?_;dsimp only [go_sem];exact Zt4 J2 (s:=x3) h
   ·refine Zo2 1 ?_;dsimp only [go_sem];refine An ?_;refine Z64 0 78 5 rfl rfl ?_;dsimp only [go_sem];exact Zt4 J2 (s:=([]:List Mail)) h
 ·refine Zj4 h rfl (fun _ h=>?_) fun _ h=>?_
  ·cases h
  ·refine Zo2 1 ?_;dsimp only [go_sem];refine An ?_;exact Zt4 J1 (s:=()) h
noncomputable def Z4c:(List Mail)→Option (List Mail)
| x31=>
 some x31
noncomputable def Z5c (x1:(List (List Mail))):(Int×(List Mail))→Option ((Int×(List Mail)) ⊕ (List Mail))
| (x21,x22)=>
 ifb (decide (x21<(ln (Zz4 5 Mail.row) x1))) (
 (at_ x1 x21).bind fun x23=>
 (Za4 40 x22 x23).bind fun x24=>
 some (.inl (wr (x21+1),x24))) (
 Option.map Sum.inr (Z4c x22))
noncomputable def Z6c (x1:(List (List Mail))):Int→Option (List Mail)
| x15=>
 (Z2c x15).bind fun x16=>
 loop (Z5c x1) (0,x16)
noncomputable def Z7c (x5:Int) (x6:Int) (x7:(List Mail)):Unit→Option ((Int×Int) ⊕ (List Mail))
| ()=>
 some (.inl (wr (x5+(ln Mail.row x7)),wr (x6+1)))
noncomputable def Z8c (x1:(List (List Mail))):(Int×Int)→Option ((Int×Int) ⊕ (List Mail))
| (x5,x6)=>
 ifb (decide (x6<(ln (Zz4 5 Mail.row) x1))) (
 (at_ x1 x6).bind fun x7=>
 ifb (decide ((wr (x5+(ln Mail.row x7)))<0)) (
 none) (
 (Z7c x5 x6 x7) ())) (
 Option.map Sum.inr ((Z6c x1) x5))
noncomputable def Z9c (x1:(List (List Mail))):Option (List Mail):=
 loop (Z8c x1) (0,0)
theorem Zac (x1:(List (List Mail))) (r:(List Mail)) (h:Z9c x1=some r):FunO Tryz.prog 70 [.sl 1 (List.map (Zz4 5 Mail.row) x1)] 78 5 (List.map Mail.row r):=by
 refine Z55 ok70 rfl fun w0 H0=>?_
 rw [Z9c] at h
 refine Zo2 15 ?_;dsimp only [go_sem];refine An ?_;refine Zh4 (fun (x15:Int)=>(⟨(.sl 1 (List.map (Zz4 5 Mail.row) x1) :: .any :: .any :: .iv x15::an 32 []),[],[]⟩:St)) (Z6c x1) r ?_ fun J1=>?_
 ·intro x15 h;rw [Z6c] at h;(try dsimp only);refine Zo2 3 ?_;dsimp only [go_sem];refine An ?_;obtain ⟨x16,ex16,h⟩:=Bs h;refine V_callT [] [] trivial (Z3c x15 _ ex16) (h:=?_);dsimp only [go_sem];refine Zo2 9 ?_;dsimp only [go_sem];refine An ?_;refine Zh4 (fun (x31:(List Mail))=>(⟨(an 6 (.osl 0::an 29 [])),[],[some ⟨78,5,List.map Mail.row x31⟩]⟩:St)) Z4c r ?_ fun J3=>?_
  ·intro x31 h;rw [Z4c] at h;(try dsimp only);refine Zo2 5 ?_;dsimp only [go_sem];refine An ?_;exact Z95 Mail.row ok70 h rfl rfl
  ·refine Zo2 1 ?_;dsimp only [go_sem];refine An ?_;refine Zi4 h (fun ((x21,x22):(Int×(List Mail)))=>(⟨(an 6 (.osl 0::an 18 (.sl 1 (List.map (Zz4 5 Mail.row) x1) :: .iv (ln (Zz4 5 Mail.row) x1) :: .iv x21::an 8 []))),[],[some ⟨78,5,List.map Mail.row x22⟩]⟩:St)) (by simp [go_sem]) (by rintro ⟨x21,x22⟩;first | rfl | simp [go_sem]) ?_;rintro n1 ⟨x21,x22⟩ y1 h hin1 hout1;rw [Z5c] at h;(try dsimp only);refine Zo2 5 ?_;dsimp only [go_sem];refine An ?_;refine Zj4 h rfl (fun _ h=>?_) fun _ h=>?_
   ·refine Zo2 5 ?_;dsimp only [go_sem];refine An ?_;obtain ⟨x23,ex23,h⟩:=Bs h;refine Zm4 (Zz4 5 Mail.row) ex23 trivial rfl rfl rfl ?_;refine Zo2 6 ?_;dsimp only [go_sem];refine An ?_;obtain ⟨x24,ex24,h⟩:=Bs h;refine Zo4 Mail.row ex24 trivial rfl rfl rfl ?_;refine Zo2 7 ?_;dsimp only [go_sem];refine An ?_;refine Z54 1 0 rfl rfl rfl ?_;dsimp only [go_sem];exact Zs4 h hin1
   ·refine Zo2 1 ?_;dsimp only [go_sem];refine An ?_;exact Zt4 J3 (s:=x22) (Zg4 h hout1)
 ·refine Zo2 1 ?_;dsimp only [go_sem];refine An ?_;refine Zi4 h (fun ((x5,x6):(Int×Int))=>(⟨(.sl 1 (List.map (Zz4 5 Mail.row) x1) :: .any :: .any :: .iv x5::an 5 (.sl 1 (List.map (Zz4 5 Mail.row) x1) :: .iv (ln (Zz4 5 Mail.row) x1) :: .iv x6::an 24 [])),[],[]⟩:St)) (by simp [go_sem]) (by rintro ⟨x5,x6⟩;first | rfl | simp [go_sem]) ?_;rintro n1 ⟨x5,x6⟩ y1 h hin1 hout1;rw [Z8c] at h;(try dsimp only);refine Zo2 5 ?_;dsimp only [go_sem];refine An ?_;refine Zj4 h rfl (fun _ h=>?_) fun _ h=>?_
  ·refine Zo2 5 ?_;dsimp only [go_sem];refine An ?_;obtain ⟨x7,ex7,h⟩:=Bs h;refine Zm4 (Zz4 5 Mail.row) ex7 trivial rfl rfl rfl ?_;refine Zo2 16 ?_;dsimp only [go_sem];refine An ?_;refine Zh4 (fun (_:Unit)=>(⟨(.sl 1 (List.map (Zz4 5 Mail.row) x1) :: .any :: .any :: .iv (wr (x5+(ln Mail.row x7)))::an 5 (.sl 1 (List.map (Zz4 5 Mail.row) x1) :: .iv (ln (Zz4 5 Mail.row) x1) :: .iv x6::an 24 [])),[],[]⟩:St)) (Z7c x5 x6 x7) y1 ?_ fun J2=>?_
   ·rintro ⟨⟩ h;rw [Z7c] at h;(try dsimp only);refine Zo2 5 ?_;dsimp only [go_sem];refine An ?_;exact Zs4 h hin1
   ·refine Zj4 h rfl (fun _ h=>?_) fun _ h=>?_
    ·cases h
    ·refine Zo2 1 ?_;dsimp only [go_sem];refine An ?_;exact Zt4 J2 (s:=()) h
  ·refine Zo2 1 ?_;dsimp only [go_sem];refine An ?_;exact Zt4 J1 (s:=x5) (Zg4 h hout1)
set_option maxRecDepth 100000
set_option maxHeartbeats 4000000
set_option maxRecDepth 100000
set_option maxHeartbeats 4000000
theorem Zbc (l:List Mail) (p:Mail→Option Bool) (q:Mail→Bool) (hl:l.length≤4000000000000000000) (hp:∀x∈l,p x=some (q x)):Ztb l p=some (plc (l.findIdx? q)):=by
 unfold Ztb
 refine Z76 l _ q hl (fun k x hx=>?_) ?_
 ·simp only [Zsb,Z06 hx,Zu5,Zy5 hx,Option.bind_some,hp x (List.mem_iff_getElem?.2 ⟨k,hx⟩),Z36 hx hl]
  cases q x<;>rfl
 ·simp only [Zsb,Z16,Zv5,Zrb,Option.map_some]
theorem Zcc (l:List Mail) (p:Mail→Option Bool) (q:Mail→Bool) (hl:l.length≤4000000000000000000) (hp:∀x∈l,p x=some (q x)):Zvb l p=some (l.any q):=by
 unfold Zvb
 rw [Zbc l p q hl hp,Option.bind_some,Z56,Z86]
theorem Zdc (l:List Diner) (p:Diner→Option Bool) (q:Diner→Bool) (hl:l.length≤4000000000000000000) (hp:∀x∈l,p x=some (q x)):Znb l p=some (plc (l.findIdx? q)):=by
 unfold Znb
 refine Z76 l _ q hl (fun k x hx=>?_) ?_
 ·simp only [Zmb,Z06 hx,Zu5,Zy5 hx,Option.bind_some,hp x (List.mem_iff_getElem?.2 ⟨k,hx⟩),Z36 hx hl]
  cases q x<;>rfl
 ·simp only [Zmb,Z16,Zv5,Zlb,Option.map_some]
theorem Zec (l:List Diner) (p:Diner→Option Bool) (q:Diner→Bool) (hl:l.length≤4000000000000000000) (hp:∀x∈l,p x=some (q x)):Zpb l p=some (l.any q):=by
 unfold Zpb
 rw [Zdc l p q hl hp,Option.bind_some,Z56,Z86]
def Zfc:Scene:=⟨[],[]⟩
def Zgc (n:Nat) (m:Mail):Bool:=!(decide (min m.From m.To<0)||(decide ((n:Int)≤max m.From m.To)||decide (m.From=m.To)))
def okS (s:Scene):Bool:=(Zd8 s.Diners).2&&(s.Diners.all okD&&s.Mail.all (Zgc s.Diners.length))
theorem s_tCheck1 (m:Mail) (s:Scene):Zhb m s=some (!Zgc s.Diners.length m):=by
 simp only [Zhb,Zgb,Zgc,Z05,Bool.not_not]
 cases decide (min m.From m.To<0)<;>cases decide ((s.Diners.length:Int)≤max m.From m.To)<;>rfl
theorem s_tCheck (s:Scene) (hD:Zv7 s.Diners) (hM:s.Mail.length≤1000000):Zyb s=some (if okS s then 0 else 142):=by
 simp only [Zyb,s_Graph _ hD,Option.bind_some,Zxb]
 rw [show okS s=((Zd8 s.Diners).2&&(s.Diners.all okD&&s.Mail.all (Zgc s.Diners.length))) from rfl]
 cases h1:(Zd8 s.Diners).2 with
 | false=>simp
 | true=>
   rw [Zec s.Diners _ (fun d=>!okD d) (by have:=hD.1;omega) (fun d _=>by
    simp only [Zjb,Zoa,Option.bind_some]
    cases okD d<;>rfl)]
   rw [Zcc s.Mail _ (fun m=>!Zgc s.Diners.length m) (by omega) (fun m _=>s_tCheck1 m s)]
   have e1:s.Diners.any (fun d=>!okD d)=!s.Diners.all okD:=Ze7 _ _ _ fun _=>rfl
   have e2:s.Mail.any (fun m=>!Zgc s.Diners.length m)=!s.Mail.all (Zgc s.Diners.length):=Ze7 _ _ _ fun _=>rfl
   rw [e1,e2]
   cases s.Diners.all okD<;>cases s.Mail.all (Zgc s.Diners.length)<;>rfl
def Zhc (s:Scene) (a:Int):Bool:=decide (0≤a)&&decide (a<s.Diners.length)
theorem s_there (s:Scene) (a:Int):Zeb s a=some (Zhc s a):=by
 simp only [Zeb,Zdb,Zhc,Z05]
 cases decide (0≤a)<;>rfl
theorem s_Grow (n:Nat) (hn:n≤3000000):Z2c n=some []:=by
 have e0:wr (0-0)=0:=Zx5 (by omega) (by omega)
 have e1:wr ((n:Int)-0)=n:=by rw [Zx5 (by omega) (by omega)];omega
 simp only [Z2c,Z1c,Z0c,e0,e1]
 rw [decide_eq_false (by omega),Zv5]
 by_cases h:0<n
 ·rw [decide_eq_true (by omega),Zu5]
  unfold apz_
  rw [if_pos ⟨by omega,by omega,by omega⟩,Option.bind_some]
  unfold Zb4
  rw [if_pos ⟨by omega,by omega,by omega⟩]
  simp
 ·rw [decide_eq_false (by omega),Zv5]
theorem s_Concat (a b:List Mail) (ha:a.length≤1000000) (hb:b.length≤1000000):Z9c [a,b]=some (a++b):=by
 have g0:at_ [a,b] 0=some a:=rfl
 have g1:at_ [a,b] (wr (0+1))=some b:=by rw [Zx5 (by omega) (by omega)];rfl
 have l0:ln (Zz4 5 Mail.row) [a,b]=2:=by rw [Z05];rfl
 have w1:wr (0+1)=1:=Zx5 (by omega) (by omega)
 have w2:wr (1+1)=2:=Zx5 (by omega) (by omega)
 have s1:wr (0+ln Mail.row a)=(a.length:Int):=by rw [Z05,Zx5 (by omega) (by omega)];omega
 have s2:wr ((a.length:Int)+ln Mail.row b)=((a.length+b.length:Nat):Int):=by rw [Z05,Zx5 (by omega) (by omega)];omega
 unfold Z9c
 rw [Zf4]
 dsimp only [Z8c]
 rw [l0,show decide ((0:Int)<2)=true from rfl,Zu5,g0,Option.bind_some,s1,decide_eq_false (by omega),Zv5]
 dsimp only [Z7c]
 rw [s1,w1,Zf4]
 dsimp only [Z8c]
 rw [l0,show decide ((1:Int)<2)=true from rfl,Zu5,←w1,g1,Option.bind_some,s2,decide_eq_false (by omega),Zv5]
 dsimp only [Z7c]
 rw [s2,w1,w2,Zf4]
 dsimp only [Z8c]
 rw [l0,show decide ((2:Int)<2)=false from rfl,Zv5]
 dsimp only [Z6c]
 rw [s_Grow _ (by omega),Option.bind_some]
 have k:loop (Z5c [a,b]) (0,[])=some (a++b):=by
  rw [Zf4]
  dsimp only [Z5c]
  rw [l0,show decide ((0:Int)<2)=true from rfl,Zu5,g0,Option.bind_some,Zz5 _ _ (by omega) (by simp;omega),Option.bind_some,List.nil_append,w1]
  dsimp only
  rw [Zf4]
  dsimp only [Z5c]
  rw [l0,show decide ((1:Int)<2)=true from rfl,Zu5,←w1,g1,Option.bind_some,Zz5 _ _ (by omega) (by omega),Option.bind_some,w1,w2]
  dsimp only
  rw [Zf4]
  dsimp only [Z5c]
  rw [l0,show decide ((2:Int)<2)=false from rfl,Zv5]
  rfl
 rw [k];rfl
def actS (s:Scene) (a:Int) (d:Diner):Scene:=⟨s.Diners.map fun x=>if x.ID=a then Zxa d else x,s.Mail++Zya d⟩
def actP (s:Scene) (a:Int) (r:Diner×Int):Scene×Int:=if r.2=0 then (if okD r.1 then (actS s a r.1,0) else (Zfc,130)) else (Zfc,r.2)
theorem okD_fireD {d:Diner} (h:okD d=true):(Zxa d).Sides.length≤64:=by
 have:=Zqa h
 unfold Zxa
 split<;>simp<;>omega
def Zic (s:Scene) (a:Int) (q:Diner→Diner×Int):Scene×Int:=
 if okS s then (if Zhc s a then (match at_ s.Diners a with | some d=>actP s a (q d) | none=>(Zfc,140)) else (Zfc,140)) else (Zfc,142)
theorem Zjc {s:Scene} {a:Int} (h:Zhc s a=true):∃d,at_ s.Diners a=some d∧s.Diners[a.toNat]?=some d:=by
 simp only [Zhc,Bool.and_eq_true,decide_eq_true_eq] at h
 exact at_lt h.1 h.2
def Zkc (s:Scene) (a b:Int):Option Nat:=s.Mail.findIdx? fun m=>decide (m.From=a)&&decide (m.To=b)
def Zlc (s:Scene) (a b:Int):Scene×Int:=
 if okS s then (if Zhc s a&&Zhc s b then (match Zkc s a b with
  | none=>(Zfc,141)
  | some i=>match s.Mail[i]?,at_ s.Diners b with
    | some m,some d=>actP ⟨s.Diners,s.Mail.take i++s.Mail.drop (i+1)⟩ b (getD' d a m.Msg)
    | _,_=>(Zfc,140)) else (Zfc,140)) else (Zfc,142)
def Zmc (s:Scene) (k a b:Int):Scene×Int:=if k=0 then Zic s a (fun d=>Zsa d 0 1) else if k=1 then Zic s a (fun d=>Zsa d 2 0) else Zlc s a b
theorem ids {l:List Diner} (h:(Zd8 l).2=true) {k:Nat} {d:Diner} (hd:l[k]?=some d):d.ID=k:=by
 unfold Zd8 at h
 split at h
 ·rename_i h1
  simp only [Bool.and_eq_true] at h1
  have:=((Zj8 l l 0).1 h1.1 k d hd).1
  simpa using this
 ·simp at h
set_option maxRecDepth 100000
set_option maxHeartbeats 4000000
@[go_sem] def e106_L0:EC:=.seq (.reg [(Qa 9 (.bin .lss (.t 8) (.t 7)))]) (.seq (.ite (.t 9) (.skip) (.exit 0)) (.seq (.blk 1 (.seq (.reg [(Qm 10 8),(Qm 5 10)]) (.seq (.reg [(Qm 11 1),(Qm 12 0),(Qm 13 5),(Qk 14 1 12 13),(Ql 15 14),(Qa 16 (.bin .eql (.t 11) (.t 15)))]) (.ite (.t 16) (.seq (.reg [(Qm 17 5),(Qm 4 17)]) (.ret)) (.skip))))) (.reg [(Qv 18 8 1),(Qm 8 18)])))
@[go_sem] def e106:EC:=.seq (.reg [(Qi 4 0)]) (.seq (.seq (.reg [(Qm 6 0),(Qa 7 (.len (.t 6))),(Qi 8 0)]) (.blk 0 (.loop e106_L0))) (.seq (.reg [(Qa 4 (.mv (.c (.iv (-1)))))]) (.ret)))
theorem ok106:FnOK Tryz.prog 106 Tryz.f106 e106 [.t 4] 2 17:=⟨by kernel_rfl,⟨_,rfl,by kernel_rfl⟩,by kernel_rfl,by kernel_rfl⟩
noncomputable def Znc:Unit→Option Int
| ()=>
 some (-1)
noncomputable def Zoc (x1:(List Int)) (x2:Int):Int→Option (Int ⊕ Int)
| x5=>
 ifb (decide (x5<(ln Zx4 x1))) (
 (at_ x1 x5).bind fun x6=>
 ifb (decide (x2=x6)) (
 Option.map Sum.inr (some x5)) (
 some (.inl (wr (x5+1))))) (
 Option.map Sum.inr (Znc ()))
noncomputable def Zpc (x1:(List Int)) (x2:Int):Option Int:=
 loop (Zoc x1 x2) 0
theorem Zqc (x1:(List Int)) (x2:Int) (r:Int) (h:Zpc x1 x2=some r):Zu2 Tryz.prog 106 [.sl 1 (List.map Zx4 x1),.iv x2] (.iv r):=by
 refine Zy2 ok106 rfl rfl fun w0 H0=>?_
 rw [Zpc] at h
 refine Zo2 11 ?_;dsimp only [go_sem];refine An ?_;refine Zh4 (fun (_:Unit)=>(⟨(an 19 []),[],[]⟩:St)) Znc r ?_ fun J1=>?_
 ·rintro ⟨⟩ h;rw [Znc] at h;(try dsimp only);refine Zo2 4 ?_;dsimp only [go_sem];refine An ?_;exact Zr4 (res:=fun (r:Int)=>.iv r) ok106 h
 ·refine Zo2 1 ?_;dsimp only [go_sem];refine An ?_;refine Zi4 h (fun (x5:Int)=>(⟨(.sl 1 (List.map Zx4 x1) :: .iv x2::an 5 (.iv (ln Zx4 x1) :: .iv x5::an 10 [])),[],[]⟩:St)) (by simp [go_sem]) (by intro x5;first | rfl | simp [go_sem]) ?_;rintro n1 x5 y1 h hin1 hout1;rw [Zoc] at h;(try dsimp only);refine Zo2 5 ?_;dsimp only [go_sem];refine An ?_;refine Zj4 h rfl (fun _ h=>?_) fun _ h=>?_
  ·refine Zo2 13 ?_;dsimp only [go_sem];refine An ?_;obtain ⟨x6,ex6,h⟩:=Bs h;refine Zm4 Zx4 ex6 trivial rfl rfl rfl ?_;refine Zo2 3 ?_;dsimp only [go_sem];refine An ?_;refine Zj4 h rfl (fun _ h=>?_) fun _ h=>?_
   ·refine Zo2 5 ?_;dsimp only [go_sem];refine An ?_;exact Zr4 (res:=fun (r:Int)=>.iv r) ok106 (Zg4 h hout1)
   ·refine Zo2 6 ?_;dsimp only [go_sem];refine An ?_;exact Zs4 h hin1
  ·refine Zo2 1 ?_;dsimp only [go_sem];refine An ?_;exact Zt4 J1 (s:=()) (Zg4 h hout1)
set_option maxRecDepth 100000
set_option maxHeartbeats 4000000
@[go_sem] def e85:EC:=.seq (.reg [(Qa 4 (.mv (.c .ff)))]) (.seq (.reg [(Qm 5 0),(Qm 6 1),(Qa 7 (.call 106 [(.t 5),(.t 6)])),(Qa 8 (.bin .geq (.t 7) (.c (.iv 0)))),(Qm 4 8)]) (.ret))
theorem ok85:FnOK Tryz.prog 85 Tryz.f85 e85 [.t 4] 2 7:=⟨by kernel_rfl,⟨_,rfl,by kernel_rfl⟩,by kernel_rfl,by kernel_rfl⟩
noncomputable def Zrc (x1:(List Int)) (x2:Int):Option Bool:=
 (Zpc x1 x2).bind fun x3=>
 some (decide (0≤x3))
theorem Zsc (x1:(List Int)) (x2:Int) (r:Bool) (h:Zrc x1 x2=some r):Zu2 Tryz.prog 85 [.sl 1 (List.map Zx4 x1),.iv x2] (.bv r):=by
 refine Zy2 ok85 rfl rfl fun w0 H0=>?_
 rw [Zrc] at h
 refine Zo2 8 ?_;dsimp only [go_sem];refine An ?_;obtain ⟨x3,ex3,h⟩:=Bs h;refine Z33 trivial (Zqc x1 x2 _ ex3) (h:=?_);refine Zo2 3 ?_;dsimp only [go_sem];refine An ?_;exact Zr4 (res:=fun (r:Bool)=>.bv r) ok85 h
set_option maxRecDepth 100000
set_option maxHeartbeats 4000000
@[go_sem] def e108:EC:=.seq (.reg [(Qa 2 (.mv (.c .ff)))]) (.seq (.reg [(Qm 3 0),(Qa 4 (.bin .lss (.t 3) (.c (.iv 0)))),(Qm 2 4)]) (.ret))
theorem ok108:FnOK Tryz.prog 108 Tryz.f108 e108 [.t 2] 1 4:=⟨by kernel_rfl,⟨_,rfl,by kernel_rfl⟩,by kernel_rfl,by kernel_rfl⟩
noncomputable def Ztc (x1:Int):Option Bool:=
 some (decide (x1<0))
theorem Zuc (x1:Int) (r:Bool) (h:Ztc x1=some r):Zu2 Tryz.prog 108 [.iv x1] (.bv r):=by
 refine Zy2 ok108 rfl rfl fun w0 H0=>?_
 rw [Ztc] at h
 refine Zo2 10 ?_;dsimp only [go_sem];refine An ?_;exact Zr4 (res:=fun (r:Bool)=>.bv r) ok108 h
set_option maxRecDepth 100000
set_option maxHeartbeats 4000000
@[go_sem] def e110:EC:=.seq (.reg [(Qa 4 (.mv (.c .ff)))]) (.seq (.reg [(Ql 5 1),(Qm 6 0),(Qk 7 1 5 6),(Ql 8 7),(Qa 9 (.bin .eql (.t 8) (.c (.iv 0)))),(Qm 10 9),(Qg 11 10 true (.mv (.t 0))),(Qn 12 10 true 2),(Qg 13 10 true (.bin .gtr (.t 11) (.t 12))),(Qp 14 10 13),(Qm 4 14)]) (.ret))
theorem ok110:FnOK Tryz.prog 110 Tryz.f110 e110 [.t 4] 3 12:=⟨by kernel_rfl,⟨_,rfl,by kernel_rfl⟩,by kernel_rfl,by kernel_rfl⟩
noncomputable def Zvc:Bool→Option Bool
| x5=>
 some x5
noncomputable def Zwc (x1:Int) (x2:(List Int)) (x3:Int):Option Bool:=
 (at_ x2 x1).bind fun x4=>
 ifb (decide (x4=0)) (
 Zvc (decide (x3<x1))) (
 Zvc false)
theorem Zxc (x1:Int) (x2:(List Int)) (x3:Int) (r:Bool) (h:Zwc x1 x2 x3=some r):Zu2 Tryz.prog 110 [.iv x1,.elt ((Zz4 1 Zx4) x2) 0,.elt (Zx4 x3) 0] (.bv r):=by
 refine Zy2 ok110 rfl rfl fun w0 H0=>?_
 rw [Zwc] at h
 refine Zo2 8 ?_;dsimp only [go_sem];refine An ?_;obtain ⟨x4,ex4,h⟩:=Bs h;refine Zm4 Zx4 ex4 trivial rfl rfl rfl ?_;refine Zo2 3 ?_;dsimp only [go_sem];refine An ?_;refine Zh4 (fun (x5:Bool)=>(⟨(an 4 (.bv x5::an 10 [])),[],[]⟩:St)) Zvc r ?_ fun J1=>?_
 ·intro x5 h;rw [Zvc] at h;(try dsimp only);exact Zr4 (res:=fun (r:Bool)=>.bv r) ok110 h
 ·refine Zq4 10 h rfl (fun _ h=>?_) fun _ h=>?_
  ·dsimp only [go_sem];refine Zo2 6 ?_;dsimp only [go_sem];refine An ?_;exact Zt4 J1 (s:=decide (x3<x1)) h
  ·dsimp only [go_sem];refine Zo2 6 ?_;dsimp only [go_sem];refine An ?_;exact Zt4 J1 (s:=false) h
set_option maxRecDepth 100000
set_option maxHeartbeats 4000000
@[go_sem] def e111:EC:=.seq (.reg [(Qa 5 (.mv (.c .ff)))]) (.seq (.drw [(Ql 6 1),(Qm 7 0),(Qk 8 1 6 7),(Ql 9 8),(Ql 10 2),(Ql 11 3),(Qk 12 1 10 11),(Ql 13 12),(Qa 14 (.bin .eql (.t 9) (.t 13))),(Qm 5 14)] [[],[],[0,1],[2],[],[],[4,5],[6],[3,7],[8,0,1,2,3,4,5,6,7,8]] [[2],[2],[0,1,3],[2,8],[6],[6],[4,5,7],[6,8],[3,7,9],[8]]) (.ret))
theorem ok111:FnOK Tryz.prog 111 Tryz.f111 e111 [.t 5] 4 11:=⟨by kernel_rfl,⟨_,rfl,by kernel_rfl⟩,by kernel_rfl,by kernel_rfl⟩
noncomputable def Zyc (x1:Int) (x2:(List Int)) (x3:(List Int)) (x4:Int):Option Bool:=
 (at_ x2 x1).bind fun x5=>
 (at_ x3 x4).bind fun x6=>
 some (decide (x5=x6))
theorem Zzc (x1:Int) (x2:(List Int)) (x3:(List Int)) (x4:Int) (r:Bool) (h:Zyc x1 x2 x3 x4=some r):Zu2 Tryz.prog 111 [.iv x1,.elt ((Zz4 1 Zx4) x2) 0,.elt ((Zz4 1 Zx4) x3) 0,.elt (Zx4 x4) 0] (.bv r):=by
 refine Zy2 ok111 rfl rfl fun w0 H0=>?_
 rw [Zyc] at h
 refine Zo2 5 ?_;dsimp only [go_sem];refine An ?_;refine Zj3 (by kernel_rfl) fun all hall hs hnap haf=>?_;dsimp only [go_sem];refine Z75 hall hs haf hnap 4 6 ?_;dsimp only [go_sem];refine An ?_;obtain ⟨x5,ex5,h⟩:=Bs h;refine Zn4 hall hs haf hnap 2 Zx4 ex5 rfl rfl trivial rfl rfl rfl rfl ?_;refine Z75 hall hs haf hnap 1 4 ?_;dsimp only [go_sem];refine An ?_;obtain ⟨x6,ex6,h⟩:=Bs h;refine Zn4 hall hs haf hnap 6 Zx4 ex6 rfl rfl trivial rfl rfl rfl rfl ?_;refine Z75 hall hs haf hnap 3 0 ?_;dsimp only [go_sem];refine An ?_;refine Zt3 rfl ?_ _
 exact Zr4 (res:=fun (r:Bool)=>.bv r) ok111 h
set_option maxRecDepth 100000
set_option maxHeartbeats 4000000
@[go_sem] def e86_L1:EC:=.seq (.seq (.reg [(Qm 47 9),(Qa 48 (.mkf 111 [(.t 3),(.t 7),(.t 8)])),(Qa 49 (.call 107 [(.t 47),(.t 48)]))]) (.ite (.t 49) (.skip) (.exit 2))) (.blk 3 (.reg [(Ql 50 7),(Ql 51 8),(Qk 52 1 50 51),(Ql 53 52),(Qv 54 53 1),(Qk 55 1 50 51),(Qs 1 55 54)]))
@[go_sem] def e86_L0:EC:=.seq (.reg [(Qa 29 (.bin .lss (.t 28) (.t 27)))]) (.seq (.ite (.t 29) (.skip) (.exit 0)) (.seq (.blk 1 (.seq (.reg [(Qm 30 28),(Qa 8 (.alloc 3 [.iv 0])),(Qs 1 8 30)]) (.seq (.reg [(Qe 31 2 2),(Ql 32 8),(Qa 33 (.call 88 [(.t 31),(.t 32)])),(Qm 9 33)]) (.seq (.seq (.reg [(Ql 34 3),(Ql 35 8),(Qk 36 1 34 35),(Ql 37 36),(Qa 38 (.bin .neq (.t 37) (.c (.iv 0)))),(Qm 39 38),(Qg 40 39 false (.mv (.t 9))),(Qg 41 39 false (.mkf 110 [(.t 3),(.t 8)])),(Qg 42 39 false (.call 107 [(.t 40),(.t 41)])),(Qq 43 39 42)]) (.ite (.t 43) (.exit 1) (.skip))) (.seq (.reg [(Ql 44 7),(Ql 45 8),(Qk 46 1 44 45),(Qb (.store 1 (.t 46) (.c (.iv 1))))]) (.blk 2 (.loop e86_L1))))))) (.reg [(Qv 56 28 1),(Qm 28 56)])))
@[go_sem] def e86:EC:=.seq (.reg [(Qx 2 48 2 0),(Qx 3 43 1 1),(Qa 4 (.mv (.c .nl))),(Qi 5 0)]) (.seq (.seq (.reg [(Qe 10 2 2),(Qa 11 (.call 80 [(.t 10)])),(Qm 6 11)]) (.seq (.reg [(Qm 12 6),(Qa 13 (.bin .neq (.t 12) (.c (.iv 0))))]) (.ite (.t 13) (.seq (.reg [(Qm 14 6),(Qa 4 (.mv (.c .nl))),(Qm 5 14)]) (.ret)) (.skip)))) (.seq (.seq (.reg [(Ql 15 3),(Qa 16 (.len (.t 15))),(Qf 17 0 2),(Ql 18 17),(Qa 19 (.bin .neq (.t 16) (.t 18))),(Qm 20 19),(Qn 21 20 false 3),(Qg 22 20 false (.call 107 [(.t 21),(.c (.clo 108 []))])),(Qq 23 20 22)]) (.ite (.t 23) (.seq (.reg [(Qa 4 (.mv (.c .nl))),(Qi 5 110)]) (.ret)) (.skip))) (.seq (.reg [(Ql 24 3),(Qa 25 (.call 109 [(.t 24)])),(Qa 7 (.alloc 43 [.nl])),(Qs 1 7 25)]) (.seq (.seq (.reg [(Qf 26 0 2),(Ql 27 26),(Qi 28 0)]) (.blk 0 (.loop e86_L0))) (.seq (.reg [(Ql 57 7),(Qm 4 57),(Qi 5 0)]) (.ret))))))
theorem ok86:FnOK Tryz.prog 86 Tryz.f86 e86 [.t 4,.t 5] 2 56:=⟨by kernel_rfl,⟨_,rfl,by kernel_rfl⟩,by kernel_rfl,by kernel_rfl⟩
noncomputable def Z0d:(List Int)→Option ((List Int)×Int)
| x54=>
 some (x54,0)
noncomputable def Z1d (x26:Int):(List Int)→Option ((Int×(List Int)) ⊕ ((List Int)×Int))
| x46=>
 some (.inl (wr (x26+1),x46))
noncomputable def Z2d (x2:(List Int)) (x26:Int) (x28:(List Int)):(List Int)→Option ((List Int) ⊕ ((Int×(List Int)) ⊕ ((List Int)×Int)))
| x35=>
 (Z47 x28 ((fun z=>Zyc z x2 x35 x26))).bind fun x36=>
 ifb x36 (
 (at_ x35 x26).bind fun x37=>
 some (.inl (x35.set (x26).toNat (wr (x37+1))))) (
 Option.map Sum.inr ((Z1d x26) x35))
noncomputable def Z3d (x2:(List Int)) (x26:Int) (x27:(List Int)) (x28:(List Int)):Bool→Option ((Int×(List Int)) ⊕ ((List Int)×Int))
| x31=>
 ifb x31 (
 (Z1d x26) x27) (
 (at_ x27 x26).bind fun _=>
 loop (Z2d x2 x26 x28) (x27.set (x26).toNat 1))
noncomputable def Z4d (x1:Graph) (x2:(List Int)):(Int×(List Int))→Option ((Int×(List Int)) ⊕ ((List Int)×Int))
| (x26,x27)=>
 ifb (decide (x26<x1.N)) (
 (Zf9 x1 x26).bind fun x28=>
 (at_ x2 x26).bind fun x29=>
 ifb (!decide (x29=0)) (
 (Z3d x2 x26 x27 x28) true) (
 (Z47 x28 ((fun z=>Zwc z x2 x26))).bind fun x30=>
 (Z3d x2 x26 x27 x28) x30)) (
 Option.map Sum.inr (Z0d x27))
noncomputable def Z5d (x1:Graph) (x2:(List Int)):Bool→Option ((List Int)×Int)
| x5=>
 ifb x5 (
 some (([]:(List Int)),110)) (
 (Z89 x2).bind fun x6=>
 loop (Z4d x1 x2) (0,x6))
noncomputable def Z6d (x1:Graph) (x2:(List Int)):Option ((List Int)×Int):=
 (Zy6 x1).bind fun x3=>
 ifb (!decide (x3=0)) (
 some (([]:(List Int)),x3)) (
 ifb (!decide ((ln Zx4 x2)=x1.N)) (
 (Z5d x1 x2) true) (
 (Z47 x2 ((fun z=>Ztc z))).bind fun x4=>
 (Z5d x1 x2) x4))
theorem Z7d (x1:Graph) (x2:(List Int)) (r:((List Int)×Int)) (h:Z6d x1 x2=some r):Zu2 Tryz.prog 86 [.agg (Graph.row x1),.sl 1 (List.map Zx4 x2)] (.tup [.sl 1 (List.map Zx4 r.1),.iv r.2]):=by
 refine Zy2 ok86 rfl rfl fun w0 H0=>?_
 rw [Z6d] at h
 refine Zo2 11 ?_;dsimp only [go_sem];refine An ?_;obtain ⟨x3,ex3,h⟩:=Bs h;refine Z33 trivial (Zz6 x1 _ ex3) (h:=?_);refine Zo2 7 ?_;dsimp only [go_sem];refine An ?_;refine Zj4 h rfl (fun _ h=>?_) fun _ h=>?_
 ·refine Zo2 6 ?_;dsimp only [go_sem];refine An ?_;exact Zr4 (res:=fun (r:((List Int)×Int))=>.tup [.sl 1 (List.map Zx4 r.1),.iv r.2]) ok86 h
 ·refine Zo2 10 ?_;dsimp only [go_sem];refine An ?_;refine Zh4 (fun (x5:Bool)=>(⟨(.any :: .any :: .ptr 0 0 :: .ptr 1 0::an 19 (.bv x5::an 34 [])),[some ⟨48,[.iv x1.N,.sl 2 (List.map Edge.row x1.Edges)]⟩,some ⟨43,[.sl 1 (List.map Zx4 x2)]⟩],[]⟩:St)) (Z5d x1 x2) r ?_ fun J1=>?_
  ·intro x5 h;rw [Z5d] at h;(try dsimp only);refine Zj4 h rfl (fun _ h=>?_) fun _ h=>?_
   ·refine Zo2 5 ?_;dsimp only [go_sem];refine An ?_;exact Zr4 (res:=fun (r:((List Int)×Int))=>.tup [.sl 1 (List.map Zx4 r.1),.iv r.2]) ok86 h
   ·refine Zo2 4 ?_;dsimp only [go_sem];refine An ?_;obtain ⟨x6,ex6,h⟩:=Bs h;refine Z65 trivial (Z99 x2 _ ex6) (h:=?_);refine Zo2 10 ?_;dsimp only [go_sem];refine An ?_;refine Zh4 (fun (x54:(List Int))=>(⟨(an 7 (.ptr 2 0::an 50 [])),[none,none,some ⟨43,[.osl 0]⟩],[some ⟨3,1,List.map Zx4 x54⟩]⟩:St)) Z0d r ?_ fun J2=>?_
    ·intro x54 h;rw [Z0d] at h;(try dsimp only);refine Zo2 6 ?_;dsimp only [go_sem];refine An ?_;refine Zb3 0 rfl ?_;dsimp only [go_sem];exact Zr4 (res:=fun (r:((List Int)×Int))=>.tup [.sl 1 (List.map Zx4 r.1),.iv r.2]) ok86 h
    ·refine Zo2 1 ?_;dsimp only [go_sem];refine An ?_;refine Zi4 h (fun ((x26,x27):(Int×(List Int)))=>(⟨(.any :: .any :: .ptr 0 0 :: .ptr 1 0::an 3 (.ptr 2 0::an 19 (.iv x1.N :: .iv x26::an 29 []))),[some ⟨48,[.iv x1.N,.sl 2 (List.map Edge.row x1.Edges)]⟩,some ⟨43,[.sl 1 (List.map Zx4 x2)]⟩,some ⟨43,[.osl 0]⟩],[some ⟨3,1,List.map Zx4 x27⟩]⟩:St)) (by simp [go_sem]) (by rintro ⟨x26,x27⟩;first | rfl | simp [go_sem]) ?_;rintro n1 ⟨x26,x27⟩ y1 h hin1 hout1;rw [Z4d] at h;(try dsimp only);refine Zo2 5 ?_;dsimp only [go_sem];refine An ?_
     refine Zj4 h rfl (fun _ h=>?_) fun _ h=>?_
     ·refine Zo2 2 ?_;dsimp only [go_sem];refine An ?_;refine Zh4 (fun (x46:(List Int))=>(⟨(.any :: .any :: .ptr 0 0 :: .ptr 1 0::an 3 (.ptr 2 0::an 19 (.iv x1.N :: .iv x26::an 29 []))),[some ⟨48,[.iv x1.N,.sl 2 (List.map Edge.row x1.Edges)]⟩,some ⟨43,[.sl 1 (List.map Zx4 x2)]⟩,some ⟨43,[.osl 0]⟩],[some ⟨3,1,List.map Zx4 x46⟩]⟩:St)) (Z1d x26) y1 ?_ fun J3=>?_
      ·intro x46 h;rw [Z1d] at h;(try dsimp only);refine Zo2 4 ?_;dsimp only [go_sem];refine An ?_;exact Zs4 h hin1
      ·refine Zo2 11 ?_;dsimp only [go_sem];refine An ?_;obtain ⟨x28,ex28,h⟩:=Bs h;refine Z33 trivial (Zg9 x1 x26 _ ex28) (h:=?_);refine Zo2 7 ?_;dsimp only [go_sem];refine An ?_;obtain ⟨x29,ex29,h⟩:=Bs h;refine Zm4 Zx4 ex29 trivial rfl rfl rfl ?_;refine Zo2 3 ?_;dsimp only [go_sem];refine An ?_
       refine Zh4 (fun (x31:Bool)=>(⟨(.any :: .any :: .ptr 0 0 :: .ptr 1 0::an 3 (.ptr 2 0 :: .ptr 3 0 :: .sl 1 (List.map Zx4 x28)::an 17 (.iv x1.N :: .iv x26::an 14 (.bv x31::an 14 [])))),[some ⟨48,[.iv x1.N,.sl 2 (List.map Edge.row x1.Edges)]⟩,some ⟨43,[.sl 1 (List.map Zx4 x2)]⟩,some ⟨43,[.osl 0]⟩,some ⟨3,[.iv x26]⟩],[some ⟨3,1,List.map Zx4 x27⟩]⟩:St)) (Z3d x2 x26 x27 x28) y1 ?_ fun J4=>?_
       ·intro x31 h;rw [Z3d] at h;(try dsimp only);refine Zj4 h rfl (fun _ h=>?_) fun _ h=>?_
        ·refine Zo2 1 ?_;dsimp only [go_sem];refine An ?_;exact Zt4 J3 (s:=x27) h
        ·refine Zo2 5 ?_;dsimp only [go_sem];refine An ?_;obtain ⟨x32,ex32,h⟩:=Bs h;refine Za5 Zx4 ex32 trivial rfl rfl rfl ?_;refine Zf5 [.iv 1] Zx4 (y':=1) ex32 trivial rfl rfl rfl (by first | exact Z94 _ | simp [go_sem]) rfl rfl rfl rfl ?_;refine Zo2 2 ?_;dsimp only [go_sem];refine An ?_
         refine Zi4 h (fun (x35:(List Int))=>(⟨(.any :: .any :: .ptr 0 0 :: .ptr 1 0::an 3 (.ptr 2 0 :: .ptr 3 0 :: .sl 1 (List.map Zx4 x28)::an 17 (.iv x1.N :: .iv x26::an 29 []))),[some ⟨48,[.iv x1.N,.sl 2 (List.map Edge.row x1.Edges)]⟩,some ⟨43,[.sl 1 (List.map Zx4 x2)]⟩,some ⟨43,[.osl 0]⟩,some ⟨3,[.iv x26]⟩],[some ⟨3,1,List.map Zx4 x35⟩]⟩:St)) (by simp [go_sem]) (by intro x35;first | rfl | simp [go_sem]) ?_;rintro n2 x35 y2 h hin2 hout2;rw [Z2d] at h;(try dsimp only);refine Zo2 5 ?_;dsimp only [go_sem];refine An ?_
         obtain ⟨x36,ex36,h⟩:=Bs h;refine Zv4 trivial (((((Zu4.refl _).slice 0 rfl).block 1 rfl rfl).block 2 rfl rfl).block 3 rfl rfl) (Z57 x28 _ _ ((fun z=>Zyc z x2 x35 x26)) ⟨by kernel_rfl,rfl,fun z r hz=>Zzc z x2 x35 x26 r hz⟩ _ ex36) (h:=?_);refine Zo2 1 ?_;dsimp only [go_sem];refine An ?_;refine Zj4 h rfl (fun _ h=>?_) fun _ h=>?_
         ·refine Zo2 5 ?_;dsimp only [go_sem];refine An ?_;obtain ⟨x37,ex37,h⟩:=Bs h;refine Za5 Zx4 ex37 trivial rfl rfl rfl ?_;refine Zb5 Zx4 ex37 trivial rfl rfl rfl ?_;refine Zo2 1 ?_;dsimp only [go_sem];refine An ?_;refine Za5 Zx4 ex37 trivial rfl rfl rfl ?_;refine Zf5 [.iv (wr (x37+1))] Zx4 (y':=wr (x37+1)) ex37 trivial rfl rfl rfl (by first | exact Z94 _ | simp [go_sem]) rfl rfl rfl rfl ?_;refine Zo2 2 ?_;dsimp only [go_sem];refine An ?_;exact Zs4 h hin2
         ·refine Zo2 2 ?_;dsimp only [go_sem];refine An ?_;exact Zt4 J3 (s:=x35) (Zg4 h hout2)
       ·refine Zq4 39 h rfl (fun _ h=>?_) fun _ h=>?_
        ·dsimp only [go_sem];refine Zo2 5 ?_;dsimp only [go_sem];refine An ?_;exact Zt4 J4 (s:=true) h
        ·dsimp only [go_sem];refine Zo2 2 ?_;dsimp only [go_sem];refine An ?_;obtain ⟨x30,ex30,h⟩:=Bs h;refine Zv4 trivial (((Zu4.refl _).block 1 rfl rfl).block 3 rfl rfl) (Z57 x28 _ _ ((fun z=>Zwc z x2 x26)) ⟨by kernel_rfl,rfl,fun z r hz=>Zxc z x2 x26 r hz⟩ _ ex30) (h:=?_);refine Zo2 2 ?_;dsimp only [go_sem];refine An ?_;exact Zt4 J4 (s:=x30) h
     ·refine Zo2 1 ?_;dsimp only [go_sem];refine An ?_;exact Zt4 J2 (s:=x27) (Zg4 h hout1)
  ·refine Zq4 20 h rfl (fun _ h=>?_) fun _ h=>?_
   ·dsimp only [go_sem];refine Zo2 4 ?_;dsimp only [go_sem];refine An ?_;exact Zt4 J1 (s:=true) h
   ·dsimp only [go_sem];refine Zo2 1 ?_;dsimp only [go_sem];refine An ?_;obtain ⟨x4,ex4,h⟩:=Bs h;refine Z33 trivial (Z57 x2 _ _ ((fun z=>Ztc z)) ⟨by kernel_rfl,rfl,fun z r hz=>Zuc z r hz⟩ _ ex4) (h:=?_);refine Zo2 2 ?_;dsimp only [go_sem];refine An ?_;exact Zt4 J1 (s:=x4) h
end NX
end Go.Proofs.YtadebhbiglmodaaGreat
