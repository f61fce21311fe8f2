/-
  The function slices.IndexFunc[[]int,int]: its code compiled, a model, and that the code answers as the model. Written by a program of ours (lb.py). No statement of the seat is proved here.
-/
import Derived.KernelRfl
import Derived.Test.YtacfbmldajmjiaaGreatX1
namespace Go.Proofs.YtacfbmldajmjiaaGreat
namespace NX
open Go
set_option maxRecDepth 100000
set_option maxHeartbeats 4000000
@[go_sem] def e143_L0:EC:=.seq (.reg [(Qa 9 (.bin .lss (.t 8) (.t 7)))]) (.seq (.ite (.t 9) (.skip) (.exit 0)) (.seq (.blk 1 (.seq (.reg [(Qm 10 8),(Qm 5 10)]) (.seq (.reg [(Qm 11 1),(Qm 12 0),(Qm 13 5),(Qk 14 1 12 13),(Ql 15 14),(Qa 16 (.callv (.t 11) [(.t 15)]))]) (.ite (.t 16) (.seq (.reg [(Qm 17 5),(Qm 4 17)]) (.ret)) (.skip))))) (.reg [(Qv 18 8 1),(Qm 8 18)])))
@[go_sem] def e143:EC:=.seq (.reg [(Qi 4 0)]) (.seq (.seq (.reg [(Qm 6 0),(Qa 7 (.len (.t 6))),(Qi 8 0)]) (.blk 0 (.loop e143_L0))) (.seq (.reg [(Qa 4 (.mv (.c (.iv (-1)))))]) (.ret)))
theorem ok143:FnOK Tryz.prog 143 Tryz.f143 e143 [.t 4] 2 17:=⟨by kernel_rfl,⟨_,rfl,by kernel_rfl⟩,by kernel_rfl,by kernel_rfl⟩
noncomputable def Z17:Unit→Option Int
| ()=>
 some (-1)
noncomputable def Z27 (x1:(List Int)) (p1:(Int→Option Bool)):Int→Option (Int ⊕ Int)
| x5=>
 ifb (decide (x5<(ln Zw4 x1))) (
 (at_ x1 x5).bind fun x6=>
 (p1 x6).bind fun x7=>
 ifb x7 (
 Option.map Sum.inr (some x5)) (
 some (.inl (wr (x5+1))))) (
 Option.map Sum.inr (Z17 ()))
noncomputable def Z37 (x1:(List Int)) (p1:(Int→Option Bool)):Option Int:=
 loop (Z27 x1 p1) 0
theorem Z47 (x1:(List Int)) (g1:Nat) (caps1:List AV) (p1:(Int→Option Bool)) (hc1:CloOK Tryz.prog g1 caps1 (fun z=>[.iv z]) p1 (fun z=>.bv z)) (r:Int) (h:Z37 x1 p1=some r):Zs2 Tryz.prog 143 [.sl 1 (List.map Zw4 x1),.clo g1 caps1] (.iv r):=by
 refine Zw2 ok143 rfl rfl fun w0 H0=>?_
 rw [Z37] at h
 refine Zn2 11 ?_;dsimp only [go_sem];refine An ?_;refine Zg4 (fun (_:Unit)=>(⟨(an 19 []),[],[]⟩:St)) Z17 r ?_ fun J1=>?_
 ·rintro ⟨⟩ h;rw [Z17] at h;(try dsimp only);refine Zn2 4 ?_;dsimp only [go_sem];refine An ?_;exact Zq4 (res:=fun (r:Int)=>.iv r) ok143 h
 ·refine Zn2 1 ?_;dsimp only [go_sem];refine An ?_;refine Zh4 h (fun (x5:Int)=>(⟨(.sl 1 (List.map Zw4 x1) :: .clo g1 caps1::an 5 (.iv (ln Zw4 x1) :: .iv x5::an 10 [])),[],[]⟩:St)) (by simp [go_sem]) (by intro x5;first | rfl | simp [go_sem,Z94 _ hc1.pu]) ?_;rintro n1 x5 y1 h hin1 hout1;rw [Z27] at h;(try dsimp only);refine Zn2 5 ?_;dsimp only [go_sem];refine An ?_;refine Zi4 h rfl (fun _ h=>?_) fun _ h=>?_
  ·refine Zn2 13 ?_;dsimp only [go_sem];refine An ?_;obtain ⟨x6,ex6,h⟩:=Bs h;refine Zl4 Zw4 ex6 trivial rfl rfl rfl ?_;refine Zn2 1 ?_;dsimp only [go_sem];refine An ?_;obtain ⟨x7,ex7,h⟩:=Bs h;refine Zv4 trivial rfl hc1 (x:=x6) ex7 (by first | exact Za4 _ | simp [go_sem]) (by first | rfl | simp [go_sem,hc1.pu]) ?_;refine Zn2 1 ?_;dsimp only [go_sem];refine An ?_;refine Zi4 h rfl (fun _ h=>?_) fun _ h=>?_
   ·refine Zn2 5 ?_;dsimp only [go_sem];refine An ?_;exact Zq4 (res:=fun (r:Int)=>.iv r) ok143 (Zf4 h hout1)
   ·refine Zn2 6 ?_;dsimp only [go_sem];refine An ?_;exact Zr4 h hin1 (hok:=by first | rfl | simp [go_sem,Z94 _ hc1.pu])
  ·refine Zn2 1 ?_;dsimp only [go_sem];refine An ?_;exact Zs4 J1 (s:=()) (Zf4 h hout1) (hok:=by first | rfl | simp [go_sem,Z94 _ hc1.pu])
set_option maxRecDepth 100000
set_option maxHeartbeats 4000000
@[go_sem] def e103:EC:=.seq (.reg [(Qa 4 (.mv (.c .ff)))]) (.seq (.reg [(Qm 5 0),(Qm 6 1),(Qa 7 (.call 143 [(.t 5),(.t 6)])),(Qa 8 (.bin .geq (.t 7) (.c (.iv 0)))),(Qm 4 8)]) (.ret))
theorem ok103:FnOK Tryz.prog 103 Tryz.f103 e103 [.t 4] 2 7:=⟨by kernel_rfl,⟨_,rfl,by kernel_rfl⟩,by kernel_rfl,by kernel_rfl⟩
noncomputable def Z57 (x1:(List Int)) (p1:(Int→Option Bool)):Option Bool:=
 (Z37 x1 p1).bind fun x2=>
 some (decide (0≤x2))
theorem Z67 (x1:(List Int)) (g1:Nat) (caps1:List AV) (p1:(Int→Option Bool)) (hc1:CloOK Tryz.prog g1 caps1 (fun z=>[.iv z]) p1 (fun z=>.bv z)) (r:Bool) (h:Z57 x1 p1=some r):Zs2 Tryz.prog 103 [.sl 1 (List.map Zw4 x1),.clo g1 caps1] (.bv r):=by
 refine Zw2 ok103 rfl rfl fun w0 H0=>?_
 rw [Z57] at h
 refine Zn2 8 ?_;dsimp only [go_sem];refine An ?_;obtain ⟨x2,ex2,h⟩:=Bs h;refine Z13 trivial (Z47 x1 _ _ p1 hc1 _ ex2) (hp:=(by first | rfl | simp [go_sem,hc1.pu])) (h:=?_);refine Zn2 3 ?_;dsimp only [go_sem];refine An ?_;exact Zq4 (res:=fun (r:Bool)=>.bv r) ok103 h
theorem Z77 (l:List Edge) (p:Edge→Option Bool) (q:Edge→Bool) (hl:l.length≤4000000000000000000) (hp:∀x∈l,p x=some (q x)):Zc6 l p=some (plc (l.findIdx? q)):=by
 unfold Zc6
 refine Z86 l _ q hl (fun k x hx=>?_) ?_
 ·simp only [Zb6,Z16 hx,Zv5,Zz5 hx,Option.bind_some,hp x (List.mem_iff_getElem?.2 ⟨k,hx⟩),Z46 hx hl]
  cases q x<;>rfl
 ·simp only [Zb6,Z26,Zw5,Za6,Option.map_some]
theorem Z87 (l:List Int) (p:Int→Option Bool) (q:Int→Bool) (hl:l.length≤4000000000000000000) (hp:∀x∈l,p x=some (q x)):Z37 l p=some (plc (l.findIdx? q)):=by
 unfold Z37
 refine Z86 l _ q hl (fun k x hx=>?_) ?_
 ·simp only [Z27,Z16 hx,Zv5,Zz5 hx,Option.bind_some,hp x (List.mem_iff_getElem?.2 ⟨k,hx⟩),Z46 hx hl]
  cases q x<;>rfl
 ·simp only [Z27,Z26,Zw5,Z17,Option.map_some]
theorem Z97 (l:List Side) (p:Side→Option Bool) (q:Side→Bool) (hl:l.length≤4000000000000000000) (hp:∀x∈l,p x=some (q x)):Zi6 l p=some (plc (l.findIdx? q)):=by
 unfold Zi6
 refine Z86 l _ q hl (fun k x hx=>?_) ?_
 ·simp only [Zh6,Z16 hx,Zv5,Zz5 hx,Option.bind_some,hp x (List.mem_iff_getElem?.2 ⟨k,hx⟩),Z46 hx hl]
  cases q x<;>rfl
 ·simp only [Zh6,Z26,Zw5,Zg6,Option.map_some]
theorem Za7 (l:List Edge) (p:Edge→Option Bool) (q:Edge→Bool) (hl:l.length≤4000000000000000000) (hp:∀x∈l,p x=some (q x)):Ze6 l p=some (l.any q):=by
 unfold Ze6
 rw [Z77 l p q hl hp,Option.bind_some,Z66,Z96]
theorem Zb7 (l:List Int) (p:Int→Option Bool) (q:Int→Bool) (hl:l.length≤4000000000000000000) (hp:∀x∈l,p x=some (q x)):Z57 l p=some (l.any q):=by
 unfold Z57
 rw [Z87 l p q hl hp,Option.bind_some,Z66,Z96]
def cmpI (a b:Int):Int:=if a<b then -1 else if b<a then 1 else 0
theorem s_Compare (a b:Int):Zp6 a b=some (cmpI a b):=by
 simp only [Zp6,Zn6,Option.bind_some,cmpI]
 by_cases h1:a<b<;>by_cases h2:b<a<;>simp [h1,h2,ifb]
theorem s_Or (a b:Int):Zt6 [a,b]=some (if a≠0 then a else b):=by
 unfold Zt6
 rw [Ze4]
 simp only [Zs6,Zy4,List.length_cons,List.length_nil]
 by_cases ha:a=0
 ·subst ha
  simp [at_]
  rw [show wr 1=1 from Zy5 (by omega) (by omega),Ze4]
  simp only [Zs6,Zy4,List.length_cons,List.length_nil]
  by_cases hb:b=0
  ·subst hb
   simp [at_]
   rw [show wr 2=2 from Zy5 (by omega) (by omega),Ze4]
   simp [Zs6,Zy4,Zr6]
  ·simp [at_,hb]
 ·simp [at_,ha]
def Edge.lt (x y:Edge):Bool:=decide (x.A<y.A)||(decide (x.A=y.A)&&decide (x.B<y.B))
theorem s_rank (x y:Edge):∃n,Zu6 x y=some n∧decide (0≤n)=!x.lt y:=by
 refine ⟨if cmpI x.A y.A≠0 then cmpI x.A y.A else cmpI x.B y.B,by simp only [Zu6,s_Compare,Option.bind_some,s_Or],?_⟩
 unfold cmpI Edge.lt
 by_cases h1:x.A<y.A
 ·simp [h1]
 ·by_cases h2:y.A<x.A
  ·have:x.A≠y.A:=by omega
   simp [h1,h2,this]
  ·have:x.A=y.A:=by omega
   simp [this]
   by_cases h3:x.B<y.B
   ·simp [h3]
   ·by_cases h4:y.B<x.B<;>simp [h3,h4]<;>omega
def Edge.ok (n:Int) (e:Edge):Bool:=decide (0≤e.A)&&(decide (e.A<e.B)&&decide (e.B<n))
def risB:List Edge→Bool
 | x::y::l=>x.lt y&&risB (y::l)
 | _=>true
theorem risB_iff (l:List Edge):risB l=true↔∀k x y,l[k]?=some x→l[k+1]?=some y→x.lt y=true:=by
 induction l with
 | nil=>simp [risB]
 | cons a l ih=>
   cases l with
   | nil=>simp [risB]
   | cons b l=>
     simp only [risB,Bool.and_eq_true,ih]
     constructor
     ·rintro ⟨h1,h2⟩ k x y hx hy
      cases k with
      | zero=>simp at hx hy;subst hx;subst hy;exact h1
      | succ k=>exact h2 k x y (by simpa using hx) (by simpa using hy)
     ·intro h
      exact ⟨h 0 a b (by simp) (by simp),fun k x y hx hy=>h (k+1) x y (by simpa using hx) (by simpa using hy)⟩
def okG (g:Graph):Bool:=decide (0≤g.N)&&(decide (g.N≤64)&&(decide (g.Edges.length≤400)&&(g.Edges.all (Edge.ok g.N)&&risB g.Edges)))
theorem s_Check1 (e:Edge) (g:Graph):Zl6 e g=some (!e.ok g.N):=by
 simp only [Zl6,Zk6,Edge.ok]
 by_cases h1:e.A<0
 ·have:¬0≤e.A:=by omega
  simp [h1,this]
 ·have h1':0≤e.A:=by omega
  by_cases h2:e.B≤e.A
  ·have:¬e.A<e.B:=by omega
   simp [h1,h2,this]
  ·have h2':e.A<e.B:=by omega
   by_cases h3:g.N≤e.B
   ·have:¬e.B<g.N:=by omega
    simp [h1,h2,h3,this]
   ·have:e.B<g.N:=by omega
    simp [h1,h2,h3,this,h1',h2']
theorem Zc7 {β:Type} (l:List Edge) (body:Int→Option (Int ⊕ β)) (yes no:β) (q:Edge→Bool) (_:l.length≤4000000000000000000)
  (hb:∀(k:Nat) x,l[k]?=some x→body k=some (if q x||(match k with | 0=>false | k+1=>match l[k]? with | some y=>!y.lt x | none=>false) then .inr yes else .inl ((k+1:Nat):Int))) (he:body l.length=some (.inr no)):
  loop body 0=some (if l.all (fun x=>!q x)&&risB l then no else yes):=by
 have key:∀m k,m+k=l.length→(∀j x,j<k→l[j]?=some x→q x=false)→(∀j x y,j+1<k→l[j]?=some x→l[j+1]?=some y→x.lt y=true)→loop body (k:Int)=some (if l.all (fun x=>!q x)&&risB l then no else yes):=by
  intro m
  induction m with
  | zero=>
    intro k hk h1 h2
    have:k=l.length:=by omega
    subst this
    rw [Ze4,he]
    have a1:l.all (fun x=>!q x)=true:=by
     rw [List.all_eq_true]
     intro x hx
     obtain ⟨j,hj⟩:=List.mem_iff_getElem?.1 hx
     simp [h1 j x (List.getElem?_eq_some_iff.1 hj).1 hj]
    have a2:risB l=true:=by
     rw [risB_iff]
     intro j x y hx hy
     exact h2 j x y (List.getElem?_eq_some_iff.1 hy).1 hx hy
    simp [a1,a2]
  | succ m ih=>
    intro k hk h1 h2
    have hlt:k<l.length:=by omega
    have hx:l[k]?=some l[k]:=List.getElem?_eq_getElem hlt
    rw [Ze4,hb k _ hx]
    by_cases hq:q l[k]=true
    ·have:l.all (fun x=>!q x)=false:=by
      rw [List.all_eq_false]
      exact ⟨l[k],List.getElem_mem hlt,by simp [hq]⟩
     simp [hq,this]
    ·have hq:q l[k]=false:=by simpa using hq
     cases k with
     | zero=>
       simp only [hq,Bool.or_false,Bool.false_eq_true,if_false]
       refine ih 1 (by omega) (fun j x hj hjx=>?_) (fun j x y hj=>by omega)
       have:j=0:=by omega
       subst this
       rw [hx] at hjx;simp at hjx;rw [←hjx];exact hq
     | succ k=>
       have hy:l[k]?=some l[k]:=List.getElem?_eq_getElem (by omega)
       simp only [hq,hy,Bool.false_or]
       by_cases hr:l[k].lt l[k+1]=true
       ·simp only [hr,Bool.not_true,Bool.false_eq_true,if_false]
        refine ih (k+1+1) (by omega) (fun j x hj hjx=>?_) (fun j x y hj hjx hjy=>?_)
        ·rcases Nat.lt_succ_iff_lt_or_eq.1 hj with h | rfl
         ·exact h1 j x h hjx
         ·rw [hx] at hjx;simp at hjx;rw [←hjx];exact hq
        ·rcases Nat.lt_succ_iff_lt_or_eq.1 (Nat.succ_lt_succ_iff.1 hj) with h | rfl
         ·exact h2 j x y (by omega) hjx hjy
         ·rw [hy] at hjx;rw [hx] at hjy;simp at hjx hjy;rw [←hjx,←hjy];exact hr
       ·have hr:l[k].lt l[k+1]=false:=by simpa using hr
        have:risB l=false:=by
         cases h:risB l with
         | false=>rfl
         | true=>rw [risB_iff] at h;have:=h k _ _ hy hx;rw [hr] at this;exact absurd this (by simp)
        simp [hr,this]
 exact key l.length 0 (by omega) (fun j x hj=>by omega) (fun j x y hj=>by omega)
theorem wr_pred {k:Nat} (h:k≤4000000000000000000):wr (((k+1:Nat):Int)-1)=(k:Int):=by
 rw [Zy5 (by omega) (by omega)];omega
theorem Zd7 (g:Graph):Zz6 g=some (if okG g then 0 else 30):=by
 simp only [Zz6,Zy6]
 by_cases h1:g.N<0
 ·have:¬0≤g.N:=by omega
  simp [h1,okG,this]
 by_cases h2:64<g.N
 ·have:¬g.N≤64:=by omega
  simp [h1,h2,okG,this]
 by_cases h3:400<g.Edges.length
 ·have:¬g.Edges.length≤400:=by omega
  have h3':(400:Int)<ln Edge.row g.Edges:=by rw [Zy4];omega
  simp [h1,h2,h3',okG,this]
 have h3':¬(400:Int)<ln Edge.row g.Edges:=by rw [Zy4];omega
 rw [Za7 g.Edges _ (fun e=>!e.ok g.N) (by omega) (fun x _=>s_Check1 x g)]
 have e1:0≤g.N:=by omega
 have e2:g.N≤64:=by omega
 have e3:g.Edges.length≤400:=by omega
 simp only [h1,h2,h3',decide_false,Zw5,Option.bind_some,okG,e1,e2,e3,decide_true,Bool.true_and]
 by_cases h4:g.Edges.any (fun e=>!e.ok g.N)=true
 ·have h5:g.Edges.all (Edge.ok g.N)=false:=by
   rw [List.any_eq_true] at h4
   obtain ⟨x,hx,hq⟩:=h4
   rw [List.all_eq_false];exact ⟨x,hx,by simpa using hq⟩
  simp [h4,h5]
 ·have h4:g.Edges.any (fun e=>!e.ok g.N)=false:=by simpa using h4
  have h5:g.Edges.all (Edge.ok g.N)=true:=by
   rw [List.any_eq_false] at h4
   rw [List.all_eq_true];intro x hx;simpa using h4 x hx
  simp only [h4,h5,Zw5,Bool.true_and]
  have key:=Zc7 g.Edges (Zx6 g) 30 0 (fun _=>false) (by omega) (fun k x hx=>by
   cases k with
   | zero=>
     have:=Z16 (f:=Edge.row) hx
     simp only [Zx6,this,Zv5,Zw6]
     simp
     exact Z46 hx (by omega)
   | succ k=>
     have hk:=(List.getElem?_eq_some_iff.1 hx).1
     have hy:g.Edges[k]?=some g.Edges[k]:=List.getElem?_eq_getElem (by omega)
     obtain ⟨n,hn1,hn2⟩:=s_rank g.Edges[k] x
     have h0:decide ((0:Int)<((k+1:Nat):Int))=true:=decide_eq_true (by omega)
     simp only [Zx6,Z16 hx,Zv5,h0,wr_pred (show k≤4000000000000000000 by omega),Zz5 hy,Zz5 hx,Option.bind_some,hn1,hn2,Zw6,hy,Bool.false_or]
     cases g.Edges[k].lt x
     ·simp
     ·simp only [Bool.not_true,Bool.false_eq_true,if_false,Zw5];rw [Z46 hx (show g.Edges.length≤4000000000000000000 by omega)])
   (by simp only [Zx6,Z26,Zw5,Zv6,Option.map_some])
  rw [key]
  simp
theorem Ze7 {g:Graph} (h:okG g=true):0≤g.N∧g.N≤64∧g.Edges.length≤400∧(∀e∈g.Edges,0≤e.A∧e.A<e.B∧e.B<g.N)∧risB g.Edges=true:=by
 simp only [okG,Bool.and_eq_true,decide_eq_true_eq,List.all_eq_true,Edge.ok] at h
 exact ⟨h.1,h.2.1,h.2.2.1,fun e he=>h.2.2.2.1 e he,h.2.2.2.2⟩
theorem all_not_any {α:Type} (l:List α) (p:α→Bool):l.all (fun x=>!p x)=!l.any p:=by
 induction l with
 | nil=>rfl
 | cons x l ih=>simp [ih]
theorem Zf7 {α:Type} (l:List α) (p q:α→Bool) (h:∀x,p x=!q x):l.any p=!l.all q:=by
 induction l with
 | nil=>rfl
 | cons x l ih=>simp [ih,h]
set_option maxRecDepth 100000
set_option maxHeartbeats 4000000
set_option maxRecDepth 100000
set_option maxHeartbeats 4000000
@[go_sem] def e117:EC:=.seq (.reg [(Qx 2 66 8 0),(Qa 3 (.mv (.c .ff)))]) (.seq (.reg [(Qf 4 0 2),(Ql 5 4),(Ql 6 1),(Qa 7 (.bin .eql (.t 5) (.t 6))),(Qm 3 7)]) (.ret))
theorem ok117:FnOK Tryz.prog 117 Tryz.f117 e117 [.t 3] 2 6:=⟨by kernel_rfl,⟨_,rfl,by kernel_rfl⟩,by kernel_rfl,by kernel_rfl⟩
noncomputable def Zg7 (x1:Side) (x2:Int):Option Bool:=
 some (decide (x1.Peer=x2))
theorem Zh7 (x1:Side) (x2:Int) (r:Bool) (h:Zg7 x1 x2=some r):Zs2 Tryz.prog 117 [.agg (Side.row x1),.elt (Zw4 x2) 0] (.bv r):=by
 refine Zw2 ok117 rfl rfl fun w0 H0=>?_
 rw [Zg7] at h
 refine Zn2 13 ?_;dsimp only [go_sem];refine An ?_;exact Zq4 (res:=fun (r:Bool)=>.bv r) ok117 h
set_option maxRecDepth 100000
set_option maxHeartbeats 4000000
@[go_sem] def e65:EC:=.seq (.reg [(Qx 2 61 3 0),(Qx 3 3 1 1),(Qa 4 (.alloc 66 [.iv 0,.iv 0,.iv 0,.ff,.ff,.ff,.ff,.ff])),(Qa 5 (.mv (.c .ff)))]) (.seq (.reg [(Qf 7 2 2),(Ql 8 7),(Qa 9 (.mkf 117 [(.t 3)])),(Qa 10 (.call 116 [(.t 8),(.t 9)])),(Qm 6 10)]) (.seq (.seq (.reg [(Qm 11 6),(Qa 12 (.bin .lss (.t 11) (.c (.iv 0))))]) (.ite (.t 12) (.seq (.reg [(Qa 13 (.build [.iv 0,.iv 0,.iv 0,.ff,.ff,.ff,.ff,.ff] [])),(Qs 8 4 13),(Qa 5 (.mv (.c .ff)))]) (.ret)) (.skip))) (.seq (.reg [(Qf 14 2 2),(Ql 15 14),(Qm 16 6),(Qk 17 8 15 16),(Qe 18 8 17),(Qs 8 4 18),(Qa 5 (.mv (.c .tt)))]) (.ret))))
theorem ok65:FnOK Tryz.prog 65 Tryz.f65 e65 [.c 4 (some 8),.t 5] 2 17:=⟨by kernel_rfl,⟨_,rfl,by kernel_rfl⟩,by kernel_rfl,by kernel_rfl⟩
noncomputable def Zi7 (x1:Diner) (x2:Int):Option (Side×Bool):=
 (Zi6 x1.Sides ((fun z=>Zg7 z x2))).bind fun x3=>
 ifb (decide (x3<0)) (
 some ((Side.mk 0 0 0 false false false false false),false)) (
 (at_ x1.Sides x3).bind fun x4=>
 some (x4,true))
theorem Zj7 (x1:Diner) (x2:Int) (r:(Side×Bool)) (h:Zi7 x1 x2=some r):Zs2 Tryz.prog 65 [.agg (Diner.row x1),.iv x2] (.tup [.agg (Side.row r.1),.bv r.2]):=by
 refine Zw2 ok65 rfl rfl fun w0 H0=>?_
 rw [Zi7] at h
 refine Zn2 12 ?_;dsimp only [go_sem];refine An ?_;obtain ⟨x3,ex3,h⟩:=Bs h;refine Zu4 trivial ((Zt4.refl _).block 1 rfl rfl) (Zj6 x1.Sides _ _ ((fun z=>Zg7 z x2)) ⟨by kernel_rfl,rfl,fun z r hz=>Zh7 z x2 r hz⟩ _ ex3) (h:=?_);refine Zn2 8 ?_;dsimp only [go_sem];refine An ?_;refine Zi4 h rfl (fun _ h=>?_) fun _ h=>?_
 ·refine Zn2 6 ?_;dsimp only [go_sem];refine An ?_;exact Zq4 (res:=fun (r:(Side×Bool))=>.tup [.agg (Side.row r.1),.bv r.2]) ok65 h
 ·refine Zn2 6 ?_;dsimp only [go_sem];refine An ?_;obtain ⟨x4,ex4,h⟩:=Bs h;refine Zl4 Side.row ex4 trivial rfl rfl rfl ?_;refine Zn2 4 ?_;dsimp only [go_sem];refine An ?_;exact Zq4 (res:=fun (r:(Side×Bool))=>.tup [.agg (Side.row r.1),.bv r.2]) ok65 h
set_option maxRecDepth 100000
set_option maxHeartbeats 4000000
set_option maxRecDepth 100000
set_option maxHeartbeats 4000000
set_option maxRecDepth 100000
set_option maxHeartbeats 4000000
@[go_sem] def e41:EC:=.seq (.reg [(Qx 1 53 2 0),(Qa 2 (.alloc 53 [.iv 0,.nl]))]) (.seq (.drw [(Qf 3 0 1),(Ql 4 3),(Qa 5 (.bsl 30 2 0 [.iv 0,.iv 0] [])),(Qf 6 1 1),(Ql 7 6),(Qa 8 (.app 30 2 16 (.t 5) (.t 7))),(Qa 9 (.build [.iv 0,.nl] [(0,1,(.t 4)),(1,1,(.t 8))])),(Qs 2 2 9)] [[],[0],[],[],[3],[2,4],[1,5],[6,5,0,1,2,3,4,5,6]] [[1],[0,6],[5],[4],[3,5],[2,4,6],[1,5,7],[6]]) (.ret))
theorem ok41:FnOK Tryz.prog 41 Tryz.f41 e41 [.c 2 (some 2)] 1 9:=⟨by kernel_rfl,⟨_,rfl,by kernel_rfl⟩,by kernel_rfl,by kernel_rfl⟩
noncomputable def Zk7 (x1:Graph):Option Graph:=
 (Zb4 16 (([]:List Edge)) x1.Edges).bind fun x2=>
 some (Graph.mk x1.N x2)
theorem Zl7 (x1:Graph) (r:Graph) (h:Zk7 x1=some r):Zs2 Tryz.prog 41 [.agg (Graph.row x1)] (.agg (Graph.row r)):=by
 refine Zw2 ok41 rfl rfl fun w0 H0=>?_
 rw [Zk7] at h
 refine Zn2 6 ?_;dsimp only [go_sem];refine An ?_;refine Zi3 (by kernel_rfl) fun all hall hs hnap haf=>?_;dsimp only [go_sem];refine Z65 hall hs haf hnap 4 4 ?_;dsimp only [go_sem];refine An ?_;refine Zt3 2 rfl ?_;refine Zy3 hall rfl trivial ?_;dsimp only [go_sem];refine Zt3 5 rfl ?_;obtain ⟨x2,ex2,h⟩:=Bs h;refine Zo4 Edge.row ex2 hall rfl trivial rfl rfl rfl ?_;dsimp only [go_sem];refine Z65 hall hs haf hnap 1 1 ?_;dsimp only [go_sem];refine An ?_;refine Zt3 7 rfl ?_;refine Zy3 hall rfl trivial ?_;dsimp only [go_sem];refine Zs3 rfl ?_ _
 refine Za3 1 rfl ?_;dsimp only [go_sem];exact Zq4 (res:=fun (r:Graph)=>.agg (Graph.row r)) ok41 h
theorem loop_pp {α τ β:Type} (l:List α) (body:τ→Option (τ ⊕ β)) (st:List α→τ) (R:List α→List α→Option β)
  (hb:∀pre x post,l=pre++x::post→(body (st pre)=some (.inl (st (pre++[x])))∧R pre (x::post)=R (pre++[x]) post)∨∃r,body (st pre)=some (.inr r)∧R pre (x::post)=some r)
  (he:body (st l)=(R l []).map .inr):∀post pre,l=pre++post→loop body (st pre)=R pre post
 | [],pre,h=>by
   have:pre=l:=by simpa using h.symm
   subst this
   rw [Ze4,he]
   cases R pre []<;>rfl
 | x::post,pre,h=>by
   rw [Ze4]
   rcases hb pre x post h with ⟨h1,h2⟩ | ⟨r,h1,h2⟩
   ·rw [h1,h2]
    exact loop_pp l body st R hb he post (pre++[x]) (by simpa using h)
   ·rw [h1,h2]
theorem Zm7 {α τ β:Type} (l:List α) (body:τ→Option (τ ⊕ β)) (st:List α→τ) (R:List α→List α→Option β)
 (hb:∀pre x post,l=pre++x::post→(body (st pre)=some (.inl (st (pre++[x])))∧R pre (x::post)=R (pre++[x]) post)∨∃r,body (st pre)=some (.inr r)∧R pre (x::post)=some r)
 (he:body (st l)=(R l []).map .inr):loop body (st [])=R [] l:=loop_pp l body st R hb he l [] rfl
theorem loop_ppI {α τ β:Type} (l:List α) (body:τ→Option (τ ⊕ β)) (st:List α→τ) (R:List α→List α→Option β) (I:List α→Prop)
  (hb:∀pre x post,l=pre++x::post→I pre→(body (st pre)=some (.inl (st (pre++[x])))∧I (pre++[x])∧R pre (x::post)=R (pre++[x]) post)∨∃r,body (st pre)=some (.inr r)∧R pre (x::post)=some r)
  (he:I l→body (st l)=(R l []).map .inr):∀post pre,l=pre++post→I pre→loop body (st pre)=R pre post
 | [],pre,h,hI=>by
   have:pre=l:=by simpa using h.symm
   subst this
   rw [Ze4,he hI]
   cases R pre []<;>rfl
 | x::post,pre,h,hI=>by
   rw [Ze4]
   rcases hb pre x post h hI with ⟨h1,h3,h2⟩ | ⟨r,h1,h2⟩
   ·rw [h1,h2]
    exact loop_ppI l body st R I hb he post (pre++[x]) (by simpa using h) h3
   ·rw [h1,h2]
theorem Zn7 {α τ β:Type} (l:List α) (body:τ→Option (τ ⊕ β)) (st:List α→τ) (r:β)
  (hb:∀pre x post,l=pre++x::post→body (st pre)=some (.inl (st (pre++[x])))) (he:body (st l)=some (.inr r)):loop body (st [])=some r:=
 Zm7 l body st (fun _ _=>some r) (fun pre x post h=>.inl ⟨hb pre x post h,rfl⟩) he
theorem Zo7 {α:Type} {l pre post:List α} {x:α} (h:l=pre++x::post):l[pre.length]?=some x:=by subst h;simp
theorem Zp7 {α:Type} {l pre post:List α} {x:α} (h:l=pre++x::post):pre.length<l.length:=by subst h;simp
theorem Zq7 {α:Type} {l pre post:List α} {x:α} (h:l=pre++x::post):x∈l:=by subst h;simp
theorem Zr7 {α:Type} {l a b:List α} {x:α} (h:l=a++x::b):at_ l (a.length:Int)=some x:=Zz5 (Zo7 h)
theorem Zs7 {α:Type} (a b:List α) (x y:α):(a++x::b).set ((a.length:Int)).toNat y=a++y::b:=by simp
theorem Zt7 {α:Type} (pre:List α) (x:α):(pre++[x]).length=pre.length+1:=by simp
theorem loop_nat {τ β:Type} (n:Nat) (body:τ→Option (τ ⊕ β)) (st:Nat→τ) (r:β) (hb:∀k,k<n→body (st k)=some (.inl (st (k+1)))) (he:body (st n)=some (.inr r)):loop body (st 0)=some r:=by
 have key:∀m k,m+k=n→loop body (st k)=some r:=by
  intro m
  induction m with
  | zero=>intro k hk;have:k=n:=by omega
          subst this;rw [Ze4,he]
  | succ m ih=>intro k hk;rw [Ze4,hb k (by omega)];exact ih (k+1) (by omega)
 exact key n 0 rfl
theorem Zu7 {α:Type} (l m:List α) (body:Int→Option (Int ⊕ Bool)) (eqv:α→α→Bool) (hlm:l.length=m.length) (hl:l.length≤4000000000000000000)
  (hb:∀(k:Nat) x y,l[k]?=some x→m[k]?=some y→body k=some (if eqv x y then .inl ((k+1:Nat):Int) else .inr false)) (he:body l.length=some (.inr true)):loop body 0=some ((l.zip m).all fun p=>eqv p.1 p.2):=by
 rw [loop_any (l.zip m) body (fun p=>!eqv p.1 p.2) false true (by simp;omega) (fun k x hx=>by
  obtain ⟨x1,x2⟩:=x
  rw [List.getElem?_zip_eq_some] at hx
  rw [hb k x1 x2 hx.1 hx.2]
  cases eqv x1 x2<;>rfl) (by rw [show (l.zip m).length=l.length by simp [hlm]];exact he)]
 have:∀(q:List (α×α)),(if q.any (fun p=>!eqv p.1 p.2) then some false else some true)=some (q.all fun p=>eqv p.1 p.2):=by
  intro q
  induction q with
  | nil=>rfl
  | cons p q ih=>
    rw [List.any_cons,List.all_cons]
    cases h:eqv p.1 p.2 with
    | true=>exact ih
    | false=>rfl
 have h2:=this (l.zip m)
 rw [←h2]
 cases (l.zip m).any (fun p=>!eqv p.1 p.2)<;>rfl
theorem Zv7 {α:Type} [DecidableEq α]:∀(l m:List α),l.length=m.length→(l.zip m).all (fun p=>decide (p.1=p.2))=decide (l=m)
 | [],[],_=>rfl
 | [],_::_,h=>by simp at h
 | _::_,[],h=>by simp at h
 | x::l,y::m,h=>by
   have ih:=Zv7 l m (by simpa using h)
   simp only [List.zip_cons_cons,List.all_cons,ih]
   by_cases h1:x=y<;>simp [h1]
theorem len_ne {α:Type} [DecidableEq α] {l m:List α} (h:l.length≠m.length):decide (l=m)=false:=decide_eq_false (by rintro rfl;exact h rfl)
theorem Side_eqB (x y:Side):(decide (x.Peer=y.Peer)&&(decide (x.Epoch=y.Epoch)&&(decide (x.State=y.State)&&((x.Fork==y.Fork)&&((x.Dirty==y.Dirty)&&((x.Token==y.Token)&&((x.Bottle==y.Bottle)&&((x.Ask==y.Ask)&&true))))))))=decide (x=y):=by
 rw [Bool.eq_iff_iff];cases x;cases y;simp [Side.mk.injEq]
theorem Mail_eqB (x y:Mail):(decide (x.From=y.From)&&(decide (x.To=y.To)&&(decide (x.Msg.Kind=y.Msg.Kind)&&(decide (x.Msg.Epoch=y.Msg.Epoch)&&(decide (x.Msg.Num=y.Msg.Num)&&true)))))=decide (x=y):=by
 rw [Bool.eq_iff_iff]
 obtain ⟨x1,x2,x3,x4,x5⟩:=x
 obtain ⟨y1,y2,y3,y4,y5⟩:=y
 simp [Mail.mk.injEq,Msg.mk.injEq]
theorem ln_dec {α β:Type} (f:α→List AV) (g:β→List AV) (l:List α) (m:List β):decide (ln f l=ln g m)=decide (l.length=m.length):=by
 rw [Zy4,Zy4,decide_eq_decide];omega
theorem s_EqualSide (l m:List Side) (hl:l.length≤1000000):Zt5 l m=some (decide (l=m)):=by
 simp only [Zt5,ln_dec]
 by_cases h:l.length=m.length
 ·simp only [h,decide_true,Bool.not_true,Zw5]
  rw [Zu7 l m _ (fun x y=>decide (x=y)) h (by omega) (fun k x y hx hy=>by
   simp only [Zs5,Z16 hx,Zv5,Zz5 hx,Zz5 hy,Option.bind_some,Side_eqB,Z46 hx (show l.length≤4000000000000000000 by omega),Zx5]
   cases decide (x=y)<;>rfl) (by simp only [Zs5,Z26,Zw5,Zr5,Option.map_some]),Zv7 l m h]
 ·simp [h,len_ne h]
def fewD (l:List Diner):Prop:=l.length≤5000∧∀d∈l,d.Sides.length≤5000
def side0:Side:=⟨0,0,0,false,false,false,false,false⟩
def Zw7 (d:Diner) (p:Int):Option Side:=d.Sides.find? fun x=>decide (x.Peer=p)
def sideP (o:Option Side):Side×Bool:=match o with | some x=>(x,true) | none=>(side0,false)
theorem Zx7 {α:Type} (q:α→Bool):∀l:List α,match l.findIdx? q with
  | some i=>∃x,l[i]?=some x∧l.find? q=some x
  | none=>l.find? q=none
 | []=>rfl
 | x::l=>by
   have ih:=Zx7 q l
   rw [List.findIdx?_cons,List.find?_cons]
   cases h:q x with
   | true=>exact ⟨x,rfl,by simp⟩
   | false=>
     simp only [Bool.false_eq_true,if_false]
     cases hf:l.findIdx? q with
     | none=>rw [hf] at ih;simpa using ih
     | some i=>rw [hf] at ih;obtain ⟨y,h1,h2⟩:=ih;exact ⟨y,by simpa using h1,by simpa using h2⟩
theorem s_Side (d:Diner) (p:Int) (hl:d.Sides.length≤1000000):Zi7 d p=some (sideP (Zw7 d p)):=by
 simp only [Zi7]
 rw [Z97 d.Sides (fun z=>Zg7 z p) (fun x=>decide (x.Peer=p)) (by omega) (fun x _=>rfl),Option.bind_some,plc_neg]
 have:=Zx7 (fun x:Side=>decide (x.Peer=p)) d.Sides
 unfold Zw7
 cases h:d.Sides.findIdx? (fun x=>decide (x.Peer=p)) with
 | none=>rw [h] at this;simp only at this;rw [this];rfl
 | some i=>
   rw [h] at this
   obtain ⟨x,h1,h2⟩:=this
   rw [h2]
   simp only [Option.isNone_some,Zw5,plc,Zz5 h1,Option.bind_some,sideP]
def fewB (s:Scene):Bool:=decide (s.Diners.length≤24)&&(decide (s.Mail.length≤40)&&s.Diners.all fun d=>decide (d.Sides.length≤24))
theorem fewB_iff {s:Scene} (h:fewB s=true):s.Diners.length≤24∧s.Mail.length≤40∧∀d∈s.Diners,d.Sides.length≤24:=by
 simp only [fewB,Bool.and_eq_true,decide_eq_true_eq,List.all_eq_true] at h
 exact h
theorem s_Own03 (g:Graph) (hl:g.Edges.length≤1000000):Zk7 g=some g:=by
 simp only [Zk7]
 rw [Z06 _ _ (by omega) (by simp;omega)]
 rfl
set_option maxRecDepth 100000
set_option maxHeartbeats 4000000
@[go_sem] def e106_L1:EC:=.seq (.reg [(Qa 34 (.bin .lss (.t 33) (.t 32)))]) (.seq (.ite (.t 34) (.skip) (.exit 2)) (.seq (.blk 3 (.seq (.reg [(Qm 35 33),(Qk 36 8 31 33),(Qe 37 8 36),(Qa 8 (.alloc 66 [.iv 0,.iv 0,.iv 0,.ff,.ff,.ff,.ff,.ff])),(Qm 7 35),(Qs 8 8 37)]) (.seq (.seq (.drw [(Qf 38 0 8),(Ql 39 38),(Qa 40 (.bin .lss (.t 39) (.c (.iv 0)))),(Qm 41 40),(Qh 42 41 false 0 8),(Qn 43 41 false 42),(Qg 44 41 false (.mv (.t 0))),(Qg 45 41 false (.len (.t 44))),(Qg 46 41 false (.bin .geq (.t 43) (.t 45))),(Qq 47 41 46),(Qm 48 47),(Qh 49 48 false 0 8),(Qn 50 48 false 49),(Qg 51 48 false (.mv (.t 5))),(Qg 52 48 false (.bin .eql (.t 50) (.t 51))),(Qq 53 48 52),(Qm 54 53),(Qg 55 54 false (.mv (.t 7))),(Qg 56 54 false (.bin .gtr (.t 55) (.c (.iv 0)))),(Qg 57 54 false (.mv (.t 56))),(Qh 58 57 true 2 6),(Qn 59 57 true 58),(Qg 60 57 true (.mv (.t 7))),(Qg 61 57 true (.bin .sub (.t 60) (.c (.iv 1)))),(Qg 62 57 true (.idx 8 (.t 59) (.t 61))),(Qh 63 57 true 0 62),(Qn 64 57 true 63),(Qh 65 57 true 0 8),(Qn 66 57 true 65),(Qg 67 57 true (.bin .geq (.t 64) (.t 66))),(Qg 68 54 false (.pick (.t 57) (.t 67) (.c .ff))),(Qq 69 54 68)] [[],[0],[1],[2],[3],[4,3],[3],[6,3],[5,7,3],[3,8],[9,3],[10],[11,10],[10],[12,13,10],[10,14],[15,10],[16],[17,16],[18,16,16],[19],[20,19],[19],[22,19],[21,23,19],[24,19],[25,19],[19],[27,19],[26,28,19],[19,29,16],[16,30]] [[1],[0,2],[1,3],[2,4,5,6,7,8,9],[3,5],[3,4,8],[3,7],[3,6,8],[3,5,7,9],[3,8,10],[9,11,12,13,14,15],[10,12],[10,11,14],[10,14],[10,12,13,15],[10,14,16],[15,17,18,19,30,31],[16,18],[16,17,19],[16,18,20,21,22,23,24,25,26,27,28,29,30],[19,21],[19,20,24],[19,23],[19,22,24],[19,21,23,25],[19,24,26],[19,25,29],[19,28],[19,27,29],[19,26,28,30],[16,19,29,31],[16,30]]) (.ite (.t 69) (.seq (.reg [(Qa 70 (.build [.iv 0,.nl] [])),(Qs 2 2 70),(Qa 3 (.mv (.c .ff)))]) (.ret)) (.skip))) (.seq (.seq (.reg [(Qm 72 0),(Qf 73 0 8),(Ql 74 73),(Qk 75 3 72 74),(Qe 76 3 75),(Qm 77 5),(Qa 78 (.call 65 [(.t 76),(.t 77)])),(Qm 71 78),(Qa 79 (.ext (.t 71) 0)),(Qa 80 (.ext (.t 71) 1)),(Qa 9 (.alloc 66 [.iv 0,.iv 0,.iv 0,.ff,.ff,.ff,.ff,.ff])),(Qs 8 9 79),(Qm 10 80)]) (.seq (.reg [(Qm 81 10),(Qa 82 (.not (.t 81)))]) (.ite (.t 82) (.seq (.reg [(Qa 83 (.build [.iv 0,.nl] [])),(Qs 2 2 83),(Qa 3 (.mv (.c .ff)))]) (.ret)) (.skip)))) (.seq (.reg [(Qm 84 5),(Qf 85 0 8),(Ql 86 85),(Qa 87 (.bin .lss (.t 84) (.t 86)))]) (.ite (.t 87) (.reg [(Qf 88 1 4),(Ql 89 88),(Qm 90 5),(Qf 91 0 8),(Ql 92 91),(Qa 93 (.build [.iv 0,.iv 0] [(0,1,(.t 90)),(1,1,(.t 92))])),(Qa 94 (.bsl 30 2 1 [.iv 0,.iv 0] [(0,(.t 93))])),(Qa 95 (.app 30 2 16 (.t 89) (.t 94))),(Qf 96 1 4),(Qs 1 96 95)]) (.skip))))))) (.reg [(Qv 97 33 1),(Qm 33 97)])))
@[go_sem] def e106_L0:EC:=.seq (.reg [(Qa 21 (.bin .lss (.t 20) (.t 19)))]) (.seq (.ite (.t 21) (.skip) (.exit 0)) (.seq (.blk 1 (.seq (.reg [(Qm 22 20),(Qk 23 3 18 20),(Qe 24 3 23),(Qa 6 (.alloc 61 [.iv 0,.iv 0,.nl])),(Qm 5 22),(Qs 3 6 24)]) (.seq (.seq (.reg [(Qf 25 0 6),(Ql 26 25),(Qm 27 5),(Qa 28 (.bin .neq (.t 26) (.t 27)))]) (.ite (.t 28) (.seq (.reg [(Qa 29 (.build [.iv 0,.nl] [])),(Qs 2 2 29),(Qa 3 (.mv (.c .ff)))]) (.ret)) (.skip))) (.seq (.reg [(Qf 30 2 6),(Ql 31 30),(Qa 32 (.len (.t 31))),(Qi 33 0)]) (.blk 2 (.loop e106_L1)))))) (.reg [(Qv 98 20 1),(Qm 20 98)])))
@[go_sem] def e106:EC:=.seq (.reg [(Qa 2 (.alloc 53 [.iv 0,.nl])),(Qa 3 (.mv (.c .ff)))]) (.seq (.seq (.reg [(Qm 11 0),(Qa 12 (.len (.t 11))),(Qa 13 (.bin .gtr (.t 12) (.c (.iv 64))))]) (.ite (.t 13) (.seq (.reg [(Qa 14 (.build [.iv 0,.nl] [])),(Qs 2 2 14),(Qa 3 (.mv (.c .ff)))]) (.ret)) (.skip))) (.seq (.reg [(Qm 15 0),(Qa 16 (.len (.t 15))),(Qa 17 (.build [.iv 0,.nl] [(0,1,(.t 16))])),(Qa 4 (.alloc 53 [.iv 0,.nl])),(Qs 2 4 17)]) (.seq (.seq (.reg [(Qm 18 0),(Qa 19 (.len (.t 18))),(Qi 20 0)]) (.blk 0 (.loop e106_L0))) (.seq (.seq (.reg [(Qe 99 2 4),(Qa 100 (.call 144 [(.t 99)])),(Qa 101 (.bin .neq (.t 100) (.c (.iv 0))))]) (.ite (.t 101) (.seq (.reg [(Qa 102 (.build [.iv 0,.nl] [])),(Qs 2 2 102),(Qa 3 (.mv (.c .ff)))]) (.ret)) (.skip))) (.seq (.reg [(Qe 103 2 4),(Qs 2 2 103),(Qa 3 (.mv (.c .tt)))]) (.ret))))))
theorem ok106:FnOK Tryz.prog 106 Tryz.f106 e106 [.c 2 (some 2),.t 3] 1 103:=⟨by kernel_rfl,⟨_,rfl,by kernel_rfl⟩,by kernel_rfl,by kernel_rfl⟩
noncomputable def Zy7 (x1:(List Diner)):(List Edge)→Option (Graph×Bool)
| x78=>
 (Zz6 ((Graph.mk (ln Diner.row x1) x78))).bind fun x79=>
 ifb (!decide (x79=0)) (
 some ((Graph.mk 0 (([]:(List Edge)))),false)) (
 some ((Graph.mk (ln Diner.row x1) x78),true))
noncomputable def Zz7 (x35:Int):(List Edge)→Option ((Int×(List Edge)) ⊕ (Graph×Bool))
| x69=>
 some (.inl (wr (x35+1),x69))
noncomputable def Z08 (x47:Int):(List Edge)→Option ((Int×(List Edge)) ⊕ ((Int×(List Edge)) ⊕ (Graph×Bool)))
| x55=>
 some (.inl (wr (x47+1),x55))
noncomputable def Z18 (x1:(List Diner)) (x35:Int) (x47:Int) (x48:(List Edge)) (x49:Side):Bool→Option ((Int×(List Edge)) ⊕ ((Int×(List Edge)) ⊕ (Graph×Bool)))
| x51=>
 ifb x51 (
 Option.map Sum.inr (Option.map Sum.inr (some ((Graph.mk 0 (([]:(List Edge)))),false)))) (
 (at_ x1 x49.Peer).bind fun x52=>
 (Zi7 x52 x35).bind fun x53=>
 ifb (!x53.2) (
 Option.map Sum.inr (Option.map Sum.inr (some ((Graph.mk 0 (([]:(List Edge)))),false)))) (
 ifb (decide (x35<x49.Peer)) (
 (Zb4 16 x48 ([(Edge.mk x35 x49.Peer)])).bind fun x54=>
 (Z08 x47) x54) (
 (Z08 x47) x48)))
noncomputable def Z28 (x1:(List Diner)) (x35:Int) (x37:Diner):(Int×(List Edge))→Option ((Int×(List Edge)) ⊕ ((Int×(List Edge)) ⊕ (Graph×Bool)))
| (x47,x48)=>
 ifb (decide (x47<(ln Side.row x37.Sides))) (
 (at_ x37.Sides x47).bind fun x49=>
 ifb (decide (x49.Peer<0)) (
 (Z18 x1 x35 x47 x48 x49) true) (
 ifb (decide ((ln Diner.row x1)≤x49.Peer)) (
 (Z18 x1 x35 x47 x48 x49) true) (
 ifb (decide (x49.Peer=x35)) (
 (Z18 x1 x35 x47 x48 x49) true) (
 ifb (decide (0<x47)) (
 (at_ x37.Sides (wr (x47-1))).bind fun x50=>
 (Z18 x1 x35 x47 x48 x49) (decide (x49.Peer≤x50.Peer))) (
 (Z18 x1 x35 x47 x48 x49) false))))) (
 Option.map Sum.inr ((Zz7 x35) x48))
noncomputable def Z38 (x1:(List Diner)):(Int×(List Edge))→Option ((Int×(List Edge)) ⊕ (Graph×Bool))
| (x35,x36)=>
 ifb (decide (x35<(ln Diner.row x1))) (
 (at_ x1 x35).bind fun x37=>
 ifb (!decide (x37.ID=x35)) (
 Option.map Sum.inr (some ((Graph.mk 0 (([]:(List Edge)))),false))) (
 loop (Z28 x1 x35 x37) (0,x36))) (
 Option.map Sum.inr ((Zy7 x1) x36))
noncomputable def Z48 (x1:(List Diner)):Option (Graph×Bool):=
 ifb (decide (64<(ln Diner.row x1))) (
 some ((Graph.mk 0 (([]:(List Edge)))),false)) (
 loop (Z38 x1) (0,([]:List Edge)))
theorem k_place_Graph (x1:(List Diner)) (r:(Graph×Bool)) (h:Z48 x1=some r):Zs2 Tryz.prog 106 [.sl 3 (List.map Diner.row x1)] (.tup [.agg (Graph.row r.1),.bv r.2]):=by
 refine Zw2 ok106 rfl rfl fun w0 H0=>?_
 rw [Z48] at h
 refine Zn2 12 ?_;dsimp only [go_sem];refine An ?_;refine Zi4 h rfl (fun _ h=>?_) fun _ h=>?_
 ·refine Zn2 6 ?_;dsimp only [go_sem];refine An ?_;exact Zq4 (res:=fun (r:(Graph×Bool))=>.tup [.agg (Graph.row r.1),.bv r.2]) ok106 h
 ·refine Zn2 16 ?_;dsimp only [go_sem];refine An ?_;refine Zg4 (fun (x78:(List Edge))=>(⟨(.any :: .any :: .ptr 0 0 :: .any :: .ptr 1 0::an 99 []),[some ⟨53,[.iv 0,.nl]⟩,some ⟨53,[.iv (ln Diner.row x1),.osl 0]⟩],[some ⟨30,2,List.map Edge.row x78⟩]⟩:St)) (Zy7 x1) r ?_ fun J1=>?_
  ·intro x78 h;rw [Zy7] at h;(try dsimp only);refine Zn2 4 ?_;dsimp only [go_sem];refine An ?_;obtain ⟨x79,ex79,h⟩:=Bs h;refine Zu4 trivial ((Zt4.refl _).slice 0 rfl) (Z07 ((Graph.mk (ln Diner.row x1) x78)) _ ex79) (h:=?_);refine Zn2 2 ?_;dsimp only [go_sem];refine An ?_;refine Zi4 h rfl (fun _ h=>?_) fun _ h=>?_
   ·refine Zn2 6 ?_;dsimp only [go_sem];refine An ?_;exact Zq4 (res:=fun (r:(Graph×Bool))=>.tup [.agg (Graph.row r.1),.bv r.2]) ok106 h
   ·refine Zn2 7 ?_;dsimp only [go_sem];refine An ?_;refine Za3 0 rfl ?_;dsimp only [go_sem];exact Zq4 (res:=fun (r:(Graph×Bool))=>.tup [.agg (Graph.row r.1),.bv r.2]) ok106 h
  ·refine Zn2 1 ?_;dsimp only [go_sem];refine An ?_;refine Z54 1 1 30 2 rfl rfl rfl ?_;dsimp only [go_sem];refine Zh4 h (fun ((x35,x36):(Int×(List Edge)))=>(⟨(.sl 3 (List.map Diner.row x1) :: .any :: .ptr 0 0 :: .any :: .ptr 1 0::an 13 (.sl 3 (List.map Diner.row x1) :: .iv (ln Diner.row x1) :: .iv x35::an 83 [])),[some ⟨53,[.iv 0,.nl]⟩,some ⟨53,[.iv (ln Diner.row x1),.osl 0]⟩],[some ⟨30,2,List.map Edge.row x36⟩]⟩:St)) (by simp [go_sem]) (by rintro ⟨x35,x36⟩;first | rfl | simp [go_sem]) ?_;rintro n1 ⟨x35,x36⟩ y1 h hin1 hout1;rw [Z38] at h
   (try dsimp only);refine Zn2 5 ?_;dsimp only [go_sem];refine An ?_;refine Zi4 h rfl (fun _ h=>?_) fun _ h=>?_
   ·refine Zn2 6 ?_;dsimp only [go_sem];refine An ?_;obtain ⟨x37,ex37,h⟩:=Bs h;refine Zl4 Diner.row ex37 trivial rfl rfl rfl ?_;refine Zn2 13 ?_;dsimp only [go_sem];refine An ?_;refine Zi4 h rfl (fun _ h=>?_) fun _ h=>?_
    ·refine Zn2 6 ?_;dsimp only [go_sem];refine An ?_;exact Zq4 (res:=fun (r:(Graph×Bool))=>.tup [.agg (Graph.row r.1),.bv r.2]) ok106 (Zf4 h hout1)
    ·refine Zn2 8 ?_;dsimp only [go_sem];refine An ?_;refine Zg4 (fun (x69:(List Edge))=>(⟨(.sl 3 (List.map Diner.row x1) :: .any :: .ptr 0 0 :: .any :: .ptr 1 0::an 13 (.sl 3 (List.map Diner.row x1) :: .iv (ln Diner.row x1) :: .iv x35::an 83 [])),[some ⟨53,[.iv 0,.nl]⟩,some ⟨53,[.iv (ln Diner.row x1),.osl 0]⟩],[some ⟨30,2,List.map Edge.row x69⟩]⟩:St)) (Zz7 x35) y1 ?_ fun J2=>?_
     ·intro x69 h;rw [Zz7] at h;(try dsimp only);refine Zn2 5 ?_;dsimp only [go_sem];refine An ?_;exact Zr4 h hin1
     ·refine Zn2 1 ?_;dsimp only [go_sem];refine An ?_
      refine Zh4 h (fun ((x47,x48):(Int×(List Edge)))=>(⟨(.sl 3 (List.map Diner.row x1) :: .any :: .ptr 0 0 :: .any :: .ptr 1 0 :: .iv x35 :: .ptr 2 0::an 11 (.sl 3 (List.map Diner.row x1) :: .iv (ln Diner.row x1) :: .iv x35::an 10 (.sl 8 (List.map Side.row x37.Sides) :: .iv (ln Side.row x37.Sides) :: .iv x47::an 70 []))),[some ⟨53,[.iv 0,.nl]⟩,some ⟨53,[.iv (ln Diner.row x1),.osl 0]⟩,some ⟨61,[.iv x37.ID,.iv x37.Phase,.sl 8 (List.map Side.row x37.Sides)]⟩],[some ⟨30,2,List.map Edge.row x48⟩]⟩:St)) (by simp [go_sem]) (by rintro ⟨x47,x48⟩;first | rfl | simp [go_sem]) ?_
      rintro n2 ⟨x47,x48⟩ y2 h hin2 hout2;rw [Z28] at h;(try dsimp only);refine Zn2 5 ?_;dsimp only [go_sem];refine An ?_;refine Zi4 h rfl (fun _ h=>?_) fun _ h=>?_
      ·refine Zn2 6 ?_;dsimp only [go_sem];refine An ?_;obtain ⟨x49,ex49,h⟩:=Bs h;refine Zl4 Side.row ex49 trivial rfl rfl rfl ?_;refine Zn2 7 ?_;dsimp only [go_sem];refine An ?_
       refine Zg4 (fun (x51:Bool)=>(⟨(.sl 3 (List.map Diner.row x1) :: .any :: .ptr 0 0 :: .any :: .ptr 1 0 :: .iv x35 :: .ptr 2 0 :: .any :: .ptr 3 0::an 9 (.sl 3 (List.map Diner.row x1) :: .iv (ln Diner.row x1) :: .iv x35::an 10 (.sl 8 (List.map Side.row x37.Sides) :: .iv (ln Side.row x37.Sides) :: .iv x47::an 35 (.bv x51::an 34 [])))),[some ⟨53,[.iv 0,.nl]⟩,some ⟨53,[.iv (ln Diner.row x1),.osl 0]⟩,some ⟨61,[.iv x37.ID,.iv x37.Phase,.sl 8 (List.map Side.row x37.Sides)]⟩,some ⟨66,[.iv x49.Peer,.iv x49.Epoch,.iv x49.State,.bv x49.Fork,.bv x49.Dirty,.bv x49.Token,.bv x49.Bottle,.bv x49.Ask]⟩],[some ⟨30,2,List.map Edge.row x48⟩]⟩:St)) (Z18 x1 x35 x47 x48 x49) y2 ?_ fun J3=>?_
       ·intro x51 h;rw [Z18] at h;(try dsimp only);refine Zi4 h rfl (fun _ h=>?_) fun _ h=>?_
        ·refine Zn2 6 ?_;dsimp only [go_sem];refine An ?_;exact Zq4 (res:=fun (r:(Graph×Bool))=>.tup [.agg (Graph.row r.1),.bv r.2]) ok106 (Zf4 (Zf4 h hout2) hout1)
        ·refine Zn2 7 ?_;dsimp only [go_sem];refine An ?_;obtain ⟨x52,ex52,h⟩:=Bs h;refine Zl4 Diner.row ex52 trivial rfl rfl rfl ?_;refine Zn2 2 ?_;dsimp only [go_sem];refine An ?_;obtain ⟨x53,ex53,h⟩:=Bs h;refine Z13 trivial (Zj7 x52 x35 _ ex53) (h:=?_);refine Zn2 12 ?_;dsimp only [go_sem];refine An ?_;refine Zi4 h rfl (fun _ h=>?_) fun _ h=>?_
         ·refine Zn2 6 ?_;dsimp only [go_sem];refine An ?_;exact Zq4 (res:=fun (r:(Graph×Bool))=>.tup [.agg (Graph.row r.1),.bv r.2]) ok106 (Zf4 (Zf4 h hout2) hout1)
         ·refine Zn2 8 ?_;dsimp only [go_sem];refine An ?_
          refine Zg4 (fun (x55:(List Edge))=>(⟨(.sl 3 (List.map Diner.row x1) :: .any :: .ptr 0 0 :: .any :: .ptr 1 0 :: .iv x35 :: .ptr 2 0::an 11 (.sl 3 (List.map Diner.row x1) :: .iv (ln Diner.row x1) :: .iv x35::an 10 (.sl 8 (List.map Side.row x37.Sides) :: .iv (ln Side.row x37.Sides) :: .iv x47::an 70 []))),[some ⟨53,[.iv 0,.nl]⟩,some ⟨53,[.iv (ln Diner.row x1),.osl 0]⟩,some ⟨61,[.iv x37.ID,.iv x37.Phase,.sl 8 (List.map Side.row x37.Sides)]⟩],[some ⟨30,2,List.map Edge.row x55⟩]⟩:St)) (Z08 x47) y2 ?_ fun J4=>?_
          ·intro x55 h;rw [Z08] at h;(try dsimp only);refine Zn2 5 ?_;dsimp only [go_sem];refine An ?_;exact Zr4 h hin2
          ·refine Zi4 h rfl (fun _ h=>?_) fun _ h=>?_
           ·refine Zn2 8 ?_;dsimp only [go_sem];refine An ?_;obtain ⟨x54,ex54,h⟩:=Bs h;refine Zn4 Edge.row ex54 trivial rfl rfl rfl ?_;refine Zn2 3 ?_;dsimp only [go_sem];refine An ?_;refine Z44 2 0 rfl rfl rfl ?_;dsimp only [go_sem];exact Zs4 J4 (s:=x54) h
           ·refine Zn2 1 ?_;dsimp only [go_sem];refine An ?_;exact Zs4 J4 (s:=x48) h
       ·refine Zi3 (by kernel_rfl) fun all hall hs hnap haf=>?_;dsimp only [go_sem];refine Z75 hall hs haf hnap 4 28 [4,28] [(38,[.ptr 3 0,.iv x49.Peer,.bv (decide (x49.Peer<0)),.bv (decide (x49.Peer<0))])] (by kernel_rfl) ?_;dsimp only [go_sem];refine Zz4 41 h rfl (fun _ h=>?_) fun _ h=>?_
        ·dsimp only [go_sem];refine Z75 hall hs haf hnap 28 0 [32] [(42,[.un,.un,.un,.un,.un,.tt,.tt,.un,.un,.un,.un,.tt,.tt,.un,.un,.un,.un,.un,.un,.un,.un,.un,.un,.un,.un,.un,.un,.tt])] (by kernel_rfl) ?_;dsimp only [go_sem];refine Zs3 rfl ?_ _;exact Zs4 J3 (s:=true) h
        ·dsimp only [go_sem];refine Z75 hall hs haf hnap 7 21 [11,21] [(42,[.ptr 3 0,.iv x49.Peer,.sl 3 (List.map Diner.row x1),.iv (ln Diner.row x1),.bv (decide ((ln Diner.row x1)≤x49.Peer)),.bv (decide ((ln Diner.row x1)≤x49.Peer)),.bv (decide ((ln Diner.row x1)≤x49.Peer))])] (by kernel_rfl) ?_;dsimp only [go_sem];refine Zz4 48 h rfl (fun _ h=>?_) fun _ h=>?_
         ·dsimp only [go_sem];refine Z75 hall hs haf hnap 21 0 [32] [(49,[.un,.un,.un,.un,.tt,.tt,.un,.un,.un,.un,.un,.un,.un,.un,.un,.un,.un,.un,.un,.un,.tt])] (by kernel_rfl) ?_;dsimp only [go_sem];refine Zs3 rfl ?_ _;exact Zs4 J3 (s:=true) h
         ·dsimp only [go_sem];refine Z75 hall hs haf hnap 6 15 [17,15] [(49,[.ptr 3 0,.iv x49.Peer,.iv x35,.bv (decide (x49.Peer=x35)),.bv (decide (x49.Peer=x35)),.bv (decide (x49.Peer=x35))])] (by kernel_rfl) ?_;dsimp only [go_sem];refine Zz4 54 h rfl (fun _ h=>?_) fun _ h=>?_
          ·dsimp only [go_sem];refine Z75 hall hs haf hnap 15 0 [32] [(55,[.un,.un,.un,.un,.un,.un,.un,.un,.un,.un,.un,.un,.un,.un,.tt])] (by kernel_rfl) ?_;dsimp only [go_sem];refine Zs3 rfl ?_ _;exact Zs4 J3 (s:=true) h
          ·dsimp only [go_sem];refine Z75 hall hs haf hnap 3 12 [20,12] [(55,[.iv x47,.bv (decide (0<x47)),.bv (decide (0<x47))])] (by kernel_rfl) ?_;dsimp only [go_sem];refine Zz4 57 h rfl (fun _ h=>?_) fun _ h=>?_
           ·dsimp only [go_sem];refine Z75 hall hs haf hnap 6 6 [24,3,2,3] [(58,[.ptr 2 2,.sl 8 (List.map Side.row x37.Sides),.iv x47,.iv (wr (x47-1))]),(3,[.ptr 3 0,.iv x49.Peer])] (by kernel_rfl) ?_;dsimp only [go_sem];obtain ⟨x50,ex50,h⟩:=Bs h;refine Zm4 hall hs haf hnap 24 Side.row ex50 rfl rfl trivial rfl rfl rfl rfl ?_
            refine Z75 hall hs haf hnap 5 0 [32] [(63,[.elt [.iv x50.Peer,.iv x50.Epoch,.iv x50.State,.bv x50.Fork,.bv x50.Dirty,.bv x50.Token,.bv x50.Bottle,.bv x50.Ask] 0,.iv x50.Peer]),(2,[.bv (decide (x49.Peer≤x50.Peer)),.bv (decide (x49.Peer≤x50.Peer)),.bv (decide (x49.Peer≤x50.Peer))])] (by kernel_rfl) ?_;dsimp only [go_sem];refine Zs3 rfl ?_ _;exact Zs4 J3 (s:=decide (x49.Peer≤x50.Peer)) h
           ·dsimp only [go_sem];refine Z75 hall hs haf hnap 12 0 [32] [(58,[.un,.un,.un,.un,.un,.un,.un,.un,.un,.un,.ff,.ff])] (by kernel_rfl) ?_;dsimp only [go_sem];refine Zs3 rfl ?_ _;exact Zs4 J3 (s:=false) h
      ·refine Zn2 1 ?_;dsimp only [go_sem];refine An ?_;exact Zs4 J2 (s:=x48) (Zf4 h hout2)
   ·refine Zn2 1 ?_;dsimp only [go_sem];refine An ?_;exact Zs4 J1 (s:=x36) (Zf4 h hout1)
def Z58 (l:List Diner) (i:Nat) (x:Side):Bool:=
 decide (0≤x.Peer)&&(decide (x.Peer<l.length)&&(!decide (x.Peer=i)&&(match l[x.Peer.toNat]? with | some e=>(Zw7 e i).isSome | none=>false)))
def lastP (pre:List Side):Option Int:=pre.getLast?.map (·.Peer)
def riseB (p:Option Int) (x:Side):Bool:=match p with | none=>true | some q=>decide (q<x.Peer)
def Z68 (l:List Diner) (i:Nat):Option Int→List Side→Bool
 | _,[]=>true
 | p,x::r=>riseB p x&&(Z58 l i x&&Z68 l i (some x.Peer) r)
def Z78 (i:Nat) (xs:List Side):List Edge:=(xs.filter fun x=>decide ((i:Int)<x.Peer)).map fun x=>⟨i,x.Peer⟩
def Z88 (l:List Diner):Nat→List Diner→Bool
 | _,[]=>true
 | i,d::r=>decide (d.ID=i)&&(Z68 l i none d.Sides&&Z88 l (i+1) r)
def Z98:Nat→List Diner→List Edge
 | _,[]=>[]
 | i,d::r=>Z78 i d.Sides++Z98 (i+1) r
def Za8:Graph:=⟨0,[]⟩
def Zb8 (l:List Diner):Graph×Bool:=if Z88 l 0 l&&okG ⟨l.length,Z98 0 l⟩ then (⟨l.length,Z98 0 l⟩,true) else (Za8,false)
theorem Zc8 (pre:List Side) (x:Side):lastP (pre++[x])=some x.Peer:=by simp [lastP]
theorem edgesD_snoc (i:Nat) (pre:List Side) (x:Side):Z78 i (pre++[x])=if decide ((i:Int)<x.Peer) then Z78 i pre++[⟨i,x.Peer⟩] else Z78 i pre:=by
 unfold Z78
 by_cases h:(i:Int)<x.Peer<;>simp [h]
theorem Zd8 (i:Nat) (xs:List Side):(Z78 i xs).length≤xs.length:=by simp [Z78,List.length_filter_le]
theorem Ze8:∀(a b:List Diner) (i:Nat),Z98 i (a++b)=Z98 i a++Z98 (i+a.length) b
 | [],b,i=>by simp [Z98]
 | d::a,b,i=>by simp [Z98,Ze8 a b (i+1),Nat.add_comm,Nat.add_left_comm]
theorem Zf8:∀(l:List Diner) (i:Nat),(∀d∈l,d.Sides.length≤5000)→(Z98 i l).length≤l.length*5000
 | [],_,_=>by simp [Z98]
 | d::l,i,h=>by
   have h1:=Zf8 l (i+1) fun e he=>h e (by simp [he])
   have h2:=h d (by simp)
   have h3:=Zd8 i d.Sides
   simp only [Z98,List.length_append,List.length_cons]
   omega
theorem prev_step {γ:Type} {l pre post:List Side} {x:Side} (h:l=pre++x::post) (hl:l.length≤5000) (A:Bool→Option γ):
  ifb (decide (0<(pre.length:Int))) ((at_ l (wr ((pre.length:Int)-1))).bind fun y=>A (decide (x.Peer≤y.Peer))) (A false)=A (!riseB (lastP pre) x):=by
 rcases List.eq_nil_or_concat pre with rfl | ⟨q,y,rfl⟩
 ·simp [lastP,riseB]
 ·rw [List.concat_eq_append] at h ⊢
  have hy:l[q.length]?=some y:=by subst h;simp
  have hm:=Zp7 h
  have e:decide (0<(((q++[y]).length:Nat):Int))=true:=decide_eq_true (by simp only [Zt7];omega)
  rw [e,Zv5,Zt7,wr_pred (by simp at hm;omega),Zz5 hy,Option.bind_some,Zc8,riseB,←decide_not]
  congr 2
  simp
theorem inner_len {l:List Diner} {pre post:List Diner} {d:Diner} (hl:fewD l) (h:l=pre++d::post):(Z98 0 pre).length≤25000000:=by
 have h1:=Zf8 pre 0 fun e he=>hl.2 e (by subst h;simp [he])
 have h2:=Zp7 h
 have:=hl.1
 omega
theorem s_Graph2 (l:List Diner) (hl:fewD l) (i:Nat) (d:Diner) (hd:d∈l) (hi:i≤5000) (E:List Edge) (hE:E.length≤25000000):
  loop (Z28 l i d) (0,E)=some (if Z68 l i none d.Sides then .inl (((i+1:Nat):Int),E++Z78 i d.Sides) else .inr (Za8,false)):=by
 have hdl:=hl.2 d hd
 have key:=(Zm7 d.Sides (Z28 l i d) (fun pre=>((pre.length:Int),E++Z78 i pre)) (fun pre post=>some (if Z68 l i (lastP pre) post then .inl (((i+1:Nat):Int),E++Z78 i (pre++post)) else .inr (Za8,false))) ?_ ?_)
 ·rw [show Z78 i []=[] from rfl,List.append_nil] at key;exact key
 ·intro pre x post h
  have hx:=Zo7 h
  have hm:=Zp7 h
  dsimp only [Z28]
  rw [Z16 hx,Zv5,Zz5 hx,Option.bind_some,prev_step h hdl (Z18 l i pre.length (E++Z78 i pre) x)]
  have bad:Z18 l (i:Int) pre.length (E++Z78 i pre) x true=some (.inr (.inr (Za8,false))):=rfl
  by_cases h1:x.Peer<0
  ·right
   refine ⟨_,by rw [decide_eq_true h1,Zv5,bad],?_⟩
   have:Z58 l i x=false:=by simp [Z58];omega
   simp [Z68,this]
  by_cases h2:(l.length:Int)≤x.Peer
  ·right
   refine ⟨_,by rw [decide_eq_false h1,Zw5,Zy4,decide_eq_true h2,Zv5,bad],?_⟩
   have:Z58 l i x=false:=by simp [Z58];omega
   simp [Z68,this]
  by_cases h3:x.Peer=i
  ·right
   refine ⟨_,by rw [decide_eq_false h1,Zw5,Zy4,decide_eq_false h2,Zw5,decide_eq_true h3,Zv5,bad],?_⟩
   have:Z58 l i x=false:=by simp [Z58,h3]
   simp [Z68,this]
  rw [decide_eq_false h1,Zw5,Zy4,decide_eq_false h2,Zw5,decide_eq_false h3,Zw5]
  cases h4:riseB (lastP pre) x with
  | false=>
    right
    exact ⟨_,by rw [Bool.not_false,bad],by simp [Z68,h4]⟩
  | true=>
    obtain ⟨e,he1,he2⟩:=at_lt (l:=l) (i:=x.Peer) (by omega) (by omega)
    have hes:=hl.2 e (List.mem_iff_getElem?.2 ⟨_,he2⟩)
    have hsb:Z58 l i x=(Zw7 e i).isSome:=by
     rw [Z58,decide_eq_true (show 0≤x.Peer by omega),decide_eq_true (show x.Peer<l.length by omega),decide_eq_false h3,he2];simp
    rw [Bool.not_true]
    dsimp only [Z18]
    rw [Zw5,he1,Option.bind_some,s_Side e i (by omega),Option.bind_some]
    cases ho:Zw7 e i with
    | none=>
      right
      exact ⟨(.inr (Za8,false)),rfl,by rw [ho] at hsb;simp [Z68,hsb]⟩
    | some y=>
      left
      rw [ho] at hsb
      refine ⟨?_,by simp [Z68,hsb,h4,Zc8]⟩
      simp only [sideP,Bool.not_true,Zw5,Z08]
      rw [edgesD_snoc,Zt7,Z36 (by omega)]
      have:=Zd8 i pre
      by_cases h5:(i:Int)<x.Peer
      ·rw [decide_eq_true h5,Zv5,Z06 _ _ (by omega) (by simp;omega),Option.bind_some]
       simp
      ·rw [decide_eq_false h5,Zw5];simp
 ·dsimp only [Z28]
  rw [Z26,Zw5,Zz7,Z36 (by omega)]
  simp [Z68]
theorem s_Graph (l:List Diner) (hl:fewD l):Z48 l=some (Zb8 l):=by
 unfold Z48
 by_cases h64:64<l.length
 ·have:okG ⟨l.length,Z98 0 l⟩=false:=by simp [okG];omega
  rw [Zy4,decide_eq_true (by omega),Zv5]
  simp [Zb8,this,Za8]
 rw [Zy4,decide_eq_false (by omega),Zw5]
 refine (Zm7 l (Z38 l) (fun pre=>((pre.length:Int),Z98 0 pre)) (fun pre post=>some (if Z88 l pre.length post&&okG ⟨l.length,Z98 0 (pre++post)⟩ then (⟨l.length,Z98 0 (pre++post)⟩,true) else (Za8,false))) ?_ ?_).trans rfl
 ·intro pre d post h
  have hx:=Zo7 h
  have hm:=Zp7 h
  have hd:=Zq7 h
  dsimp only [Z38]
  rw [Z16 hx,Zv5,Zz5 hx,Option.bind_some,Zx5]
  by_cases h1:d.ID=pre.length
  ·rw [decide_eq_true h1,Zv5,s_Graph2 l hl pre.length d hd (by omega) _ (inner_len hl h)]
   cases h2:Z68 l pre.length none d.Sides with
   | true=>left;exact ⟨by rw [if_pos rfl,Zt7,Ze8];simp [Z98],by simp [Z88,h1,h2]⟩
   | false=>right;exact ⟨_,rfl,by simp [Z88,h2]⟩
  ·right
   exact ⟨_,by rw [decide_eq_false h1,Zw5];rfl,by simp [Z88,h1,Za8]⟩
 ·dsimp only [Z38]
  rw [Z26,Zw5,Zy7,Zy4,Zd7,Option.bind_some]
  simp only [Z88,List.append_nil,Bool.true_and]
  cases okG ⟨l.length,Z98 0 l⟩<;>rfl
set_option maxRecDepth 100000
set_option maxHeartbeats 4000000
@[go_sem] def e142:EC:=.seq (.reg [(Qx 3 66 8 0),(Qa 4 (.mv (.c .ff)))]) (.seq (.reg [(Qf 6 0 3),(Ql 7 6),(Ql 8 1),(Qa 9 (.bin .gtr (.t 7) (.t 8))),(Qm 10 9),(Qh 11 10 true 0 3),(Qn 12 10 true 11),(Qh 13 10 true 0 2),(Qn 14 10 true 13),(Qg 15 10 true (.bin .neq (.t 12) (.t 14))),(Qp 16 10 15),(Qm 5 16)]) (.seq (.reg [(Qf 17 0 3),(Ql 18 17),(Qs 1 1 18)]) (.seq (.reg [(Qm 19 5),(Qa 20 (.not (.t 19))),(Qm 21 20),(Qh 22 21 false 1 3),(Qn 23 21 false 22),(Qg 24 21 false (.bin .lss (.t 23) (.c (.iv 0)))),(Qq 25 21 24),(Qm 26 25),(Qh 27 26 false 1 3),(Qn 28 26 false 27),(Qg 29 26 false (.bin .gtr (.t 28) (.c (.iv 65535)))),(Qq 30 26 29),(Qm 31 30),(Qh 32 31 false 2 3),(Qn 33 31 false 32),(Qg 34 31 false (.bin .lss (.t 33) (.c (.iv 0)))),(Qq 35 31 34),(Qm 36 35),(Qh 37 36 false 2 3),(Qn 38 36 false 37),(Qg 39 36 false (.bin .gtr (.t 38) (.c (.iv 3)))),(Qq 40 36 39),(Qm 41 40),(Qh 42 41 false 4 3),(Qn 43 41 false 42),(Qg 44 41 false (.mv (.t 43))),(Qh 45 44 true 3 3),(Qn 46 44 true 45),(Qg 47 44 true (.not (.t 46))),(Qg 48 41 false (.pick (.t 44) (.t 47) (.c .ff))),(Qq 49 41 48),(Qm 4 49)]) (.ret))))
theorem ok142:FnOK Tryz.prog 142 Tryz.f142 e142 [.t 4] 3 47:=⟨by kernel_rfl,⟨_,rfl,by kernel_rfl⟩,by kernel_rfl,by kernel_rfl⟩
set_option maxRecDepth 100000
set_option maxHeartbeats 4000000
@[go_sem] def e99:EC:=.seq (.reg [(Qa 4 (.mv (.c .ff)))]) (.seq (.reg [(Qm 5 0),(Qm 6 1),(Qa 7 (.call 116 [(.t 5),(.t 6)])),(Qa 8 (.bin .geq (.t 7) (.c (.iv 0)))),(Qm 4 8)]) (.ret))
theorem ok99:FnOK Tryz.prog 99 Tryz.f99 e99 [.t 4] 2 7:=⟨by kernel_rfl,⟨_,rfl,by kernel_rfl⟩,by kernel_rfl,by kernel_rfl⟩
noncomputable def Zg8 (x1:(List Side)) (p1:(Side→Option Bool)):Option Bool:=
 (Zi6 x1 p1).bind fun x2=>
 some (decide (0≤x2))
theorem Zh8 (x1:(List Side)) (g1:Nat) (caps1:List AV) (p1:(Side→Option Bool)) (hc1:CloOK Tryz.prog g1 caps1 (fun z=>[.agg (Side.row z)]) p1 (fun z=>.bv z)) (r:Bool) (h:Zg8 x1 p1=some r):Zs2 Tryz.prog 99 [.sl 8 (List.map Side.row x1),.clo g1 caps1] (.bv r):=by
 refine Zw2 ok99 rfl rfl fun w0 H0=>?_
 rw [Zg8] at h
 refine Zn2 8 ?_;dsimp only [go_sem];refine An ?_;obtain ⟨x2,ex2,h⟩:=Bs h;refine Z13 trivial (Zj6 x1 _ _ p1 hc1 _ ex2) (hp:=(by first | rfl | simp [go_sem,hc1.pu])) (h:=?_);refine Zn2 3 ?_;dsimp only [go_sem];refine An ?_;exact Zq4 (res:=fun (r:Bool)=>.bv r) ok99 h
set_option maxRecDepth 100000
set_option maxHeartbeats 4000000
@[go_sem] def e101:EC:=.seq (.reg [(Qx 1 61 3 0),(Qi 2 0)]) (.seq (.reg [(Qa 3 (.alloc 3 [.iv 0])),(Qb (.store 1 (.t 3) (.c (.iv (-1)))))]) (.seq (.reg [(Qa 5 (.mkf 142 [(.t 3),(.t 1)])),(Qm 4 5)]) (.seq (.seq (.reg [(Qf 6 0 1),(Ql 7 6),(Qa 8 (.bin .lss (.t 7) (.c (.iv 0)))),(Qm 9 8),(Qh 10 9 false 1 1),(Qn 11 9 false 10),(Qg 12 9 false (.bin .lss (.t 11) (.c (.iv 0)))),(Qq 13 9 12),(Qm 14 13),(Qh 15 14 false 1 1),(Qn 16 14 false 15),(Qg 17 14 false (.bin .gtr (.t 16) (.c (.iv 2)))),(Qq 18 14 17),(Qm 19 18),(Qh 20 19 false 2 1),(Qn 21 19 false 20),(Qg 22 19 false (.len (.t 21))),(Qg 23 19 false (.bin .geq (.t 22) (.c (.iv 64)))),(Qq 24 19 23),(Qm 25 24),(Qh 26 25 false 2 1),(Qn 27 25 false 26),(Qg 28 25 false (.mv (.t 4))),(Qg 29 25 false (.call 99 [(.t 27),(.t 28)])),(Qq 30 25 29)]) (.ite (.t 30) (.seq (.reg [(Qi 2 130)]) (.ret)) (.skip))) (.seq (.reg [(Qi 2 0)]) (.ret)))))
theorem ok101:FnOK Tryz.prog 101 Tryz.f101 e101 [.t 2] 1 30:=⟨by kernel_rfl,⟨_,rfl,by kernel_rfl⟩,by kernel_rfl,by kernel_rfl⟩
noncomputable def Zi8:Bool→Option Bool
| x5=>
 some x5
noncomputable def Zj8 (x1:Side):Bool→Option Bool
| x4=>
 ifb (!x4) (
 Zi8 true) (
 ifb (decide (x1.Epoch<0)) (
 Zi8 true) (
 ifb (decide (65535<x1.Epoch)) (
 Zi8 true) (
 ifb (decide (x1.State<0)) (
 Zi8 true) (
 ifb (decide (3<x1.State)) (
 Zi8 true) (
 ifb x1.Dirty (
 Zi8 (!x1.Fork)) (
 Zi8 false))))))
noncomputable def Zk8 (x1:Side) (x2:Diner) (x3:Int):Option Bool:=
 ifb (decide (x3<x1.Peer)) (
 (Zj8 x1) (!decide (x1.Peer=x2.ID))) (
 (Zj8 x1) false)
theorem Zl8 (x1:Side) (x2:Diner) (x3:Int) (r:Bool) (h:Zk8 x1 x2 x3=some r):FunT Tryz.prog 142 [.agg [.iv x1.Peer,.iv x1.Epoch,.iv x1.State,.bv x1.Fork,.bv x1.Dirty,.bv x1.Token,.bv x1.Bottle,.bv x1.Ask],.ptr 1 0,.ptr 0 0] [some ⟨61,[.iv x2.ID,.iv x2.Phase,.sl 8 (List.map Side.row x2.Sides)]⟩,some ⟨3,[.iv x3]⟩] [] (.bv r) [some ⟨61,[.iv x2.ID,.iv x2.Phase,.sl 8 (List.map Side.row x2.Sides)]⟩,some ⟨3,[.iv x1.Peer]⟩] []:=by
 refine Zj5 ok142 rfl rfl rfl (by first | rfl | simp [go_sem]) fun w0 M0=>?_
 rw [Zk8] at h
 dsimp only [lun,List.cons_append,List.nil_append]
 refine Zn2 12 ?_;dsimp only [go_sem];refine An ?_;refine Zg4 (fun (x4:Bool)=>(⟨(.any :: .ptr 1 0 :: .any :: .ptr 2 0 :: .any :: .bv x4::an 44 []),[some ⟨61,[.iv x2.ID,.iv x2.Phase,.sl 8 (List.map Side.row x2.Sides)]⟩,some ⟨3,[.iv x3]⟩,some ⟨66,[.iv x1.Peer,.iv x1.Epoch,.iv x1.State,.bv x1.Fork,.bv x1.Dirty,.bv x1.Token,.bv x1.Bottle,.bv x1.Ask]⟩],[]⟩:St)) (Zj8 x1) r ?_ fun J1=>?_
 ·intro x4 h;rw [Zj8] at h;(try dsimp only);refine Zn2 11 ?_;dsimp only [go_sem];refine An ?_;refine Zg4 (fun (x5:Bool)=>(⟨(an 4 (.bv x5::an 45 [])),[some ⟨61,[.iv x2.ID,.iv x2.Phase,.sl 8 (List.map Side.row x2.Sides)]⟩,some ⟨3,[.iv x1.Peer]⟩],[]⟩:St)) Zi8 r ?_ fun J2=>?_
  ·intro x5 h;rw [Zi8] at h;(try dsimp only);obtain rfl:=Option.some.inj h;exact Zk5 ok142 rfl (by simp [go_sem])
  ·refine Zp4 21 h rfl (fun _ h=>?_) fun _ h=>?_
   ·dsimp only [go_sem];refine Zn2 30 ?_;dsimp only [go_sem];refine An ?_;exact Zs4 J2 (s:=true) h
   ·dsimp only [go_sem];refine Zn2 5 ?_;dsimp only [go_sem];refine An ?_;refine Zp4 26 h rfl (fun _ h=>?_) fun _ h=>?_
    ·dsimp only [go_sem];refine Zn2 25 ?_;dsimp only [go_sem];refine An ?_;exact Zs4 J2 (s:=true) h
    ·dsimp only [go_sem];refine Zn2 5 ?_;dsimp only [go_sem];refine An ?_;refine Zp4 31 h rfl (fun _ h=>?_) fun _ h=>?_
     ·dsimp only [go_sem];refine Zn2 20 ?_;dsimp only [go_sem];refine An ?_;exact Zs4 J2 (s:=true) h
     ·dsimp only [go_sem];refine Zn2 5 ?_;dsimp only [go_sem];refine An ?_;refine Zp4 36 h rfl (fun _ h=>?_) fun _ h=>?_
      ·dsimp only [go_sem];refine Zn2 15 ?_;dsimp only [go_sem];refine An ?_;exact Zs4 J2 (s:=true) h
      ·dsimp only [go_sem];refine Zn2 5 ?_;dsimp only [go_sem];refine An ?_;refine Zp4 41 h rfl (fun _ h=>?_) fun _ h=>?_
       ·dsimp only [go_sem];refine Zn2 10 ?_;dsimp only [go_sem];refine An ?_;exact Zs4 J2 (s:=true) h
       ·dsimp only [go_sem];refine Zn2 3 ?_;dsimp only [go_sem];refine An ?_;refine Zp4 44 h rfl (fun _ h=>?_) fun _ h=>?_
        ·dsimp only [go_sem];refine Zn2 7 ?_;dsimp only [go_sem];refine An ?_;exact Zs4 J2 (s:=!x1.Fork) h
        ·dsimp only [go_sem];refine Zn2 7 ?_;dsimp only [go_sem];refine An ?_;exact Zs4 J2 (s:=false) h
 ·refine Zp4 10 h rfl (fun _ h=>?_) fun _ h=>?_
  ·dsimp only [go_sem];refine Zn2 8 ?_;dsimp only [go_sem];refine An ?_;exact Zs4 J1 (s:=!decide (x1.Peer=x2.ID)) h
  ·dsimp only [go_sem];refine Zn2 8 ?_;dsimp only [go_sem];refine An ?_;exact Zs4 J1 (s:=false) h
noncomputable def Zm8:Int→Option (Int×Int)
| x19=>
 some ((-1),x19)
noncomputable def Zn8 (x1:(List Side)) (x2:Diner):(Int×Int)→Option ((Int×Int) ⊕ (Int×Int))
| (x8,x9)=>
 ifb (decide (x8<(ln Side.row x1))) (
 (at_ x1 x8).bind fun x10=>
 (Zk8 x10 x2 x9).bind fun x11=>
 ifb x11 (
 Option.map Sum.inr (some (x8,x10.Peer))) (
 some (.inl (wr (x8+1),x10.Peer)))) (
 Option.map Sum.inr (Zm8 x9))
noncomputable def Zo8 (x1:(List Side)) (x2:Diner) (x3:Int):Option (Int×Int):=
 loop (Zn8 x1 x2) (0,x3)
theorem Zp8 (x1:(List Side)) (x2:Diner) (x3:Int) (r:(Int×Int)) (h:Zo8 x1 x2 x3=some r):FunT Tryz.prog 116 [.sl 8 (List.map Side.row x1),.clo 142 [.ptr 1 0,.ptr 0 0]] [some ⟨61,[.iv x2.ID,.iv x2.Phase,.sl 8 (List.map Side.row x2.Sides)]⟩,some ⟨3,[.iv x3]⟩] [] (.iv r.1) [some ⟨61,[.iv x2.ID,.iv x2.Phase,.sl 8 (List.map Side.row x2.Sides)]⟩,some ⟨3,[.iv r.2]⟩] []:=by
 refine Zj5 ok116 rfl rfl rfl (by first | rfl | simp [go_sem]) fun w0 M0=>?_
 rw [Zo8] at h
 dsimp only [lun,List.cons_append,List.nil_append]
 refine Zn2 11 ?_;dsimp only [go_sem];refine An ?_;refine Zg4 (fun (x19:Int)=>(⟨(an 19 []),[some ⟨61,[.iv x2.ID,.iv x2.Phase,.sl 8 (List.map Side.row x2.Sides)]⟩,some ⟨3,[.iv x19]⟩],[]⟩:St)) Zm8 r ?_ fun J1=>?_
 ·intro x19 h;rw [Zm8] at h;(try dsimp only);refine Zn2 4 ?_;dsimp only [go_sem];refine An ?_;obtain rfl:=Option.some.inj h;exact Zk5 ok116 rfl (by simp [go_sem])
 ·refine Zn2 1 ?_;dsimp only [go_sem];refine An ?_;refine Zh4 h (fun ((x8,x9):(Int×Int))=>(⟨(.sl 8 (List.map Side.row x1) :: .clo 142 [.ptr 1 0,.ptr 0 0]::an 5 (.iv (ln Side.row x1) :: .iv x8::an 10 [])),[some ⟨61,[.iv x2.ID,.iv x2.Phase,.sl 8 (List.map Side.row x2.Sides)]⟩,some ⟨3,[.iv x9]⟩],[]⟩:St)) (by simp [go_sem]) (by rintro ⟨x8,x9⟩;first | rfl | simp [go_sem]) ?_;rintro n1 ⟨x8,x9⟩ y1 h hin1 hout1;rw [Zn8] at h;(try dsimp only);refine Zn2 5 ?_;dsimp only [go_sem];refine An ?_
  refine Zi4 h rfl (fun _ h=>?_) fun _ h=>?_
  ·refine Zn2 13 ?_;dsimp only [go_sem];refine An ?_;obtain ⟨x10,ex10,h⟩:=Bs h;refine Zl4 Side.row ex10 trivial rfl rfl rfl ?_;refine Zn2 1 ?_;dsimp only [go_sem];refine An ?_;obtain ⟨x11,ex11,h⟩:=Bs h;refine Zn5 [true,true] [] trivial rfl (Zl8 x10 x2 x9 _ ex11) (by kernel_rfl) (h:=?_);dsimp only [go_sem];refine Zn2 1 ?_;dsimp only [go_sem];refine An ?_;refine Zi4 h rfl (fun _ h=>?_) fun _ h=>?_
   ·refine Zn2 5 ?_;dsimp only [go_sem];refine An ?_;obtain rfl:=Option.some.inj (Zf4 h hout1);exact Zk5 ok116 rfl (by simp [go_sem])
   ·refine Zn2 6 ?_;dsimp only [go_sem];refine An ?_;exact Zr4 h hin1
  ·refine Zn2 1 ?_;dsimp only [go_sem];refine An ?_;exact Zs4 J1 (s:=x9) (Zf4 h hout1)
noncomputable def Zq8 (x1:(List Side)) (x2:Diner) (x3:Int):Option (Bool×Int):=
 (Zo8 x1 x2 x3).bind fun x4=>
 some (decide (0≤x4.1),x4.2)
theorem Zr8 (x1:(List Side)) (x2:Diner) (x3:Int) (r:(Bool×Int)) (h:Zq8 x1 x2 x3=some r):FunT Tryz.prog 99 [.sl 8 (List.map Side.row x1),.clo 142 [.ptr 1 0,.ptr 0 0]] [some ⟨61,[.iv x2.ID,.iv x2.Phase,.sl 8 (List.map Side.row x2.Sides)]⟩,some ⟨3,[.iv x3]⟩] [] (.bv r.1) [some ⟨61,[.iv x2.ID,.iv x2.Phase,.sl 8 (List.map Side.row x2.Sides)]⟩,some ⟨3,[.iv r.2]⟩] []:=by
 refine Zj5 ok99 rfl rfl rfl (by first | rfl | simp [go_sem]) fun w0 M0=>?_
 rw [Zq8] at h
 dsimp only [lun,List.cons_append,List.nil_append]
 refine Zn2 8 ?_;dsimp only [go_sem];refine An ?_;obtain ⟨x4,ex4,h⟩:=Bs h;refine Zm5 [true,true] [] trivial (Zp8 x1 x2 x3 _ ex4) (h:=?_);dsimp only [go_sem];refine Zn2 3 ?_;dsimp only [go_sem];refine An ?_;obtain rfl:=Option.some.inj h;exact Zk5 ok99 rfl (by simp [go_sem])
noncomputable def Zs8:Bool→Option Int
| x3=>
 ifb x3 (
 some 130) (
 some 0)
noncomputable def Zt8 (x1:Diner):Option Int:=
 ifb (decide (x1.ID<0)) (
 Zs8 true) (
 ifb (decide (x1.Phase<0)) (
 Zs8 true) (
 ifb (decide (2<x1.Phase)) (
 Zs8 true) (
 ifb (decide (64≤(ln Side.row x1.Sides))) (
 Zs8 true) (
 (Zq8 x1.Sides x1 ((-1))).bind fun x2=>
 Zs8 x2.1))))
theorem Zu8 (x1:Diner) (r:Int) (h:Zt8 x1=some r):Zs2 Tryz.prog 101 [.agg (Diner.row x1)] (.iv r):=by
 refine Zw2 ok101 rfl rfl fun w0 H0=>?_
 rw [Zt8] at h
 refine Zn2 22 ?_;dsimp only [go_sem];refine An ?_;refine Zg4 (fun (x3:Bool)=>(⟨(an 30 [.bv x3]),[],[]⟩:St)) Zs8 r ?_ fun J1=>?_
 ·intro x3 h;rw [Zs8] at h;(try dsimp only);refine Zi4 h rfl (fun _ h=>?_) fun _ h=>?_
  ·refine Zn2 4 ?_;dsimp only [go_sem];refine An ?_;exact Zq4 (res:=fun (r:Int)=>.iv r) ok101 h
  ·refine Zn2 5 ?_;dsimp only [go_sem];refine An ?_;exact Zq4 (res:=fun (r:Int)=>.iv r) ok101 h
 ·refine Zp4 9 h rfl (fun _ h=>?_) fun _ h=>?_
  ·dsimp only [go_sem];refine Zn2 22 ?_;dsimp only [go_sem];refine An ?_;exact Zs4 J1 (s:=true) h
  ·dsimp only [go_sem];refine Zn2 5 ?_;dsimp only [go_sem];refine An ?_;refine Zp4 14 h rfl (fun _ h=>?_) fun _ h=>?_
   ·dsimp only [go_sem];refine Zn2 17 ?_;dsimp only [go_sem];refine An ?_;exact Zs4 J1 (s:=true) h
   ·dsimp only [go_sem];refine Zn2 5 ?_;dsimp only [go_sem];refine An ?_;refine Zp4 19 h rfl (fun _ h=>?_) fun _ h=>?_
    ·dsimp only [go_sem];refine Zn2 12 ?_;dsimp only [go_sem];refine An ?_;exact Zs4 J1 (s:=true) h
    ·dsimp only [go_sem];refine Zn2 6 ?_;dsimp only [go_sem];refine An ?_;refine Zp4 25 h rfl (fun _ h=>?_) fun _ h=>?_
     ·dsimp only [go_sem];refine Zn2 6 ?_;dsimp only [go_sem];refine An ?_;exact Zs4 J1 (s:=true) h
     ·dsimp only [go_sem];refine Zn2 3 ?_;dsimp only [go_sem];refine An ?_;obtain ⟨x2,ex2,h⟩:=Bs h;refine Zm5 [true,true] [] trivial (Zr8 x1.Sides x1 ((-1)) _ ex2) (h:=?_);dsimp only [go_sem];refine Zn2 2 ?_;dsimp only [go_sem];refine An ?_;exact Zs4 J1 (s:=x2.1) h
set_option maxRecDepth 100000
set_option maxHeartbeats 4000000
@[go_sem] def e158:EC:=.seq (.reg [(Qx 3 66 8 0),(Qa 4 (.mv (.c .ff)))]) (.seq (.reg [(Qf 5 0 3),(Ql 6 5),(Ql 7 1),(Qa 8 (.bin .eql (.t 6) (.t 7))),(Qm 9 8),(Qh 10 9 true 1 3),(Qn 11 9 true 10),(Qh 12 9 true 1 2),(Qn 13 9 true 12),(Qg 14 9 true (.bin .eql (.t 11) (.t 13))),(Qp 15 9 14),(Qm 4 15)]) (.ret))
theorem ok158:FnOK Tryz.prog 158 Tryz.f158 e158 [.t 4] 3 13:=⟨by kernel_rfl,⟨_,rfl,by kernel_rfl⟩,by kernel_rfl,by kernel_rfl⟩
noncomputable def Zv8:Bool→Option Bool
| x4=>
 some x4
noncomputable def Zw8 (x1:Side) (x2:Int) (x3:Msg):Option Bool:=
 ifb (decide (x1.Peer=x2)) (
 Zv8 (decide (x1.Epoch=x3.Epoch))) (
 Zv8 false)
theorem k_dine_Get_1 (x1:Side) (x2:Int) (x3:Msg) (r:Bool) (h:Zw8 x1 x2 x3=some r):Zs2 Tryz.prog 158 [.agg (Side.row x1),.elt (Zw4 x2) 0,.elt (Msg.row x3) 0] (.bv r):=by
 refine Zw2 ok158 rfl rfl fun w0 H0=>?_
 rw [Zw8] at h
 refine Zn2 12 ?_;dsimp only [go_sem];refine An ?_;refine Zg4 (fun (x4:Bool)=>(⟨(an 4 (.bv x4::an 11 [])),[],[]⟩:St)) Zv8 r ?_ fun J1=>?_
 ·intro x4 h;rw [Zv8] at h;(try dsimp only);exact Zq4 (res:=fun (r:Bool)=>.bv r) ok158 h
 ·refine Zp4 9 h rfl (fun _ h=>?_) fun _ h=>?_
  ·dsimp only [go_sem];refine Zn2 8 ?_;dsimp only [go_sem];refine An ?_;exact Zs4 J1 (s:=decide (x1.Epoch=x3.Epoch)) h
  ·dsimp only [go_sem];refine Zn2 8 ?_;dsimp only [go_sem];refine An ?_;exact Zs4 J1 (s:=false) h
set_option maxRecDepth 100000
set_option maxHeartbeats 4000000
@[go_sem] def e72:EC:=.seq (.reg [(Qa 2 (.mv (.c .nl)))]) (.seq (.seq (.reg [(Qm 3 0),(Qa 4 (.isnil false (.t 3)))]) (.ite (.t 4) (.seq (.reg [(Qa 2 (.mv (.c .nl)))]) (.ret)) (.skip))) (.seq (.reg [(Qa 5 (.bsl 66 8 0 [.iv 0,.iv 0,.iv 0,.ff,.ff,.ff,.ff,.ff] [])),(Qm 6 0),(Qa 7 (.app 66 8 32 (.t 5) (.t 6))),(Qm 2 7)]) (.ret)))
theorem ok72:FnOK Tryz.prog 72 Tryz.f72 e72 [.t 2] 1 7:=⟨by kernel_rfl,⟨_,rfl,by kernel_rfl⟩,by kernel_rfl,by kernel_rfl⟩
noncomputable def Zx8 (x1:(List Side)):Option (List Side):=Zb4 32 [] x1
theorem Zy8 (x1:(List Side)) (r:(List Side)) (h:Zx8 x1=some r):FunO Tryz.prog 72 [.sl 8 (List.map Side.row x1)] 66 8 (List.map Side.row r):=by
 refine Z35 ok72 rfl fun w0 H0=>?_
 rw [Zx8] at h
 refine Zn2 100 ?_
 dsimp only [e72,go_sem]
 refine ⟨by simp,?_⟩
 refine V_isnil trivial rfl (fun hn=>?_) ?_
 ·refine Zn2 100 ?_
  dsimp only [go_sem]
  refine ⟨by simp,?_⟩
  refine V_own 2 66 8 rfl rfl ?_
  dsimp only [go_sem]
  have hn:x1=[]:=by simpa using hn
  subst hn
  exact Z85 Side.row (e:=[]) ok72 (by simpa [Zb4] using h) rfl rfl
 ·refine Zn2 100 ?_
  dsimp only [go_sem]
  refine ⟨by simp,?_⟩
  refine Zn4 Side.row h trivial rfl rfl rfl ?_
  refine Zn2 100 ?_
  dsimp only [go_sem]
  refine ⟨by simp,?_⟩
  exact Z85 Side.row ok72 (rfl:some r=some r) rfl rfl
set_option maxRecDepth 100000
set_option maxHeartbeats 4000000
@[go_sem] def e138:EC:=.seq (.reg [(Qx 3 61 3 0),(Qx 4 3 1 1),(Qx 5 93 3 2),(Qa 6 (.alloc 61 [.iv 0,.iv 0,.nl])),(Qi 7 0)]) (.seq (.seq (.reg [(Qe 12 3 3),(Qa 13 (.call 101 [(.t 12)])),(Qm 8 13)]) (.seq (.reg [(Qm 14 8),(Qa 15 (.bin .neq (.t 14) (.c (.iv 0))))]) (.ite (.t 15) (.seq (.reg [(Qa 16 (.build [.iv 0,.iv 0,.nl] [])),(Qm 17 8),(Qs 3 6 16),(Qm 7 17)]) (.ret)) (.skip)))) (.seq (.reg [(Qf 18 2 3),(Ql 19 18),(Qa 20 (.mkf 158 [(.t 4),(.t 5)])),(Qa 21 (.call 116 [(.t 19),(.t 20)])),(Qm 9 21)]) (.seq (.seq (.reg [(Qm 22 9),(Qa 23 (.bin .lss (.t 22) (.c (.iv 0))))]) (.ite (.t 23) (.seq (.reg [(Qa 24 (.build [.iv 0,.iv 0,.nl] [])),(Qs 3 6 24),(Qi 7 131)]) (.ret)) (.skip))) (.seq (.reg [(Qf 25 2 3),(Ql 26 25),(Qa 27 (.call 72 [(.t 26)])),(Qf 28 2 3),(Qs 1 28 27)]) (.seq (.reg [(Qf 29 2 3),(Ql 30 29),(Qm 31 9),(Qk 32 8 30 31),(Qm 10 32)]) (.seq (.reg [(Qa 11 (.mv (.c .ff)))]) (.seq (.blk 0 (.seq (.reg [(Qf 35 0 5),(Ql 36 35),(Qa 37 (.bin .eql (.t 36) (.c (.iv 1)))),(Qm 38 37),(Qh 39 38 true 2 5),(Qn 40 38 true 39),(Qg 41 38 true (.bin .eql (.t 40) (.c (.iv 0)))),(Qp 42 38 41),(Qm 34 42)]) (.ite (.t 34) (.reg [(Qm 43 10),(Qm 44 10),(Qa 45 (.nilchk (.t 44))),(Qf 46 3 45),(Ql 47 46),(Qm 11 47),(Qa 48 (.nilchk (.t 43))),(Qf 49 3 48),(Qb (.store 1 (.t 49) (.c .tt)))]) (.seq (.reg [(Qf 51 0 5),(Ql 52 51),(Qa 53 (.bin .eql (.t 52) (.c (.iv 2)))),(Qm 54 53),(Qh 55 54 true 2 5),(Qn 56 54 true 55),(Qg 57 54 true (.bin .eql (.t 56) (.c (.iv 0)))),(Qp 58 54 57),(Qm 50 58)]) (.ite (.t 50) (.reg [(Qm 59 10),(Qm 60 10),(Qa 61 (.nilchk (.t 60))),(Qf 62 5 61),(Ql 63 62),(Qm 11 63),(Qa 64 (.nilchk (.t 59))),(Qf 65 5 64),(Qb (.store 1 (.t 65) (.c .tt)))]) (.seq (.reg [(Qa 33 (.build [.iv 0,.iv 0,.nl] [])),(Qs 3 6 33),(Qi 7 133)]) (.ret))))))) (.seq (.seq (.reg [(Qm 66 11)]) (.ite (.t 66) (.seq (.reg [(Qa 67 (.build [.iv 0,.iv 0,.nl] [])),(Qs 3 6 67),(Qi 7 132)]) (.ret)) (.skip))) (.seq (.reg [(Qe 68 3 3),(Qs 3 6 68),(Qi 7 0)]) (.ret))))))))))
theorem ok138:FnOK Tryz.prog 138 Tryz.f138 e138 [.c 6 (some 3),.t 7] 3 66:=⟨by kernel_rfl,⟨_,rfl,by kernel_rfl⟩,by kernel_rfl,by kernel_rfl⟩
noncomputable def Zz8 (x1:Diner):(Bool×(List Side))→Option (Diner×Int)
| (x10,x11)=>
 ifb x10 (
 some ((Diner.mk 0 0 (([]:(List Side)))),132)) (
 some ((Diner.mk x1.ID x1.Phase x11),0))
noncomputable def Z09 (x1:Diner) (x5:Int) (x6:(List Side)) (x7:Side):Bool→Option (Diner×Int)
| x9=>
 ifb x9 (
 (Zz8 x1) (x7.Token,x6.set (x5).toNat ((Side.mk x7.Peer x7.Epoch x7.State x7.Fork x7.Dirty true x7.Bottle x7.Ask)))) (
 some ((Diner.mk 0 0 (([]:(List Side)))),133))
noncomputable def Z19 (x1:Diner) (x3:Msg) (x5:Int) (x6:(List Side)) (x7:Side):Bool→Option (Diner×Int)
| x8=>
 ifb x8 (
 (Zz8 x1) (x7.Fork,x6.set (x5).toNat ((Side.mk x7.Peer x7.Epoch x7.State true x7.Dirty x7.Token x7.Bottle x7.Ask)))) (
 ifb (decide (x3.Kind=2)) (
 (Z09 x1 x5 x6 x7) (decide (x3.Num=0))) (
 (Z09 x1 x5 x6 x7) false))
noncomputable def Z29 (x1:Diner) (x2:Int) (x3:Msg):Option (Diner×Int):=
 (Zt8 x1).bind fun x4=>
 ifb (!decide (x4=0)) (
 some ((Diner.mk 0 0 (([]:(List Side)))),x4)) (
 (Zi6 x1.Sides ((fun z=>Zw8 z x2 x3))).bind fun x5=>
 ifb (decide (x5<0)) (
 some ((Diner.mk 0 0 (([]:(List Side)))),131)) (
 (Zx8 x1.Sides).bind fun x6=>
 (at_ x6 x5).bind fun x7=>
 ifb (decide (x3.Kind=1)) (
 (Z19 x1 x3 x5 x6 x7) (decide (x3.Num=0))) (
 (Z19 x1 x3 x5 x6 x7) false)))
theorem k_dine_Get (x1:Diner) (x2:Int) (x3:Msg) (r:(Diner×Int)) (h:Z29 x1 x2 x3=some r):Zs2 Tryz.prog 138 [.agg (Diner.row x1),.iv x2,.agg (Msg.row x3)] (.tup [.agg (Diner.row r.1),.iv r.2]):=by
 refine Zw2 ok138 rfl rfl fun w0 H0=>?_
 rw [Z29] at h
 refine Zn2 12 ?_;dsimp only [go_sem];refine An ?_;obtain ⟨x4,ex4,h⟩:=Bs h;refine Z13 trivial (Zu8 x1 _ ex4) (h:=?_);refine Zn2 7 ?_;dsimp only [go_sem];refine An ?_;refine Zi4 h rfl (fun _ h=>?_) fun _ h=>?_
 ·refine Zn2 7 ?_;dsimp only [go_sem];refine An ?_;exact Zq4 (res:=fun (r:(Diner×Int))=>.tup [.agg (Diner.row r.1),.iv r.2]) ok138 h
 ·refine Zn2 6 ?_;dsimp only [go_sem];refine An ?_;obtain ⟨x5,ex5,h⟩:=Bs h;refine Zu4 trivial (((Zt4.refl _).block 1 rfl rfl).block 2 rfl rfl) (Zj6 x1.Sides _ _ ((fun z=>Zw8 z x2 x3)) ⟨by kernel_rfl,rfl,fun z r hz=>k_dine_Get_1 z x2 x3 r hz⟩ _ ex5) (h:=?_);refine Zn2 8 ?_;dsimp only [go_sem];refine An ?_;refine Zi4 h rfl (fun _ h=>?_) fun _ h=>?_
  ·refine Zn2 6 ?_;dsimp only [go_sem];refine An ?_;exact Zq4 (res:=fun (r:(Diner×Int))=>.tup [.agg (Diner.row r.1),.iv r.2]) ok138 h
  ·refine Zn2 5 ?_;dsimp only [go_sem];refine An ?_;obtain ⟨x6,ex6,h⟩:=Bs h;refine Z45 trivial (Zy8 x1.Sides _ ex6) (h:=?_);refine Zn2 8 ?_;dsimp only [go_sem];refine An ?_;obtain ⟨x7,ex7,h⟩:=Bs h;refine Z95 Side.row ex7 trivial rfl rfl rfl ?_;refine Zn2 14 ?_;dsimp only [go_sem];refine An ?_
   refine Zg4 (fun (x8:Bool)=>(⟨(an 3 (.ptr 0 0 :: .any :: .ptr 2 0 :: .ptr 3 0::an 3 (.oel 0 ((x5).toNat*8) 0::an 23 (.bv x8::an 34 [])))),[some ⟨61,[.iv x1.ID,.iv x1.Phase,.osl 0]⟩,none,some ⟨93,[.iv x3.Kind,.iv x3.Epoch,.iv x3.Num]⟩,some ⟨61,[.iv 0,.iv 0,.nl]⟩],[some ⟨66,8,List.map Side.row x6⟩]⟩:St)) (Z19 x1 x3 x5 x6 x7) r ?_ fun J1=>?_
   ·intro x8 h;rw [Z19] at h;(try dsimp only);refine Zg4 (fun ((x10,x11):(Bool×(List Side)))=>(⟨(an 3 (.ptr 0 0 :: .any :: .any :: .ptr 3 0::an 4 (.bv x10::an 57 []))),[some ⟨61,[.iv x1.ID,.iv x1.Phase,.osl 0]⟩,none,none,some ⟨61,[.iv 0,.iv 0,.nl]⟩],[some ⟨66,8,List.map Side.row x11⟩]⟩:St)) (Zz8 x1) r ?_ fun J2=>?_
    ·rintro ⟨x10,x11⟩ h;rw [Zz8] at h;(try dsimp only);refine Zn2 6 ?_;dsimp only [go_sem];refine An ?_;refine Zi4 h rfl (fun _ h=>?_) fun _ h=>?_
     ·refine Zn2 6 ?_;dsimp only [go_sem];refine An ?_;exact Zq4 (res:=fun (r:(Diner×Int))=>.tup [.agg (Diner.row r.1),.iv r.2]) ok138 h
     ·refine Zn2 7 ?_;dsimp only [go_sem];refine An ?_;refine Za3 0 rfl ?_;dsimp only [go_sem];exact Zq4 (res:=fun (r:(Diner×Int))=>.tup [.agg (Diner.row r.1),.iv r.2]) ok138 h
    ·refine Zi4 h rfl (fun _ h=>?_) fun _ h=>?_
     ·refine Zn2 5 ?_;dsimp only [go_sem];refine An ?_;refine Za5 Side.row ex7 trivial rfl rfl rfl ?_;refine Zn2 3 ?_;dsimp only [go_sem];refine An ?_;refine Ze5 [.bv true] Side.row (y':=(Side.mk x7.Peer x7.Epoch x7.State true x7.Dirty x7.Token x7.Bottle x7.Ask)) ex7 trivial rfl rfl rfl (by first | exact Za4 _ | simp [go_sem]) rfl rfl rfl rfl ?_;refine Zn2 1 ?_;dsimp only [go_sem];refine An ?_;exact Zs4 J2 (s:=(x7.Fork,x6.set (x5).toNat ((Side.mk x7.Peer x7.Epoch x7.State true x7.Dirty x7.Token x7.Bottle x7.Ask)))) h
     ·refine Zn2 6 ?_;dsimp only [go_sem];refine An ?_;refine Zg4 (fun (x9:Bool)=>(⟨(an 3 (.ptr 0 0 :: .any :: .any :: .ptr 3 0::an 3 (.oel 0 ((x5).toNat*8) 0::an 39 (.bv x9::an 18 [])))),[some ⟨61,[.iv x1.ID,.iv x1.Phase,.osl 0]⟩,none,none,some ⟨61,[.iv 0,.iv 0,.nl]⟩],[some ⟨66,8,List.map Side.row x6⟩]⟩:St)) (Z09 x1 x5 x6 x7) r ?_ fun J3=>?_
      ·intro x9 h;rw [Z09] at h;(try dsimp only);refine Zi4 h rfl (fun _ h=>?_) fun _ h=>?_
       ·refine Zn2 5 ?_;dsimp only [go_sem];refine An ?_;refine Za5 Side.row ex7 trivial rfl rfl rfl ?_;refine Zn2 3 ?_;dsimp only [go_sem];refine An ?_;refine Ze5 [.bv true] Side.row (y':=(Side.mk x7.Peer x7.Epoch x7.State x7.Fork x7.Dirty true x7.Bottle x7.Ask)) ex7 trivial rfl rfl rfl (by first | exact Za4 _ | simp [go_sem]) rfl rfl rfl rfl ?_;refine Zn2 1 ?_;dsimp only [go_sem];refine An ?_;exact Zs4 J2 (s:=(x7.Token,x6.set (x5).toNat ((Side.mk x7.Peer x7.Epoch x7.State x7.Fork x7.Dirty true x7.Bottle x7.Ask)))) h
       ·refine Zn2 6 ?_;dsimp only [go_sem];refine An ?_;exact Zq4 (res:=fun (r:(Diner×Int))=>.tup [.agg (Diner.row r.1),.iv r.2]) ok138 h
      ·refine Zp4 54 h rfl (fun _ h=>?_) fun _ h=>?_
       ·dsimp only [go_sem];refine Zn2 6 ?_;dsimp only [go_sem];refine An ?_;exact Zs4 J3 (s:=decide (x3.Num=0)) h
       ·dsimp only [go_sem];refine Zn2 6 ?_;dsimp only [go_sem];refine An ?_;exact Zs4 J3 (s:=false) h
   ·refine Zp4 38 h rfl (fun _ h=>?_) fun _ h=>?_
    ·dsimp only [go_sem];refine Zn2 6 ?_;dsimp only [go_sem];refine An ?_;exact Zs4 J1 (s:=decide (x3.Num=0)) h
    ·dsimp only [go_sem];refine Zn2 6 ?_;dsimp only [go_sem];refine An ?_;exact Zs4 J1 (s:=false) h
def Z39 (id q:Int) (x:Side):Bool:=decide (q<x.Peer)&&(!decide (x.Peer=id)&&(decide (0≤x.Epoch)&&(decide (x.Epoch≤65535)&&(decide (0≤x.State)&&(decide (x.State≤3)&&!(x.Dirty&&!x.Fork))))))
def Z49 (id:Int):Int→List Side→Bool
 | _,[]=>true
 | q,x::r=>Z39 id q x&&Z49 id x.Peer r
def okD (d:Diner):Bool:=decide (0≤d.ID)&&(decide (0≤d.Phase)&&(decide (d.Phase≤2)&&(decide (d.Sides.length<64)&&Z49 d.ID (-1) d.Sides)))
theorem s_odd (x:Side) (d:Diner) (q:Int):Zk8 x d q=some (!Z39 d.ID q x):=by
 simp only [Zk8,Zj8,Zi8,Z39]
 by_cases h1:q<x.Peer
 ·by_cases h2:x.Peer=d.ID
  ·have h1':q<d.ID:=h2 ▸ h1
   simp [h2,h1']
  ·by_cases h3:x.Epoch<0
   ·have:¬0≤x.Epoch:=by omega
    simp [h1,h2,h3,this]
   ·have h3':0≤x.Epoch:=by omega
    by_cases h4:65535<x.Epoch
    ·have:¬x.Epoch≤65535:=by omega
     simp [h1,h2,h3,h4,this]
    ·have h4':x.Epoch≤65535:=by omega
     by_cases h5:x.State<0
     ·have:¬0≤x.State:=by omega
      simp [h1,h2,h3,h4,h5,this]
     ·have h5':0≤x.State:=by omega
      by_cases h6:3<x.State
      ·have:¬x.State≤3:=by omega
       simp [h1,h2,h3,h4,h5,h6,this]
      ·have h6':x.State≤3:=by omega
       simp only [h1,h2,h3,h4,h5,h6,h3',h4',h5',h6',decide_true,decide_false,Zv5,Zw5,Bool.not_true,Bool.not_false,Bool.true_and]
       cases x.Dirty<;>cases x.Fork<;>rfl
 ·simp [h1]
def Z59 (id:Int):Nat→Int→List Side→Int×Int
 | _,q,[]=>(-1,q)
 | k,q,x::r=>if Z39 id q x then Z59 id (k+1) x.Peer r else (k,x.Peer)
theorem scanD_ok (id:Int):∀(l:List Side) (k:Nat) (q:Int),decide (0≤(Z59 id k q l).1)=!Z49 id q l
 | [],k,q=>by simp [Z59,Z49]
 | x::r,k,q=>by
   by_cases h:Z39 id q x=true
   ·have e1:Z59 id k q (x::r)=Z59 id (k+1) x.Peer r:=by simp [Z59,h]
    rw [e1,scanD_ok id r (k+1) x.Peer]
    simp [Z49,h]
   ·have h':Z39 id q x=false:=by simpa using h
    have e1:Z59 id k q (x::r)=((k:Int),x.Peer):=by simp [Z59,h']
    rw [e1]
    simp [Z49,h']
def lastQ (q:Int) (pre:List Side):Int:=match pre.getLast? with | some x=>x.Peer | none=>q
theorem Z69 (q:Int) (pre:List Side) (x:Side):lastQ q (pre++[x])=x.Peer:=by simp [lastQ]
theorem Z79 (d:Diner):Zt8 d=some (if okD d then 0 else 130):=by
 simp only [Zt8,Zs8,okD]
 by_cases h1:d.ID<0
 ·have:¬0≤d.ID:=by omega
  simp [h1,this]
 have h1':0≤d.ID:=by omega
 by_cases h2:d.Phase<0
 ·have:¬0≤d.Phase:=by omega
  simp [h1,h2,this]
 have h2':0≤d.Phase:=by omega
 by_cases h3:2<d.Phase
 ·have:¬d.Phase≤2:=by omega
  simp [h1,h2,h3,this]
 have h3':d.Phase≤2:=by omega
 by_cases h4:64≤d.Sides.length
 ·have h4':(64:Int)≤ln Side.row d.Sides:=by rw [Zy4];omega
  have:¬d.Sides.length<64:=by omega
  simp [h1,h2,h3,h4',this]
 have h4':¬(64:Int)≤ln Side.row d.Sides:=by rw [Zy4];omega
 have h4'':d.Sides.length<64:=by omega
 simp only [h1,h2,h3,h4',h1',h2',h3',h4'',decide_true,decide_false,Zw5,Bool.true_and]
 have key:Zo8 d.Sides d (-1)=some (Z59 d.ID 0 (-1) d.Sides):=by
  unfold Zo8
  refine Zm7 d.Sides _ (fun pre=>((pre.length:Int),lastQ (-1) pre)) (fun pre post=>some (Z59 d.ID pre.length (lastQ (-1) pre) post)) (fun pre x post h=>?_) ?_
  ·have hx:=Zo7 h
   have hm:=Zp7 h
   dsimp only [Zn8]
   rw [Z16 hx,Zv5,Zz5 hx,Option.bind_some,s_odd,Option.bind_some,Zx5]
   cases hs:Z39 d.ID (lastQ (-1) pre) x with
   | true=>
     left
     exact ⟨by rw [Zv5,Zt7,Z69,Z36 (by omega)],by simp [Z59,hs,Z69]⟩
   | false=>
     right
     exact ⟨_,rfl,by simp [Z59,hs]⟩
  ·dsimp only [Zn8]
   rw [Z26,Zw5];rfl
 simp only [Zq8,key,Option.bind_some,scanD_ok]
 cases Z49 d.ID (-1) d.Sides<;>rfl
theorem Z89 (l:List Side) (hl:l.length≤1000000):Zx8 l=some l:=by
 simp only [Zx8]
 rw [Z06 _ _ (by omega) (by simp;omega)];rfl
theorem Z99 {d:Diner} (h:okD d=true):d.Sides.length<64:=by
 simp only [okD,Bool.and_eq_true,decide_eq_true_eq] at h;exact h.2.2.2.1
def Za9:Diner:=⟨0,0,[]⟩
def turnD (d:Diner) (a b:Int):Diner×Int:=if okD d then (if d.Phase=a then (⟨d.ID,b,d.Sides⟩,0) else (Za9,134)) else (Za9,130)
def Zb9 (ph:Int) (x:Side):Side:=if x.Fork&&(x.Dirty&&(x.Token&&!decide (ph=2))) then {x with Fork:=false,Dirty:=false} else x
def Zc9 (ph:Int) (x:Side):Side:=if decide (ph=1)&&((Zb9 ph x).Token&&!(Zb9 ph x).Fork) then {Zb9 ph x with Token:=false} else Zb9 ph x
def Zd9 (id ph:Int) (x:Side):List Mail:=
 (if x.Fork&&(x.Dirty&&(x.Token&&!decide (ph=2))) then [⟨id,x.Peer,⟨1,x.Epoch,0⟩⟩] else []) ++
 (if decide (ph=1)&&((Zb9 ph x).Token&&!(Zb9 ph x).Fork) then [⟨id,x.Peer,⟨2,x.Epoch,0⟩⟩] else [])
def Ze9 (x:Side):Side:= {x with Dirty:=true}
def Zf9 (d:Diner):Diner:=if decide (d.Phase=1)&&(d.Sides.map (Zc9 d.Phase)).all (·.Fork) then ⟨d.ID,2,(d.Sides.map (Zc9 d.Phase)).map Ze9⟩ else ⟨d.ID,d.Phase,d.Sides.map (Zc9 d.Phase)⟩
def Zg9 (d:Diner):List Mail:=d.Sides.flatMap (Zd9 d.ID d.Phase)
theorem fireM_len (id ph:Int) (x:Side):(Zd9 id ph x).length≤2:=by
 unfold Zd9
 rw [List.length_append]
 have h1:∀(c:Bool) (m:Mail),(if c then [m] else []).length≤1:=by intro c m;cases c<;>simp
 have:=h1 (x.Fork&&(x.Dirty&&(x.Token&&!decide (ph=2)))) ⟨id,x.Peer,⟨1,x.Epoch,0⟩⟩
 have:=h1 (decide (ph=1)&&((Zb9 ph x).Token&&!(Zb9 ph x).Fork)) ⟨id,x.Peer,⟨2,x.Epoch,0⟩⟩
 omega
theorem Zh9 (l:List Side) (id ph:Int):(l.flatMap (Zd9 id ph)).length≤2*l.length:=by
 induction l with
 | nil=>simp
 | cons x l ih=>have:=fireM_len id ph x;rw [List.flatMap_cons,List.length_append,List.length_cons];omega
def getD' (d:Diner) (peer:Int) (m:Msg):Diner×Int:=
 if okD d then match d.Sides.findIdx? (fun x=>decide (x.Peer=peer)&&decide (x.Epoch=m.Epoch)) with
  | none=>(Za9,131)
  | some i=>match d.Sides[i]? with
    | none=>(Za9,131)
    | some x=>
      if decide (m.Kind=1)&&decide (m.Num=0) then (if x.Fork then (Za9,132) else (⟨d.ID,d.Phase,d.Sides.set i {x with Fork:=true}⟩,0))
      else if decide (m.Kind=2)&&decide (m.Num=0) then (if x.Token then (Za9,132) else (⟨d.ID,d.Phase,d.Sides.set i {x with Token:=true}⟩,0))
      else (Za9,133)
 else (Za9,130)
theorem s_Get (d:Diner) (peer:Int) (m:Msg):Z29 d peer m=some (getD' d peer m):=by
 simp only [Z29,Z79,Option.bind_some,getD']
 cases h:okD d with
 | false=>rfl
 | true=>
   have hl:=Z99 h
   simp only [if_true,decide_true,Bool.not_true,Zw5]
   rw [Z97 d.Sides (fun z=>Zw8 z peer m) (fun x=>decide (x.Peer=peer)&&decide (x.Epoch=m.Epoch)) (by omega) (fun x _=>by
    simp only [Zw8,Zv8]
    cases decide (x.Peer=peer)<;>rfl),Option.bind_some,plc_neg]
   have hfi:=Zx7 (fun x:Side=>decide (x.Peer=peer)&&decide (x.Epoch=m.Epoch)) d.Sides
   cases hf:d.Sides.findIdx? (fun x=>decide (x.Peer=peer)&&decide (x.Epoch=m.Epoch)) with
   | none=>rfl
   | some i=>
     rw [hf] at hfi
     obtain ⟨x,hx,_⟩:=hfi
     simp only [Option.isNone_some,Zw5,Z89 d.Sides (by omega),Option.bind_some,plc,Zz5 hx,hx,Int.toNat_natCast,Z19,Zz8,Z09]
     by_cases k1:m.Kind=1
     ·by_cases k2:m.Num=0
      ·cases x.Fork<;>simp [k1,k2,Za9]
      ·have:¬(1:Int)=2:=by omega
       simp [k1,k2,Za9]
     ·by_cases k3:m.Kind=2
      ·by_cases k2:m.Num=0
       ·cases x.Token<;>simp [k3,k2,Za9]
       ·simp [k3,k2,Za9]
      ·simp [k1,k3,Za9]
set_option maxRecDepth 100000
set_option maxHeartbeats 4000000
@[go_sem] def e100:EC:=.seq (.reg [(Qx 2 66 8 0),(Qa 3 (.mv (.c .ff)))]) (.seq (.reg [(Qf 4 0 2),(Ql 5 4),(Ql 6 1),(Qa 7 (.bin .eql (.t 5) (.t 6))),(Qm 3 7)]) (.ret))
theorem ok100:FnOK Tryz.prog 100 Tryz.f100 e100 [.t 3] 2 6:=⟨by kernel_rfl,⟨_,rfl,by kernel_rfl⟩,by kernel_rfl,by kernel_rfl⟩
noncomputable def Zi9 (x1:Side) (x2:Int):Option Bool:=
 some (decide (x1.Peer=x2))
theorem Zj9 (x1:Side) (x2:Int) (r:Bool) (h:Zi9 x1 x2=some r):Zs2 Tryz.prog 100 [.agg (Side.row x1),.elt (Zw4 x2) 0] (.bv r):=by
 refine Zw2 ok100 rfl rfl fun w0 H0=>?_
 rw [Zi9] at h
 refine Zn2 13 ?_;dsimp only [go_sem];refine An ?_;exact Zq4 (res:=fun (r:Bool)=>.bv r) ok100 h
set_option maxRecDepth 100000
set_option maxHeartbeats 4000000
@[go_sem] def e98:EC:=.seq (.reg [(Qx 2 3 1 0),(Qa 3 (.mv (.c .ff)))]) (.seq (.reg [(Qf 4 0 1),(Qf 5 2 4),(Ql 6 5),(Qa 7 (.mkf 100 [(.t 2)])),(Qa 8 (.call 99 [(.t 6),(.t 7)])),(Qa 9 (.not (.t 8))),(Qm 3 9)]) (.ret))
theorem ok98:FnOK Tryz.prog 98 Tryz.f98 e98 [.t 3] 2 8:=⟨by kernel_rfl,⟨_,rfl,by kernel_rfl⟩,by kernel_rfl,by kernel_rfl⟩
noncomputable def Zk9 (x1:Int) (x2:Drinker):Option Bool:=
 (Zg8 x2.Diner.Sides ((fun z=>Zi9 z x1))).bind fun x3=>
 some (!x3)
theorem Zl9 (x1:Int) (x2:Drinker) (r:Bool) (h:Zk9 x1 x2=some r):Zs2 Tryz.prog 98 [.iv x1,.elt (Drinker.row x2) 0] (.bv r):=by
 refine Zw2 ok98 rfl rfl fun w0 H0=>?_
 rw [Zk9] at h
 refine Zn2 11 ?_;dsimp only [go_sem];refine An ?_;obtain ⟨x3,ex3,h⟩:=Bs h;refine Zu4 trivial ((Zt4.refl _).block 0 rfl rfl) (Zh8 x2.Diner.Sides _ _ ((fun z=>Zi9 z x1)) ⟨by kernel_rfl,rfl,fun z r hz=>Zj9 z x1 r hz⟩ _ ex3) (h:=?_);refine Zn2 3 ?_;dsimp only [go_sem];refine An ?_;exact Zq4 (res:=fun (r:Bool)=>.bv r) ok98 h
set_option maxRecDepth 100000
set_option maxHeartbeats 4000000
@[go_sem] def e102_L0:EC:=.seq (.reg [(Qa 7 (.bin .lss (.t 6) (.t 5)))]) (.seq (.ite (.t 7) (.skip) (.exit 0)) (.seq (.blk 1 (.seq (.reg [(Qm 8 6),(Qm 3 8)]) (.seq (.drw [(Qm 9 3),(Qa 10 (.bin .gtr (.t 9) (.c (.iv 0)))),(Qm 11 10),(Qg 12 11 true (.mv (.t 0))),(Qg 13 11 true (.mv (.t 3))),(Qg 14 11 true (.bin .sub (.t 13) (.c (.iv 1)))),(Qg 15 11 true (.idx 1 (.t 12) (.t 14))),(Qn 16 11 true 15),(Qg 17 11 true (.mv (.t 0))),(Qg 18 11 true (.mv (.t 3))),(Qg 19 11 true (.idx 1 (.t 17) (.t 18))),(Qn 20 11 true 19),(Qg 21 11 true (.bin .geq (.t 16) (.t 20))),(Qp 22 11 21)] [[],[0],[1],[2],[2],[4,2],[3,5,2],[6,2],[2],[2],[8,9,2],[10,2],[7,11,2],[2,12]] [[1],[0,2],[1,3,4,5,6,7,8,9,10,11,12,13],[2,6],[2,5],[2,4,6],[2,3,5,7],[2,6,12],[2,10],[2,10],[2,8,9,11],[2,10,12],[2,7,11,13],[2,12]]) (.ite (.t 22) (.seq (.reg [(Qa 2 (.mv (.c .ff)))]) (.ret)) (.skip))))) (.reg [(Qv 23 6 1),(Qm 6 23)])))
@[go_sem] def e102:EC:=.seq (.reg [(Qa 2 (.mv (.c .ff)))]) (.seq (.seq (.reg [(Qm 4 0),(Qa 5 (.len (.t 4))),(Qi 6 0)]) (.blk 0 (.loop e102_L0))) (.seq (.reg [(Qa 2 (.mv (.c .tt)))]) (.ret)))
theorem ok102:FnOK Tryz.prog 102 Tryz.f102 e102 [.t 2] 1 23:=⟨by kernel_rfl,⟨_,rfl,by kernel_rfl⟩,by kernel_rfl,by kernel_rfl⟩
noncomputable def Zm9:Unit→Option Bool
| ()=>
 some true
noncomputable def Zn9 (x6:Int):Bool→Option (Int ⊕ Bool)
| x9=>
 ifb x9 (
 Option.map Sum.inr (some false)) (
 some (.inl (wr (x6+1))))
noncomputable def Zo9 (x1:(List Int)):Int→Option (Int ⊕ Bool)
| x6=>
 ifb (decide (x6<(ln Zw4 x1))) (
 ifb (decide (0<x6)) (
 (at_ x1 (wr (x6-1))).bind fun x7=>
 (at_ x1 x6).bind fun x8=>
 (Zn9 x6) (decide (x8≤x7))) (
 (Zn9 x6) false)) (
 Option.map Sum.inr (Zm9 ()))
noncomputable def Zp9 (x1:(List Int)):Option Bool:=
 loop (Zo9 x1) 0
theorem k_set_Valid (x1:(List Int)) (r:Bool) (h:Zp9 x1=some r):Zs2 Tryz.prog 102 [.sl 1 (List.map Zw4 x1)] (.bv r):=by
 refine Zw2 ok102 rfl rfl fun w0 H0=>?_
 rw [Zp9] at h
 refine Zn2 11 ?_;dsimp only [go_sem];refine An ?_;refine Zg4 (fun (_:Unit)=>(⟨(an 24 []),[],[]⟩:St)) Zm9 r ?_ fun J1=>?_
 ·rintro ⟨⟩ h;rw [Zm9] at h;(try dsimp only);refine Zn2 4 ?_;dsimp only [go_sem];refine An ?_;exact Zq4 (res:=fun (r:Bool)=>.bv r) ok102 h
 ·refine Zn2 1 ?_;dsimp only [go_sem];refine An ?_;refine Zh4 h (fun (x6:Int)=>(⟨(.sl 1 (List.map Zw4 x1)::an 4 (.iv (ln Zw4 x1) :: .iv x6::an 17 [])),[],[]⟩:St)) (by simp [go_sem]) (by intro x6;first | rfl | simp [go_sem]) ?_;rintro n1 x6 y1 h hin1 hout1;rw [Zo9] at h;(try dsimp only);refine Zn2 5 ?_;dsimp only [go_sem];refine An ?_;refine Zi4 h rfl (fun _ h=>?_) fun _ h=>?_
  ·refine Zn2 9 ?_;dsimp only [go_sem];refine An ?_;refine Zg4 (fun (x9:Bool)=>(⟨(.sl 1 (List.map Zw4 x1)::an 4 (.iv (ln Zw4 x1) :: .iv x6::an 15 [.bv x9,.any])),[],[]⟩:St)) (Zn9 x6) y1 ?_ fun J2=>?_
   ·intro x9 h;rw [Zn9] at h;(try dsimp only);refine Zi4 h rfl (fun _ h=>?_) fun _ h=>?_
    ·refine Zn2 4 ?_;dsimp only [go_sem];refine An ?_;exact Zq4 (res:=fun (r:Bool)=>.bv r) ok102 (Zf4 h hout1)
    ·refine Zn2 6 ?_;dsimp only [go_sem];refine An ?_;exact Zr4 h hin1
   ·refine Zi3 (by kernel_rfl) fun all hall hs hnap haf=>?_;dsimp only [go_sem];refine Z65 hall hs haf hnap 3 11 ?_;dsimp only [go_sem];refine An ?_;refine Zz4 11 h rfl (fun _ h=>?_) fun _ h=>?_
    ·dsimp only [go_sem];refine Z75 hall hs haf hnap 5 6 [6,2,2,4] [(12,[.sl 1 (List.map Zw4 x1),.iv x6,.iv (wr (x6-1))]),(2,[.sl 1 (List.map Zw4 x1),.iv x6])] (by kernel_rfl) ?_;dsimp only [go_sem];obtain ⟨x7,ex7,h⟩:=Bs h;refine Zm4 hall hs haf hnap 6 Zw4 ex7 rfl rfl trivial rfl rfl rfl rfl ?_;refine Z65 hall hs haf hnap 1 4 ?_;dsimp only [go_sem];refine An ?_;obtain ⟨x8,ex8,h⟩:=Bs h;refine Zm4 hall hs haf hnap 10 Zw4 ex8 rfl rfl trivial rfl rfl rfl rfl ?_;refine Z65 hall hs haf hnap 3 0 ?_;dsimp only [go_sem];refine An ?_
     refine Zs3 rfl ?_ _;exact Zs4 J2 (s:=decide (x8≤x7)) h
    ·dsimp only [go_sem];refine Z75 hall hs haf hnap 11 0 [14] [(12,[.un,.un,.un,.un,.un,.un,.un,.un,.un,.un,.ff])] (by kernel_rfl) ?_;dsimp only [go_sem];refine Zs3 rfl ?_ _;exact Zs4 J2 (s:=false) h
  ·refine Zn2 1 ?_;dsimp only [go_sem];refine An ?_;exact Zs4 J1 (s:=()) (Zf4 h hout1)
set_option maxRecDepth 100000
set_option maxHeartbeats 4000000
@[go_sem] def e58:EC:=.seq (.reg [(Qx 1 63 5 0),(Qi 2 0)]) (.seq (.reg [(Qa 4 (.mkf 98 [(.t 1)])),(Qm 3 4)]) (.seq (.blk 0 (.seq (.seq (.reg [(Qf 6 0 1),(Qe 7 3 6),(Qa 8 (.call 101 [(.t 7)])),(Qa 9 (.bin .neq (.t 8) (.c (.iv 0)))),(Qm 5 9)]) (.ite (.t 5) (.skip) (.seq (.reg [(Qf 10 3 1),(Ql 11 10),(Qa 12 (.bin .lss (.t 11) (.c (.iv 0)))),(Qm 5 12)]) (.ite (.t 5) (.skip) (.reg [(Qf 13 3 1),(Ql 14 13),(Qa 15 (.bin .gtr (.t 14) (.c (.iv 2)))),(Qm 5 15)]))))) (.ite (.t 5) (.seq (.reg [(Qi 2 150)]) (.ret)) (.seq (.seq (.reg [(Qf 17 4 1),(Ql 18 17),(Qa 19 (.call 102 [(.t 18)])),(Qa 20 (.not (.t 19))),(Qm 16 20)]) (.ite (.t 16) (.skip) (.seq (.reg [(Qf 21 3 1),(Ql 22 21),(Qa 23 (.bin .eql (.t 22) (.c (.iv 0)))),(Qm 24 23),(Qh 25 24 true 4 1),(Qn 26 24 true 25),(Qg 27 24 true (.len (.t 26))),(Qg 28 24 true (.bin .gtr (.t 27) (.c (.iv 0)))),(Qp 29 24 28),(Qm 16 29)]) (.ite (.t 16) (.skip) (.reg [(Qf 30 4 1),(Ql 31 30),(Qm 32 3),(Qa 33 (.call 103 [(.t 31),(.t 32)])),(Qm 16 33)]))))) (.ite (.t 16) (.seq (.reg [(Qi 2 150)]) (.ret)) (.skip)))))) (.seq (.reg [(Qi 2 0)]) (.ret))))
theorem ok58:FnOK Tryz.prog 58 Tryz.f58 e58 [.t 2] 1 33:=⟨by kernel_rfl,⟨_,rfl,by kernel_rfl⟩,by kernel_rfl,by kernel_rfl⟩
noncomputable def Zq9:Bool→Option Int
| x7=>
 ifb x7 (
 some 150) (
 some 0)
noncomputable def Zr9 (x1:Drinker):Bool→Option Int
| x5=>
 ifb x5 (
 Zq9 x5) (
 (Z57 x1.Need ((fun z=>Zk9 z x1))).bind fun x6=>
 Zq9 x6)
noncomputable def Zs9 (x1:Drinker):Bool→Option Int
| x3=>
 ifb x3 (
 some 150) (
 (Zp9 x1.Need).bind fun x4=>
 ifb (!x4) (
 Zq9 (!x4)) (
 ifb (decide (x1.Thirst=0)) (
 (Zr9 x1) (decide (0<(ln Zw4 x1.Need)))) (
 (Zr9 x1) false)))
noncomputable def Zt9 (x1:Drinker):Option Int:=
 (Zt8 x1.Diner).bind fun x2=>
 ifb (!decide (x2=0)) (
 (Zs9 x1) (!decide (x2=0))) (
 ifb (decide (x1.Thirst<0)) (
 (Zs9 x1) (decide (x1.Thirst<0))) (
 (Zs9 x1) (decide (2<x1.Thirst))))
theorem Zu9 (x1:Drinker) (r:Int) (h:Zt9 x1=some r):Zs2 Tryz.prog 58 [.agg (Drinker.row x1)] (.iv r):=by
 refine Zw2 ok58 rfl rfl fun w0 H0=>?_
 rw [Zt9] at h
 refine Zn2 17 ?_;dsimp only [go_sem];refine An ?_;obtain ⟨x2,ex2,h⟩:=Bs h;refine Z13 trivial (Zu8 x1.Diner _ ex2) (h:=?_);refine Zn2 3 ?_;dsimp only [go_sem];refine An ?_;refine Zg4 (fun (x3:Bool)=>(⟨(.any :: .ptr 0 0 :: .any :: .clo 98 [.ptr 0 0] :: .any :: .bv x3::an 28 []),[some ⟨63,[.iv x1.Diner.ID,.iv x1.Diner.Phase,.sl 8 (List.map Side.row x1.Diner.Sides),.iv x1.Thirst,.sl 1 (List.map Zw4 x1.Need)]⟩],[]⟩:St)) (Zs9 x1) r ?_ fun J1=>?_
 ·intro x3 h;rw [Zs9] at h;(try dsimp only);refine Zi4 h rfl (fun _ h=>?_) fun _ h=>?_
  ·refine Zn2 4 ?_;dsimp only [go_sem];refine An ?_;exact Zq4 (res:=fun (r:Int)=>.iv r) ok58 h
  ·refine Zn2 5 ?_;dsimp only [go_sem];refine An ?_;obtain ⟨x4,ex4,h⟩:=Bs h;refine Z13 trivial (k_set_Valid x1.Need _ ex4) (h:=?_);refine Zn2 3 ?_;dsimp only [go_sem];refine An ?_;refine Zg4 (fun (x7:Bool)=>(⟨(an 16 (.bv x7::an 17 [])),[],[]⟩:St)) Zq9 r ?_ fun J2=>?_
   ·intro x7 h;rw [Zq9] at h;(try dsimp only);refine Zi4 h rfl (fun _ h=>?_) fun _ h=>?_
    ·refine Zn2 4 ?_;dsimp only [go_sem];refine An ?_;exact Zq4 (res:=fun (r:Int)=>.iv r) ok58 h
    ·refine Zn2 6 ?_;dsimp only [go_sem];refine An ?_;exact Zq4 (res:=fun (r:Int)=>.iv r) ok58 h
   ·refine Zi4 h rfl (fun _ h=>?_) fun _ h=>?_
    ·refine Zn2 1 ?_;dsimp only [go_sem];refine An ?_;exact Zs4 J2 (s:=!x4) h
    ·refine Zn2 6 ?_;dsimp only [go_sem];refine An ?_;refine Zg4 (fun (x5:Bool)=>(⟨(.any :: .ptr 0 0 :: .any :: .clo 98 [.ptr 0 0]::an 12 (.bv x5::an 17 [])),[some ⟨63,[.iv x1.Diner.ID,.iv x1.Diner.Phase,.sl 8 (List.map Side.row x1.Diner.Sides),.iv x1.Thirst,.sl 1 (List.map Zw4 x1.Need)]⟩],[]⟩:St)) (Zr9 x1) r ?_ fun J3=>?_
     ·intro x5 h;rw [Zr9] at h;(try dsimp only);refine Zi4 h rfl (fun _ h=>?_) fun _ h=>?_
      ·refine Zn2 1 ?_;dsimp only [go_sem];refine An ?_;exact Zs4 J2 (s:=x5) h
      ·refine Zn2 4 ?_;dsimp only [go_sem];refine An ?_;obtain ⟨x6,ex6,h⟩:=Bs h;refine Zu4 trivial ((Zt4.refl _).block 0 rfl rfl) (Z67 x1.Need _ _ ((fun z=>Zk9 z x1)) ⟨by kernel_rfl,rfl,fun z r hz=>Zl9 z x1 r hz⟩ _ ex6) (h:=?_);refine Zn2 2 ?_;dsimp only [go_sem];refine An ?_;exact Zs4 J2 (s:=x6) h
     ·refine Zp4 24 h rfl (fun _ h=>?_) fun _ h=>?_
      ·dsimp only [go_sem];refine Zn2 7 ?_;dsimp only [go_sem];refine An ?_;exact Zs4 J3 (s:=decide (0<(ln Zw4 x1.Need))) h
      ·dsimp only [go_sem];refine Zn2 7 ?_;dsimp only [go_sem];refine An ?_;exact Zs4 J3 (s:=false) h
 ·refine Zi4 h rfl (fun _ h=>?_) fun _ h=>?_
  ·refine Zn2 1 ?_;dsimp only [go_sem];refine An ?_;exact Zs4 J1 (s:=!decide (x2=0)) h
  ·refine Zn2 7 ?_;dsimp only [go_sem];refine An ?_;refine Zi4 h rfl (fun _ h=>?_) fun _ h=>?_
   ·refine Zn2 1 ?_;dsimp only [go_sem];refine An ?_;exact Zs4 J1 (s:=decide (x1.Thirst<0)) h
   ·refine Zn2 6 ?_;dsimp only [go_sem];refine An ?_;exact Zs4 J1 (s:=decide (2<x1.Thirst)) h
set_option maxRecDepth 100000
set_option maxHeartbeats 4000000
@[go_sem] def e136:EC:=.seq (.reg [(Qa 2 (.mv (.c .nl)))]) (.seq (.seq (.reg [(Qm 3 0),(Qa 4 (.isnil false (.t 3)))]) (.ite (.t 4) (.seq (.reg [(Qa 2 (.mv (.c .nl)))]) (.ret)) (.skip))) (.seq (.reg [(Qa 5 (.bsl 3 1 0 [.iv 0] [])),(Qm 6 0),(Qa 7 (.app 3 1 8 (.t 5) (.t 6))),(Qm 2 7)]) (.ret)))
theorem ok136:FnOK Tryz.prog 136 Tryz.f136 e136 [.t 2] 1 7:=⟨by kernel_rfl,⟨_,rfl,by kernel_rfl⟩,by kernel_rfl,by kernel_rfl⟩
noncomputable def Zv9 (x1:(List Int)):Option (List Int):=Zb4 8 [] x1
theorem Zw9 (x1:(List Int)) (r:(List Int)) (h:Zv9 x1=some r):FunO Tryz.prog 136 [.sl 1 (List.map Zw4 x1)] 3 1 (List.map Zw4 r):=by
 refine Z35 ok136 rfl fun w0 H0=>?_
 rw [Zv9] at h
 refine Zn2 100 ?_
 dsimp only [e136,go_sem]
 refine ⟨by simp,?_⟩
 refine V_isnil trivial rfl (fun hn=>?_) ?_
 ·refine Zn2 100 ?_
  dsimp only [go_sem]
  refine ⟨by simp,?_⟩
  refine V_own 2 3 1 rfl rfl ?_
  dsimp only [go_sem]
  have hn:x1=[]:=by simpa using hn
  subst hn
  exact Z85 Zw4 (e:=[]) ok136 (by simpa [Zb4] using h) rfl rfl
 ·refine Zn2 100 ?_
  dsimp only [go_sem]
  refine ⟨by simp,?_⟩
  refine Zn4 Zw4 h trivial rfl rfl rfl ?_
  refine Zn2 100 ?_
  dsimp only [go_sem]
  refine ⟨by simp,?_⟩
  exact Z85 Zw4 ok136 (rfl:some r=some r) rfl rfl
set_option maxRecDepth 100000
set_option maxHeartbeats 4000000
@[go_sem] def e120:EC:=.seq (.reg [(Qx 1 63 5 0),(Qa 2 (.alloc 63 [.iv 0,.iv 0,.nl,.iv 0,.nl]))]) (.seq (.drw [(Qf 3 0 1),(Qf 4 2 3),(Ql 5 4),(Qa 6 (.call 72 [(.t 5)])),(Qf 7 4 1),(Ql 8 7),(Qa 9 (.call 136 [(.t 8)])),(Qf 10 0 1),(Qf 11 2 10),(Qs 1 11 6),(Qf 12 4 1),(Qs 1 12 9)] [[],[0],[1],[2],[],[4],[5,3],[0,1,2,3,4,5],[7,0,1,2,3,4,5],[8,3,6,0,1,2,3,4,5],[0,1,2,3,4,5,6,7,8,9],[10,6,9,0,1,2,3,4,5,6,7,8,9]] [[1],[0,2],[1,3],[2,9],[5],[4,6],[5,11],[8],[7,9],[3,8],[11],[6,10]]) (.seq (.reg [(Qe 13 5 1),(Qs 5 2 13)]) (.ret)))
theorem ok120:FnOK Tryz.prog 120 Tryz.f120 e120 [.c 2 (some 5)] 1 13:=⟨by kernel_rfl,⟨_,rfl,by kernel_rfl⟩,by kernel_rfl,by kernel_rfl⟩
noncomputable def Zx9 (x1:Drinker):Option Drinker:=
 (Zx8 x1.Diner.Sides).bind fun x2=>
 (Zv9 x1.Need).bind fun x3=>
 some (Drinker.mk ((Diner.mk x1.Diner.ID x1.Diner.Phase x2)) x1.Thirst x3)
theorem Zy9 (x1:Drinker) (r:Drinker) (h:Zx9 x1=some r):Zs2 Tryz.prog 120 [.agg (Drinker.row x1)] (.agg (Drinker.row r)):=by
 refine Zw2 ok120 rfl rfl fun w0 H0=>?_
 rw [Zx9] at h
 refine Zn2 6 ?_;dsimp only [go_sem];refine An ?_;refine Zi3 (by kernel_rfl) fun all hall hs hnap haf=>?_;dsimp only [go_sem];refine Z65 hall hs haf hnap 5 7 ?_;dsimp only [go_sem];refine An ?_;refine Zt3 3 rfl ?_;obtain ⟨x2,ex2,h⟩:=Bs h;refine Z55 hall rfl trivial (Zy8 x1.Diner.Sides _ ex2) (h:=?_);dsimp only [go_sem];refine Z65 hall hs haf hnap 2 4 ?_;dsimp only [go_sem];refine An ?_;refine Zt3 6 rfl ?_;obtain ⟨x3,ex3,h⟩:=Bs h;refine Z55 hall rfl trivial (Zw9 x1.Need _ ex3) (h:=?_);dsimp only [go_sem]
 refine Zt3 9 rfl ?_;refine Zy3 hall rfl trivial ?_;dsimp only [go_sem];refine Z65 hall hs haf hnap 1 1 ?_;dsimp only [go_sem];refine An ?_;refine Zt3 11 rfl ?_;refine Zy3 hall rfl trivial ?_;dsimp only [go_sem];refine Zs3 rfl ?_ _;refine Zn2 5 ?_;dsimp only [go_sem];refine An ?_;refine Za3 0 rfl ?_;dsimp only [go_sem];refine Za3 1 rfl ?_;dsimp only [go_sem];exact Zq4 (res:=fun (r:Drinker)=>.agg (Drinker.row r)) ok120 h
set_option maxRecDepth 100000
set_option maxHeartbeats 4000000
@[go_sem] def e176:EC:=.seq (.reg [(Qx 1 66 8 0),(Qa 2 (.mv (.c .ff)))]) (.seq (.reg [(Qf 3 2 1),(Ql 4 3),(Qa 5 (.bin .eql (.t 4) (.c (.iv 1)))),(Qm 2 5)]) (.ret))
theorem ok176:FnOK Tryz.prog 176 Tryz.f176 e176 [.t 2] 1 5:=⟨by kernel_rfl,⟨_,rfl,by kernel_rfl⟩,by kernel_rfl,by kernel_rfl⟩
noncomputable def Zz9 (x1:Side):Option Bool:=
 some (decide (x1.State=1))
theorem Z0a (x1:Side) (r:Bool) (h:Zz9 x1=some r):Zs2 Tryz.prog 176 [.agg (Side.row x1)] (.bv r):=by
 refine Zw2 ok176 rfl rfl fun w0 H0=>?_
 rw [Zz9] at h
 refine Zn2 12 ?_;dsimp only [go_sem];refine An ?_;exact Zq4 (res:=fun (r:Bool)=>.bv r) ok176 h
set_option maxRecDepth 100000
set_option maxHeartbeats 4000000
@[go_sem] def e194:EC:=.drw [(Ql 5 1),(Qf 6 0 2),(Ql 7 6),(Ql 8 3),(Qa 9 (.nilchk (.t 8))),(Qf 10 0 9),(Ql 11 10),(Qm 12 0),(Ql 13 3),(Qa 14 (.nilchk (.t 13))),(Qf 15 1 14),(Ql 16 15),(Qa 17 (.build [.iv 0,.iv 0,.iv 0] [(0,1,(.t 12)),(1,1,(.t 16))])),(Qa 18 (.build [.iv 0,.iv 0,.iv 0,.iv 0,.iv 0] [(0,1,(.t 7)),(1,1,(.t 11)),(2,3,(.t 17))])),(Qa 19 (.bsl 95 5 1 [.iv 0,.iv 0,.iv 0,.iv 0,.iv 0] [(0,(.t 18))])),(Qa 20 (.app 95 5 40 (.t 5) (.t 19))),(Qs 1 1 20)] [[],[],[1],[],[3],[4],[5],[],[],[8],[9],[10],[7,11],[2,6,12],[13],[0,14],[15,15,0,1,2,3,4,5,6,7,8,9,10,11,12,13,14,15]] [[15],[2],[1,13],[4],[3,5],[4,6],[5,13],[12],[9],[8,10],[9,11],[10,12],[7,11,13],[2,6,12,14],[13,15],[0,14,16],[15]]
theorem Z1a:FnOK Tryz.prog 194 Tryz.f194 e194 [] 4 17:=⟨by kernel_rfl,⟨_,rfl,by kernel_rfl⟩,by kernel_rfl,by kernel_rfl⟩
set_option maxRecDepth 100000
set_option maxHeartbeats 4000000
@[go_sem] def e177_L1:EC:=.seq (.reg [(Qa 102 (.bin .lss (.t 101) (.t 100)))]) (.seq (.ite (.t 102) (.skip) (.exit 2)) (.seq (.blk 3 (.seq (.reg [(Qm 103 101),(Qm 11 103)]) (.reg [(Qf 104 2 1),(Ql 105 104),(Qm 106 11),(Qk 107 8 105 106),(Qf 108 4 107),(Qb (.store 1 (.t 108) (.c .tt)))]))) (.reg [(Qv 109 101 1),(Qm 101 109)])))
@[go_sem] def e177_L0:EC:=.seq (.reg [(Qa 26 (.bin .lss (.t 25) (.t 24)))]) (.seq (.ite (.t 26) (.skip) (.exit 0)) (.seq (.blk 1 (.seq (.reg [(Qm 27 25),(Qm 8 27)]) (.seq (.reg [(Qf 28 2 1),(Ql 29 28),(Qm 30 8),(Qk 31 8 29 30),(Qa 9 (.alloc 189 [.nlp])),(Qs 1 9 31)]) (.seq (.reg [(Qa 32 (.mkf 194 [(.t 6),(.t 1),(.t 9)])),(Qm 10 32)]) (.seq (.seq (.reg [(Ql 33 9),(Qa 34 (.nilchk (.t 33))),(Qf 35 3 34),(Ql 36 35),(Qm 37 36),(Qn 38 37 true 9),(Qg 39 37 true (.nilchk (.t 38))),(Qh 40 37 true 4 39),(Qn 41 37 true 40),(Qp 42 37 41),(Qm 43 42),(Qn 44 43 true 9),(Qg 45 43 true (.nilchk (.t 44))),(Qh 46 43 true 5 45),(Qn 47 43 true 46),(Qp 48 43 47),(Qm 49 48),(Qh 50 49 true 1 1),(Qn 51 49 true 50),(Qg 52 49 true (.bin .neq (.t 51) (.c (.iv 2)))),(Qp 53 49 52)]) (.ite (.t 53) (.seq (.drw [(Ql 54 9),(Ql 55 9),(Qa 56 (.nilchk (.t 54))),(Qf 57 3 56),(Qb (.store 1 (.t 57) (.c .ff))),(Qa 58 (.nilchk (.t 55))),(Qf 59 4 58),(Qb (.store 1 (.t 59) (.c .ff)))] [[],[],[0,0],[2,0],[3,0],[1,0,1,2,3,4],[5,0,1,2,3,4],[6,4,0,1,2,3,4]] [[2],[5],[0,3],[2,4],[3],[1,6],[5,7],[6]]) (.reg [(Qm 60 10),(Qa 61 (.callv (.t 60) [(.c (.iv 1))]))])) (.skip))) (.seq (.seq (.reg [(Qf 62 1 1),(Ql 63 62),(Qa 64 (.bin .eql (.t 63) (.c (.iv 1)))),(Qm 65 64),(Qn 66 65 true 9),(Qg 67 65 true (.nilchk (.t 66))),(Qh 68 65 true 5 67),(Qn 69 65 true 68),(Qp 70 65 69),(Qm 71 70),(Qn 72 71 true 9),(Qg 73 71 true (.nilchk (.t 72))),(Qh 74 71 true 3 73),(Qn 75 71 true 74),(Qg 76 71 true (.not (.t 75))),(Qp 77 71 76)]) (.ite (.t 77) (.seq (.reg [(Ql 78 9),(Qa 79 (.nilchk (.t 78))),(Qf 80 5 79),(Qb (.store 1 (.t 80) (.c .ff)))]) (.reg [(Qm 81 10),(Qa 82 (.callv (.t 81) [(.c (.iv 2))]))])) (.skip))) (.reg [(Qm 83 7),(Qm 84 83),(Qn 85 84 true 9),(Qg 86 84 true (.nilchk (.t 85))),(Qh 87 84 true 3 86),(Qn 88 84 true 87),(Qp 89 84 88),(Qm 7 89)]))))))) (.reg [(Qv 90 25 1),(Qm 25 90)])))
@[go_sem] def e177:EC:=.seq (.reg [(Qx 1 61 3 0),(Qa 2 (.alloc 61 [.iv 0,.iv 0,.nl])),(Qa 3 (.mv (.c .nl))),(Qi 4 0)]) (.seq (.seq (.reg [(Qe 12 3 1),(Qa 13 (.call 101 [(.t 12)])),(Qm 5 13)]) (.seq (.reg [(Qm 14 5),(Qa 15 (.bin .neq (.t 14) (.c (.iv 0))))]) (.ite (.t 15) (.seq (.reg [(Qa 16 (.build [.iv 0,.iv 0,.nl] [])),(Qm 17 5),(Qs 3 2 16),(Qa 3 (.mv (.c .nl))),(Qm 4 17)]) (.ret)) (.skip)))) (.seq (.reg [(Qf 18 2 1),(Ql 19 18),(Qa 20 (.call 72 [(.t 19)])),(Qf 21 2 1),(Qs 1 21 20)]) (.seq (.reg [(Qa 6 (.alloc 23 [.nl]))]) (.seq (.reg [(Qa 7 (.mv (.c .tt)))]) (.seq (.seq (.reg [(Qf 22 2 1),(Ql 23 22),(Qa 24 (.len (.t 23))),(Qi 25 0)]) (.blk 0 (.loop e177_L0))) (.seq (.seq (.reg [(Qf 91 1 1),(Ql 92 91),(Qa 93 (.bin .eql (.t 92) (.c (.iv 1)))),(Qm 94 93),(Qg 95 94 true (.mv (.t 7))),(Qp 96 94 95)]) (.ite (.t 96) (.seq (.reg [(Qf 97 1 1),(Qb (.store 1 (.t 97) (.c (.iv 2))))]) (.seq (.reg [(Qf 98 2 1),(Ql 99 98),(Qa 100 (.len (.t 99))),(Qi 101 0)]) (.blk 2 (.loop e177_L1)))) (.skip))) (.seq (.drw [(Qe 110 3 1),(Ql 111 6),(Qs 3 2 110),(Qm 3 111),(Qi 4 0)] [[],[],[0,0],[1,2,0,1,2],[3,0,1,2,3]] [[2],[3],[0],[1],[]]) (.ret))))))))
theorem ok177:FnOK Tryz.prog 177 Tryz.f177 e177 [.c 2 (some 3),.t 3,.t 4] 1 111:=⟨by kernel_rfl,⟨_,rfl,by kernel_rfl⟩,by kernel_rfl,by kernel_rfl⟩
set_option maxRecDepth 100000
set_option maxHeartbeats 4000000
@[go_sem] def e165_L0:EC:=.seq (.reg [(Qa 9 (.bin .lss (.t 8) (.t 7)))]) (.seq (.ite (.t 9) (.skip) (.exit 0)) (.seq (.blk 1 (.seq (.reg [(Qm 10 8),(Qm 5 10)]) (.seq (.reg [(Qm 11 1),(Qm 12 0),(Qm 13 5),(Qk 14 1 12 13),(Ql 15 14),(Qa 16 (.bin .eql (.t 11) (.t 15)))]) (.ite (.t 16) (.seq (.reg [(Qm 17 5),(Qm 4 17)]) (.ret)) (.skip))))) (.reg [(Qv 18 8 1),(Qm 8 18)])))
@[go_sem] def e165:EC:=.seq (.reg [(Qi 4 0)]) (.seq (.seq (.reg [(Qm 6 0),(Qa 7 (.len (.t 6))),(Qi 8 0)]) (.blk 0 (.loop e165_L0))) (.seq (.reg [(Qa 4 (.mv (.c (.iv (-1)))))]) (.ret)))
theorem ok165:FnOK Tryz.prog 165 Tryz.f165 e165 [.t 4] 2 17:=⟨by kernel_rfl,⟨_,rfl,by kernel_rfl⟩,by kernel_rfl,by kernel_rfl⟩
noncomputable def Z2a:Unit→Option Int
| ()=>
 some (-1)
noncomputable def Z3a (x1:(List Int)) (x2:Int):Int→Option (Int ⊕ Int)
| x5=>
 ifb (decide (x5<(ln Zw4 x1))) (
 (at_ x1 x5).bind fun x6=>
 ifb (decide (x2=x6)) (
 Option.map Sum.inr (some x5)) (
 some (.inl (wr (x5+1))))) (
 Option.map Sum.inr (Z2a ()))
noncomputable def Z4a (x1:(List Int)) (x2:Int):Option Int:=
 loop (Z3a x1 x2) 0
theorem Z5a (x1:(List Int)) (x2:Int) (r:Int) (h:Z4a x1 x2=some r):Zs2 Tryz.prog 165 [.sl 1 (List.map Zw4 x1),.iv x2] (.iv r):=by
 refine Zw2 ok165 rfl rfl fun w0 H0=>?_
 rw [Z4a] at h
 refine Zn2 11 ?_;dsimp only [go_sem];refine An ?_;refine Zg4 (fun (_:Unit)=>(⟨(an 19 []),[],[]⟩:St)) Z2a r ?_ fun J1=>?_
 ·rintro ⟨⟩ h;rw [Z2a] at h;(try dsimp only);refine Zn2 4 ?_;dsimp only [go_sem];refine An ?_;exact Zq4 (res:=fun (r:Int)=>.iv r) ok165 h
 ·refine Zn2 1 ?_;dsimp only [go_sem];refine An ?_;refine Zh4 h (fun (x5:Int)=>(⟨(.sl 1 (List.map Zw4 x1) :: .iv x2::an 5 (.iv (ln Zw4 x1) :: .iv x5::an 10 [])),[],[]⟩:St)) (by simp [go_sem]) (by intro x5;first | rfl | simp [go_sem]) ?_;rintro n1 x5 y1 h hin1 hout1;rw [Z3a] at h;(try dsimp only);refine Zn2 5 ?_;dsimp only [go_sem];refine An ?_;refine Zi4 h rfl (fun _ h=>?_) fun _ h=>?_
  ·refine Zn2 13 ?_;dsimp only [go_sem];refine An ?_;obtain ⟨x6,ex6,h⟩:=Bs h;refine Zl4 Zw4 ex6 trivial rfl rfl rfl ?_;refine Zn2 3 ?_;dsimp only [go_sem];refine An ?_;refine Zi4 h rfl (fun _ h=>?_) fun _ h=>?_
   ·refine Zn2 5 ?_;dsimp only [go_sem];refine An ?_;exact Zq4 (res:=fun (r:Int)=>.iv r) ok165 (Zf4 h hout1)
   ·refine Zn2 6 ?_;dsimp only [go_sem];refine An ?_;exact Zr4 h hin1
  ·refine Zn2 1 ?_;dsimp only [go_sem];refine An ?_;exact Zs4 J1 (s:=()) (Zf4 h hout1)
set_option maxRecDepth 100000
set_option maxHeartbeats 4000000
@[go_sem] def e149:EC:=.seq (.reg [(Qa 4 (.mv (.c .ff)))]) (.seq (.reg [(Qm 5 0),(Qm 6 1),(Qa 7 (.call 165 [(.t 5),(.t 6)])),(Qa 8 (.bin .geq (.t 7) (.c (.iv 0)))),(Qm 4 8)]) (.ret))
theorem ok149:FnOK Tryz.prog 149 Tryz.f149 e149 [.t 4] 2 7:=⟨by kernel_rfl,⟨_,rfl,by kernel_rfl⟩,by kernel_rfl,by kernel_rfl⟩
noncomputable def Z6a (x1:(List Int)) (x2:Int):Option Bool:=
 (Z4a x1 x2).bind fun x3=>
 some (decide (0≤x3))
theorem Z7a (x1:(List Int)) (x2:Int) (r:Bool) (h:Z6a x1 x2=some r):Zs2 Tryz.prog 149 [.sl 1 (List.map Zw4 x1),.iv x2] (.bv r):=by
 refine Zw2 ok149 rfl rfl fun w0 H0=>?_
 rw [Z6a] at h
 refine Zn2 8 ?_;dsimp only [go_sem];refine An ?_;obtain ⟨x3,ex3,h⟩:=Bs h;refine Z13 trivial (Z5a x1 x2 _ ex3) (h:=?_);refine Zn2 3 ?_;dsimp only [go_sem];refine An ?_;exact Zq4 (res:=fun (r:Bool)=>.bv r) ok149 h
set_option maxRecDepth 100000
set_option maxHeartbeats 4000000
@[go_sem] def e195:EC:=.seq (.reg [(Qa 4 (.mv (.c .ff)))]) (.seq (.reg [(Qm 5 0),(Qm 6 1),(Qa 7 (.call 149 [(.t 5),(.t 6)])),(Qm 4 7)]) (.ret))
theorem ok195:FnOK Tryz.prog 195 Tryz.f195 e195 [.t 4] 2 6:=⟨by kernel_rfl,⟨_,rfl,by kernel_rfl⟩,by kernel_rfl,by kernel_rfl⟩
noncomputable def Z8a (x1:(List Int)) (x2:Int):Option Bool:=
 (Z6a x1 x2).bind fun x3=>
 some x3
theorem k_set_Has (x1:(List Int)) (x2:Int) (r:Bool) (h:Z8a x1 x2=some r):Zs2 Tryz.prog 195 [.sl 1 (List.map Zw4 x1),.iv x2] (.bv r):=by
 refine Zw2 ok195 rfl rfl fun w0 H0=>?_
 rw [Z8a] at h
 refine Zn2 8 ?_;dsimp only [go_sem];refine An ?_;obtain ⟨x3,ex3,h⟩:=Bs h;refine Z13 trivial (Z7a x1 x2 _ ex3) (h:=?_);refine Zn2 2 ?_;dsimp only [go_sem];refine An ?_;exact Zq4 (res:=fun (r:Bool)=>.bv r) ok195 h
set_option maxRecDepth 100000
set_option maxHeartbeats 4000000
@[go_sem] def e196:EC:=.seq (.reg [(Qx 4 66 8 1)]) (.drw [(Qm 6 0),(Qm 7 0),(Qa 8 (.nilchk (.t 7))),(Qf 9 5 8),(Ql 10 9),(Qm 11 0),(Qa 12 (.nilchk (.t 11))),(Qf 13 0 12),(Qf 14 0 13),(Qf 15 0 14),(Ql 16 15),(Qf 17 0 4),(Ql 18 17),(Qm 19 2),(Qf 20 1 4),(Ql 21 20),(Qa 22 (.build [.iv 0,.iv 0,.iv 0] [(0,1,(.t 19)),(1,1,(.t 21))])),(Qa 23 (.build [.iv 0,.iv 0,.iv 0,.iv 0,.iv 0] [(0,1,(.t 16)),(1,1,(.t 18)),(2,3,(.t 22))])),(Qa 24 (.bsl 95 5 1 [.iv 0,.iv 0,.iv 0,.iv 0,.iv 0] [(0,(.t 23))])),(Qa 25 (.app 95 5 40 (.t 10) (.t 24))),(Qa 26 (.nilchk (.t 6))),(Qf 27 5 26),(Qs 1 27 25)] [[],[],[1],[2],[3],[],[5],[6],[7],[8],[9],[],[11],[],[],[14],[13,15],[10,12,16],[17],[4,18],[0,0,1,2,3,4,5,6,7,8,9,10,11,12,13,14,15,16,17,18,19],[20,0,1,2,3,4,5,6,7,8,9,10,11,12,13,14,15,16,17,18,19],[21,19,19,0,1,2,3,4,5,6,7,8,9,10,11,12,13,14,15,16,17,18,19]] [[20],[2],[1,3],[2,4],[3,19],[6],[5,7],[6,8],[7,9],[8,10],[9,17],[12],[11,17],[16],[15],[14,16],[13,15,17],[10,12,16,18],[17,19],[4,18,22],[0,21],[20,22],[19,21]])
theorem ok196:FnOK Tryz.prog 196 Tryz.f196 e196 [] 3 25:=⟨by kernel_rfl,⟨_,rfl,by kernel_rfl⟩,by kernel_rfl,by kernel_rfl⟩
set_option maxRecDepth 100000
set_option maxHeartbeats 4000000
@[go_sem] def e178_L0:EC:=.seq (.reg [(Qa 15 (.bin .lss (.t 14) (.t 13)))]) (.seq (.ite (.t 15) (.skip) (.exit 0)) (.seq (.blk 1 (.seq (.reg [(Qm 16 14),(Qm 3 16)]) (.seq (.reg [(Qm 17 0),(Qa 18 (.nilchk (.t 17))),(Qf 19 0 18),(Qf 20 0 19),(Qf 21 2 20),(Ql 22 21),(Qm 23 3),(Qk 24 8 22 23),(Qm 4 24)]) (.seq (.drw [(Qm 25 0),(Qa 26 (.nilchk (.t 25))),(Qf 27 0 26),(Qf 28 4 27),(Ql 29 28),(Qm 30 4),(Qa 31 (.nilchk (.t 30))),(Qf 32 0 31),(Ql 33 32),(Qa 34 (.call 195 [(.t 29),(.t 33)])),(Qm 5 34)] [[],[0],[1],[2],[3],[],[5],[6],[7],[4,8],[9,9,0,1,2,3,4,5,6,7,8,9]] [[1],[0,2],[1,3],[2,4],[3,9],[6],[5,7],[6,8],[7,9],[4,8,10],[9]]) (.seq (.reg [(Qm 35 5),(Qm 36 35),(Qg 37 36 true (.mv (.t 0))),(Qg 38 36 true (.nilchk (.t 37))),(Qh 39 36 true 0 38),(Qh 40 36 true 3 39),(Qn 41 36 true 40),(Qg 42 36 true (.bin .eql (.t 41) (.c (.iv 2)))),(Qg 43 36 true (.mv (.t 42))),(Qg 44 43 false (.mv (.t 0))),(Qg 45 43 false (.nilchk (.t 44))),(Qh 46 43 false 0 45),(Qh 47 43 false 3 46),(Qn 48 43 false 47),(Qg 49 43 false (.bin .eql (.t 48) (.c (.iv 1)))),(Qg 50 43 false (.mv (.t 49))),(Qg 51 50 true (.mv (.t 4))),(Qg 52 50 true (.nilchk (.t 51))),(Qh 53 50 true 3 52),(Qn 54 50 true 53),(Qg 55 43 false (.pick (.t 50) (.t 54) (.c .ff))),(Qg 56 36 true (.pick (.t 43) (.c .tt) (.t 55))),(Qp 57 36 56),(Qm 6 57)]) (.seq (.seq (.reg [(Qm 58 4),(Qa 59 (.nilchk (.t 58))),(Qf 60 6 59),(Ql 61 60),(Qm 62 61),(Qg 63 62 true (.mv (.t 4))),(Qg 64 62 true (.nilchk (.t 63))),(Qh 65 62 true 7 64),(Qn 66 62 true 65),(Qp 67 62 66),(Qm 68 67),(Qg 69 68 true (.mv (.t 6))),(Qg 70 68 true (.not (.t 69))),(Qp 71 68 70)]) (.ite (.t 71) (.seq (.reg [(Qm 72 4),(Qa 73 (.nilchk (.t 72))),(Qf 74 6 73),(Qb (.store 1 (.t 74) (.c .ff)))]) (.reg [(Qm 75 0),(Qm 76 4),(Qa 77 (.nilchk (.t 76))),(Qe 78 8 77),(Qa 79 (.call 196 [(.t 75),(.t 78),(.c (.iv 3))]))])) (.skip))) (.seq (.seq (.reg [(Qm 80 0),(Qa 81 (.nilchk (.t 80))),(Qf 82 0 81),(Qf 83 3 82),(Ql 84 83),(Qa 85 (.bin .eql (.t 84) (.c (.iv 1)))),(Qm 86 85),(Qg 87 86 true (.mv (.t 5))),(Qp 88 86 87),(Qm 89 88),(Qg 90 89 true (.mv (.t 4))),(Qg 91 89 true (.nilchk (.t 90))),(Qh 92 89 true 7 91),(Qn 93 89 true 92),(Qp 94 89 93),(Qm 95 94),(Qg 96 95 true (.mv (.t 4))),(Qg 97 95 true (.nilchk (.t 96))),(Qh 98 95 true 6 97),(Qn 99 95 true 98),(Qg 100 95 true (.not (.t 99))),(Qp 101 95 100)]) (.ite (.t 101) (.seq (.reg [(Qm 102 4),(Qa 103 (.nilchk (.t 102))),(Qf 104 7 103),(Qb (.store 1 (.t 104) (.c .ff)))]) (.reg [(Qm 105 0),(Qm 106 4),(Qa 107 (.nilchk (.t 106))),(Qe 108 8 107),(Qa 109 (.call 196 [(.t 105),(.t 108),(.c (.iv 4))]))])) (.skip))) (.reg [(Qm 110 2),(Qm 111 110),(Qg 112 111 true (.mv (.t 5))),(Qg 113 111 true (.not (.t 112))),(Qg 114 111 true (.mv (.t 113))),(Qg 115 114 false (.mv (.t 4))),(Qg 116 114 false (.nilchk (.t 115))),(Qh 117 114 false 6 116),(Qn 118 114 false 117),(Qg 119 111 true (.pick (.t 114) (.c .tt) (.t 118))),(Qp 120 111 119),(Qm 2 120)])))))))) (.reg [(Qv 121 14 1),(Qm 14 121)])))
@[go_sem] def e178:EC:=.seq (.reg [(Qa 2 (.mv (.c .tt)))]) (.seq (.seq (.reg [(Qm 7 0),(Qa 8 (.nilchk (.t 7))),(Qf 9 0 8),(Qf 10 0 9),(Qf 11 2 10),(Ql 12 11),(Qa 13 (.len (.t 12))),(Qi 14 0)]) (.blk 0 (.loop e178_L0))) (.seq (.reg [(Qm 122 0),(Qa 123 (.nilchk (.t 122))),(Qf 124 0 123),(Qf 125 3 124),(Ql 126 125),(Qa 127 (.bin .eql (.t 126) (.c (.iv 1)))),(Qm 128 127),(Qg 129 128 true (.mv (.t 2))),(Qp 130 128 129)]) (.ite (.t 130) (.reg [(Qm 131 0),(Qa 132 (.nilchk (.t 131))),(Qf 133 0 132),(Qf 134 3 133),(Qb (.store 1 (.t 134) (.c (.iv 2))))]) (.skip))))
theorem ok178:FnOK Tryz.prog 178 Tryz.f178 e178 [] 1 134:=⟨by kernel_rfl,⟨_,rfl,by kernel_rfl⟩,by kernel_rfl,by kernel_rfl⟩
set_option maxRecDepth 100000
set_option maxHeartbeats 4000000
@[go_sem] def e157:EC:=.seq (.reg [(Qa 2 (.mv (.c (.clo 176 []))))]) (.seq (.blk 0 (.seq (.reg [(Qm 7 0),(Qa 8 (.nilchk (.t 7))),(Qf 9 0 8),(Qf 10 3 9),(Ql 11 10),(Qa 12 (.bin .eql (.t 11) (.c (.iv 1)))),(Qm 13 12),(Qg 14 13 true (.mv (.t 0))),(Qg 15 13 true (.nilchk (.t 14))),(Qh 16 13 true 0 15),(Qh 17 13 true 0 16),(Qh 18 13 true 1 17),(Qn 19 13 true 18),(Qg 20 13 true (.bin .eql (.t 19) (.c (.iv 0)))),(Qp 21 13 20),(Qm 6 21)]) (.ite (.t 6) (.reg [(Qm 22 0),(Qa 23 (.nilchk (.t 22))),(Qf 24 0 23),(Qf 25 0 24),(Qf 26 1 25),(Qb (.store 1 (.t 26) (.c (.iv 1))))]) (.seq (.reg [(Qm 28 0),(Qa 29 (.nilchk (.t 28))),(Qf 30 0 29),(Qf 31 0 30),(Qf 32 1 31),(Ql 33 32),(Qa 34 (.bin .eql (.t 33) (.c (.iv 2)))),(Qm 35 34),(Qg 36 35 true (.mv (.t 0))),(Qg 37 35 true (.nilchk (.t 36))),(Qh 38 35 true 0 37),(Qh 39 35 true 3 38),(Qn 40 35 true 39),(Qg 41 35 true (.bin .neq (.t 40) (.c (.iv 1)))),(Qp 42 35 41),(Qm 43 42),(Qg 44 43 true (.mv (.t 0))),(Qg 45 43 true (.nilchk (.t 44))),(Qh 46 43 true 0 45),(Qh 47 43 true 0 46),(Qh 48 43 true 2 47),(Qn 49 43 true 48),(Qg 50 43 true (.mv (.t 2))),(Qg 51 43 true (.call 99 [(.t 49),(.t 50)])),(Qg 52 43 true (.not (.t 51))),(Qp 53 43 52),(Qm 27 53)]) (.ite (.t 27) (.reg [(Qm 54 0),(Qa 55 (.nilchk (.t 54))),(Qf 56 0 55),(Qf 57 0 56),(Qf 58 1 57),(Qb (.store 1 (.t 58) (.c (.iv 0))))]) (.skip)))))) (.seq (.reg [(Qm 60 0),(Qa 61 (.nilchk (.t 60))),(Qf 62 0 61),(Qf 63 0 62),(Qe 64 3 63),(Qa 65 (.call 177 [(.t 64)])),(Qm 59 65),(Qa 66 (.ext (.t 59) 0)),(Qa 67 (.ext (.t 59) 1)),(Qa 68 (.ext (.t 59) 2)),(Qa 3 (.alloc 61 [.iv 0,.iv 0,.nl])),(Qs 3 3 66),(Qm 4 67),(Qm 5 68)]) (.seq (.reg [(Qm 69 0),(Qe 70 3 3),(Qa 71 (.nilchk (.t 69))),(Qf 72 0 71),(Qf 73 0 72),(Qs 3 73 70)]) (.seq (.reg [(Qm 74 0),(Qm 75 0),(Qa 76 (.nilchk (.t 75))),(Qf 77 5 76),(Ql 78 77),(Qm 79 4),(Qa 80 (.app 95 5 40 (.t 78) (.t 79))),(Qa 81 (.nilchk (.t 74))),(Qf 82 5 81),(Qs 1 82 80)]) (.reg [(Qm 83 0),(Qa 84 (.call 178 [(.t 83)]))])))))
theorem ok157:FnOK Tryz.prog 157 Tryz.f157 e157 [] 1 84:=⟨by kernel_rfl,⟨_,rfl,by kernel_rfl⟩,by kernel_rfl,by kernel_rfl⟩
set_option maxRecDepth 100000
set_option maxHeartbeats 4000000
@[go_sem] def e118:EC:=.seq (.reg [(Qx 2 61 3 0),(Qx 3 61 3 1),(Qa 4 (.mv (.c .ff)))]) (.seq (.reg [(Qf 5 0 2),(Ql 6 5),(Qf 7 0 3),(Ql 8 7),(Qa 9 (.bin .eql (.t 6) (.t 8))),(Qm 10 9),(Qh 11 10 true 1 2),(Qn 12 10 true 11),(Qh 13 10 true 1 3),(Qn 14 10 true 13),(Qg 15 10 true (.bin .eql (.t 12) (.t 14))),(Qp 16 10 15),(Qm 17 16),(Qh 18 17 true 2 2),(Qn 19 17 true 18),(Qh 20 17 true 2 3),(Qn 21 17 true 20),(Qg 22 17 true (.call 146 [(.t 19),(.t 21)])),(Qp 23 17 22),(Qm 4 23)]) (.ret))
theorem ok118:FnOK Tryz.prog 118 Tryz.f118 e118 [.t 4] 2 22:=⟨by kernel_rfl,⟨_,rfl,by kernel_rfl⟩,by kernel_rfl,by kernel_rfl⟩
noncomputable def Z9a:Bool→Option Bool
| x4=>
 some x4
noncomputable def Zaa (x1:Diner) (x2:Diner):Option Bool:=
 ifb (decide (x1.ID=x2.ID)) (
 ifb (decide (x1.Phase=x2.Phase)) (
 (Zt5 x1.Sides x2.Sides).bind fun x3=>
 Z9a x3) (
 Z9a false)) (
 Z9a false)
theorem k_dine_Same (x1:Diner) (x2:Diner) (r:Bool) (h:Zaa x1 x2=some r):Zs2 Tryz.prog 118 [.agg (Diner.row x1),.agg (Diner.row x2)] (.bv r):=by
 refine Zw2 ok118 rfl rfl fun w0 H0=>?_
 rw [Zaa] at h
 refine Zn2 14 ?_;dsimp only [go_sem];refine An ?_;refine Zg4 (fun (x4:Bool)=>(⟨(an 4 (.bv x4::an 19 [])),[],[]⟩:St)) Z9a r ?_ fun J1=>?_
 ·intro x4 h;rw [Z9a] at h;(try dsimp only);exact Zq4 (res:=fun (r:Bool)=>.bv r) ok118 h
 ·refine Zp4 10 h rfl (fun _ h=>?_) fun _ h=>?_
  ·dsimp only [go_sem];refine Zn2 7 ?_;dsimp only [go_sem];refine An ?_;refine Zp4 17 h rfl (fun _ h=>?_) fun _ h=>?_
   ·dsimp only [go_sem];refine Zn2 4 ?_;dsimp only [go_sem];refine An ?_;obtain ⟨x3,ex3,h⟩:=Bs h;refine Z13 trivial (Zu5 x1.Sides x2.Sides _ ex3) (h:=?_);refine Zn2 3 ?_;dsimp only [go_sem];refine An ?_;exact Zs4 J1 (s:=x3) h
   ·dsimp only [go_sem];refine Zn2 8 ?_;dsimp only [go_sem];refine An ?_;exact Zs4 J1 (s:=false) h
  ·dsimp only [go_sem];refine Zn2 15 ?_;dsimp only [go_sem];refine An ?_;exact Zs4 J1 (s:=false) h
set_option maxRecDepth 100000
set_option maxHeartbeats 4000000
@[go_sem] def e119_L0:EC:=.seq (.reg [(Qa 14 (.bin .lss (.t 13) (.t 12)))]) (.seq (.ite (.t 14) (.skip) (.exit 0)) (.seq (.blk 1 (.seq (.reg [(Qm 15 13),(Qm 5 15)]) (.seq (.drw [(Qm 16 0),(Qm 17 5),(Qk 18 1 16 17),(Ql 19 18),(Qm 20 1),(Qm 21 5),(Qk 22 1 20 21),(Ql 23 22),(Qa 24 (.bin .neq (.t 19) (.t 23)))] [[],[],[0,1],[2],[],[],[4,5],[6],[3,7]] [[2],[2],[0,1,3],[2,8],[6],[6],[4,5,7],[6,8],[3,7]]) (.ite (.t 24) (.seq (.reg [(Qa 4 (.mv (.c .ff)))]) (.ret)) (.skip))))) (.reg [(Qv 25 13 1),(Qm 13 25)])))
@[go_sem] def e119:EC:=.seq (.reg [(Qa 4 (.mv (.c .ff)))]) (.seq (.seq (.reg [(Qm 6 0),(Qa 7 (.len (.t 6))),(Qm 8 1),(Qa 9 (.len (.t 8))),(Qa 10 (.bin .neq (.t 7) (.t 9)))]) (.ite (.t 10) (.seq (.reg [(Qa 4 (.mv (.c .ff)))]) (.ret)) (.skip))) (.seq (.seq (.reg [(Qm 11 0),(Qa 12 (.len (.t 11))),(Qi 13 0)]) (.blk 0 (.loop e119_L0))) (.seq (.reg [(Qa 4 (.mv (.c .tt)))]) (.ret))))
theorem ok119:FnOK Tryz.prog 119 Tryz.f119 e119 [.t 4] 2 24:=⟨by kernel_rfl,⟨_,rfl,by kernel_rfl⟩,by kernel_rfl,by kernel_rfl⟩
noncomputable def Zba:Unit→Option Bool
| ()=>
 some true
noncomputable def Zca (x1:(List Int)) (x2:(List Int)):Int→Option (Int ⊕ Bool)
| x6=>
 ifb (decide (x6<(ln Zw4 x1))) (
 (at_ x1 x6).bind fun x7=>
 (at_ x2 x6).bind fun x8=>
 ifb (!decide (x7=x8)) (
 Option.map Sum.inr (some false)) (
 some (.inl (wr (x6+1))))) (
 Option.map Sum.inr (Zba ()))
noncomputable def Zda (x1:(List Int)) (x2:(List Int)):Option Bool:=
 ifb (!decide ((ln Zw4 x1)=(ln Zw4 x2))) (
 some false) (
 loop (Zca x1 x2) 0)
theorem Zea (x1:(List Int)) (x2:(List Int)) (r:Bool) (h:Zda x1 x2=some r):Zs2 Tryz.prog 119 [.sl 1 (List.map Zw4 x1),.sl 1 (List.map Zw4 x2)] (.bv r):=by
 refine Zw2 ok119 rfl rfl fun w0 H0=>?_
 rw [Zda] at h
 refine Zn2 13 ?_;dsimp only [go_sem];refine An ?_;refine Zi4 h rfl (fun _ h=>?_) fun _ h=>?_
 ·refine Zn2 4 ?_;dsimp only [go_sem];refine An ?_;exact Zq4 (res:=fun (r:Bool)=>.bv r) ok119 h
 ·refine Zn2 8 ?_;dsimp only [go_sem];refine An ?_;refine Zg4 (fun (_:Unit)=>(⟨(an 26 []),[],[]⟩:St)) Zba r ?_ fun J1=>?_
  ·rintro ⟨⟩ h;rw [Zba] at h;(try dsimp only);refine Zn2 4 ?_;dsimp only [go_sem];refine An ?_;exact Zq4 (res:=fun (r:Bool)=>.bv r) ok119 h
  ·refine Zn2 1 ?_;dsimp only [go_sem];refine An ?_;refine Zh4 h (fun (x6:Int)=>(⟨(.sl 1 (List.map Zw4 x1) :: .sl 1 (List.map Zw4 x2)::an 10 (.iv (ln Zw4 x1) :: .iv x6::an 12 [])),[],[]⟩:St)) (by simp [go_sem]) (by intro x6;first | rfl | simp [go_sem]) ?_;rintro n1 x6 y1 h hin1 hout1;rw [Zca] at h;(try dsimp only);refine Zn2 5 ?_;dsimp only [go_sem];refine An ?_;refine Zi4 h rfl (fun _ h=>?_) fun _ h=>?_
   ·refine Zn2 9 ?_;dsimp only [go_sem];refine An ?_;refine Zi3 (by kernel_rfl) fun all hall hs hnap haf=>?_;dsimp only [go_sem];refine Z65 hall hs haf hnap 4 5 ?_;dsimp only [go_sem];refine An ?_;obtain ⟨x7,ex7,h⟩:=Bs h;refine Zm4 hall hs haf hnap 2 Zw4 ex7 rfl rfl trivial rfl rfl rfl rfl ?_;refine Z65 hall hs haf hnap 1 3 ?_;dsimp only [go_sem];refine An ?_;obtain ⟨x8,ex8,h⟩:=Bs h;refine Zm4 hall hs haf hnap 6 Zw4 ex8 rfl rfl trivial rfl rfl rfl rfl ?_;refine Z65 hall hs haf hnap 2 0 ?_;dsimp only [go_sem];refine An ?_;refine Zs3 rfl ?_ _
    refine Zi4 h rfl (fun _ h=>?_) fun _ h=>?_
    ·refine Zn2 4 ?_;dsimp only [go_sem];refine An ?_;exact Zq4 (res:=fun (r:Bool)=>.bv r) ok119 (Zf4 h hout1)
    ·refine Zn2 6 ?_;dsimp only [go_sem];refine An ?_;exact Zr4 h hin1
   ·refine Zn2 1 ?_;dsimp only [go_sem];refine An ?_;exact Zs4 J1 (s:=()) (Zf4 h hout1)
set_option maxRecDepth 100000
set_option maxHeartbeats 4000000
@[go_sem] def e68:EC:=.seq (.reg [(Qx 2 63 5 0),(Qx 3 63 5 1),(Qa 4 (.mv (.c .ff)))]) (.seq (.reg [(Qf 5 0 2),(Qe 6 3 5),(Qf 7 0 3),(Qe 8 3 7),(Qa 9 (.call 118 [(.t 6),(.t 8)])),(Qm 10 9),(Qh 11 10 true 3 2),(Qn 12 10 true 11),(Qh 13 10 true 3 3),(Qn 14 10 true 13),(Qg 15 10 true (.bin .eql (.t 12) (.t 14))),(Qp 16 10 15),(Qm 17 16),(Qh 18 17 true 4 2),(Qn 19 17 true 18),(Qh 20 17 true 4 3),(Qn 21 17 true 20),(Qg 22 17 true (.call 119 [(.t 19),(.t 21)])),(Qp 23 17 22),(Qm 4 23)]) (.ret))
theorem ok68:FnOK Tryz.prog 68 Tryz.f68 e68 [.t 4] 2 22:=⟨by kernel_rfl,⟨_,rfl,by kernel_rfl⟩,by kernel_rfl,by kernel_rfl⟩
noncomputable def Zfa:Bool→Option Bool
| x5=>
 some x5
noncomputable def Zga (x1:Drinker) (x2:Drinker):Option Bool:=
 (Zaa x1.Diner x2.Diner).bind fun x3=>
 ifb x3 (
 ifb (decide (x1.Thirst=x2.Thirst)) (
 (Zda x1.Need x2.Need).bind fun x4=>
 Zfa x4) (
 Zfa false)) (
 Zfa false)
theorem Zha (x1:Drinker) (x2:Drinker) (r:Bool) (h:Zga x1 x2=some r):Zs2 Tryz.prog 68 [.agg (Drinker.row x1),.agg (Drinker.row x2)] (.bv r):=by
 refine Zw2 ok68 rfl rfl fun w0 H0=>?_
 rw [Zga] at h
 refine Zn2 12 ?_;dsimp only [go_sem];refine An ?_;obtain ⟨x3,ex3,h⟩:=Bs h;refine Z13 trivial (k_dine_Same x1.Diner x2.Diner _ ex3) (h:=?_);refine Zn2 1 ?_;dsimp only [go_sem];refine An ?_;refine Zg4 (fun (x5:Bool)=>(⟨(an 4 (.bv x5::an 19 [])),[],[]⟩:St)) Zfa r ?_ fun J1=>?_
 ·intro x5 h;rw [Zfa] at h;(try dsimp only);exact Zq4 (res:=fun (r:Bool)=>.bv r) ok68 h
 ·refine Zp4 10 h rfl (fun _ h=>?_) fun _ h=>?_
  ·dsimp only [go_sem];refine Zn2 7 ?_;dsimp only [go_sem];refine An ?_;refine Zp4 17 h rfl (fun _ h=>?_) fun _ h=>?_
   ·dsimp only [go_sem];refine Zn2 4 ?_;dsimp only [go_sem];refine An ?_;obtain ⟨x4,ex4,h⟩:=Bs h;refine Z13 trivial (Zea x1.Need x2.Need _ ex4) (h:=?_);refine Zn2 3 ?_;dsimp only [go_sem];refine An ?_;exact Zs4 J1 (s:=x4) h
   ·dsimp only [go_sem];refine Zn2 8 ?_;dsimp only [go_sem];refine An ?_;exact Zs4 J1 (s:=false) h
  ·dsimp only [go_sem];refine Zn2 15 ?_;dsimp only [go_sem];refine An ?_;exact Zs4 J1 (s:=false) h
set_option maxRecDepth 100000
set_option maxHeartbeats 4000000
@[go_sem] def e135_L0:EC:=.blk 1 (.seq (.reg [(Qm 18 6),(Qa 19 (.nilchk (.t 18))),(Qf 20 0 19),(Qe 21 5 20),(Qa 22 (.call 120 [(.t 21)])),(Qa 7 (.alloc 63 [.iv 0,.iv 0,.nl,.iv 0,.nl])),(Qs 5 7 22)]) (.seq (.reg [(Qm 23 6),(Qa 24 (.call 157 [(.t 23)]))]) (.seq (.drw [(Qe 25 5 7),(Qm 26 6),(Qa 27 (.nilchk (.t 26))),(Qf 28 0 27),(Qe 29 5 28),(Qa 30 (.call 68 [(.t 25),(.t 29)]))] [[],[],[1],[2],[3],[0,4]] [[5],[2],[1,3],[2,4],[3,5],[0,4]]) (.ite (.t 30) (.seq (.drw [(Qm 31 6),(Qa 32 (.nilchk (.t 31))),(Qf 33 0 32),(Qe 34 5 33),(Qm 35 6),(Qa 36 (.nilchk (.t 35))),(Qf 37 5 36),(Ql 38 37),(Qs 5 2 34),(Qm 3 38),(Qi 4 0)] [[],[0],[1],[2],[],[4],[5],[6],[3,0,1,2,3],[7,8,0,1,2,3,4,5,6,7,8],[9,0,1,2,3,4,5,6,7,8,9]] [[1],[0,2],[1,3],[2,8],[5],[4,6],[5,7],[6,9],[3],[7],[]]) (.ret)) (.skip)))))
@[go_sem] def e135:EC:=.seq (.reg [(Qx 1 63 5 0),(Qa 2 (.alloc 63 [.iv 0,.iv 0,.nl,.iv 0,.nl])),(Qa 3 (.mv (.c .nl))),(Qi 4 0)]) (.seq (.seq (.reg [(Qe 8 5 1),(Qa 9 (.call 58 [(.t 8)])),(Qm 5 9)]) (.seq (.reg [(Qm 10 5),(Qa 11 (.bin .neq (.t 10) (.c (.iv 0))))]) (.ite (.t 11) (.seq (.reg [(Qa 12 (.build [.iv 0,.iv 0,.nl,.iv 0,.nl] [])),(Qm 13 5),(Qs 5 2 12),(Qa 3 (.mv (.c .nl))),(Qm 4 13)]) (.ret)) (.skip)))) (.seq (.reg [(Qe 14 5 1),(Qa 15 (.call 120 [(.t 14)])),(Qa 16 (.build [.iv 0,.iv 0,.nl,.iv 0,.nl,.nl] [(0,5,(.t 15))])),(Qx 17 188 6 16),(Qm 6 17)]) (.blk 0 (.loop e135_L0))))
theorem ok135:FnOK Tryz.prog 135 Tryz.f135 e135 [.c 2 (some 5),.t 3,.t 4] 1 38:=⟨by kernel_rfl,⟨_,rfl,by kernel_rfl⟩,by kernel_rfl,by kernel_rfl⟩
noncomputable def Zia (x1:Int) (x2:Int) (_x3:Int) (x4:Int) (x5:(List Side)) (x6:(List Mail)):Option (List Mail):=
 (at_ x5 x4).bind fun x7=>
 (Zb4 40 x6 ([(Mail.mk x2 x7.Peer ((Msg.mk x1 x7.Epoch 0)))])).bind fun x8=>
 some x8
theorem Zja (x1:Int) (x2:Int) (x3:Int) (x4:Int) (x5:(List Side)) (x6:(List Mail)) (r:(List Mail)) (h:Zia x1 x2 x3 x4 x5 x6=some r):FunT Tryz.prog 194 [.iv x1,.ptr 6 0,.ptr 4 0,.ptr 7 0] [none,none,none,none,some ⟨61,[.iv x2,.iv x3,.osl 1]⟩,none,some ⟨23,[.osl 2]⟩,some ⟨189,[.oel 1 ((x4).toNat*8) 0]⟩] [none,some ⟨66,8,List.map Side.row x5⟩,some ⟨95,5,List.map Mail.row x6⟩] (.tup []) [none,none,none,none,some ⟨61,[.iv x2,.iv x3,.osl 1]⟩,none,some ⟨23,[.osl 4]⟩,some ⟨189,[.oel 1 ((x4).toNat*8) 0]⟩] [none,some ⟨66,8,List.map Side.row x5⟩,none,none,some ⟨95,5,List.map Mail.row r⟩]:=by
 refine Zj5 Z1a rfl rfl rfl (by first | rfl | simp [go_sem]) fun w0 M0=>?_
 rw [Zia] at h
 dsimp only [lun,List.cons_append,List.nil_append]
 refine Zi3 (by kernel_rfl) fun all hall hs hnap haf=>?_;dsimp only [go_sem];refine Z65 hall hs haf hnap 3 14 ?_;dsimp only [go_sem];refine An ?_;refine Zv3 0 3 8 rfl ?_ ?_ ?_
 ·refine Zy3 hall rfl trivial ?_;dsimp only [go_sem];refine Zu3 3 8 rfl ?_ ?_
  ·refine Zy3 hall rfl trivial ?_;dsimp only [go_sem];refine Z65 hall hs haf hnap 2 10 ?_;dsimp only [go_sem];refine An ?_;obtain ⟨x7,ex7,h⟩:=Bs h;refine Zu3 6 8 rfl ?_ ?_
   ·refine Zo5 hall Side.row ex7 rfl trivial rfl rfl rfl ?_;dsimp only [go_sem];refine Zt3 8 rfl ?_;refine Zy3 hall rfl trivial ?_;dsimp only [go_sem];refine Z65 hall hs haf hnap 2 6 ?_;dsimp only [go_sem];refine An ?_;refine Zt3 11 rfl ?_;refine Zo5 hall Side.row ex7 rfl trivial rfl rfl rfl ?_;dsimp only [go_sem];refine Z65 hall hs haf hnap 2 3 ?_;dsimp only [go_sem];refine An ?_;refine Zt3 14 rfl ?_;refine Zy3 hall rfl trivial ?_;dsimp only [go_sem];refine Zt3 15 rfl ?_;obtain ⟨x8,ex8,h⟩:=Bs h
    refine Zo4 Mail.row ex8 hall rfl trivial rfl rfl rfl ?_;dsimp only [go_sem];refine Zt3 16 rfl ?_;refine Zy3 hall rfl trivial ?_;dsimp only [go_sem];refine Zs3 rfl ?_ _;obtain rfl:=Option.some.inj h;exact Zl5 Z1a rfl (by simp [go_sem])
   ·refine Zy3 hall rfl trivial ?_;dsimp only [go_sem];refine Z65 hall hs haf hnap 2 7 ?_;dsimp only [go_sem];refine An ?_;refine Zu3 6 11 rfl ?_ ?_
    ·refine Zo5 hall Side.row ex7 rfl trivial rfl rfl rfl ?_;dsimp only [go_sem];refine Zt3 11 rfl ?_;refine Zo5 hall Side.row ex7 rfl trivial rfl rfl rfl ?_;dsimp only [go_sem];refine Z65 hall hs haf hnap 2 3 ?_;dsimp only [go_sem];refine An ?_;refine Zt3 14 rfl ?_;refine Zy3 hall rfl trivial ?_;dsimp only [go_sem];refine Zt3 15 rfl ?_;obtain ⟨x8,ex8,h⟩:=Bs h;refine Zo4 Mail.row ex8 hall rfl trivial rfl rfl rfl ?_;dsimp only [go_sem];refine Zt3 16 rfl ?_;refine Zy3 hall rfl trivial ?_;dsimp only [go_sem];refine Zs3 rfl ?_ _
     obtain rfl:=Option.some.inj h;exact Zl5 Z1a rfl (by simp [go_sem])
    ·refine Zo5 hall Side.row ex7 rfl trivial rfl rfl rfl ?_;dsimp only [go_sem];refine Z65 hall hs haf hnap 1 5 ?_;dsimp only [go_sem];refine An ?_;refine Zt3 6 rfl ?_;refine Zo5 hall Side.row ex7 rfl trivial rfl rfl rfl ?_;dsimp only [go_sem];refine Z65 hall hs haf hnap 1 3 ?_;dsimp only [go_sem];refine An ?_;refine Zt3 14 rfl ?_;refine Zy3 hall rfl trivial ?_;dsimp only [go_sem];refine Zt3 15 rfl ?_;obtain ⟨x8,ex8,h⟩:=Bs h;refine Zo4 Mail.row ex8 hall rfl trivial rfl rfl rfl ?_;dsimp only [go_sem];refine Zt3 16 rfl ?_
     refine Zy3 hall rfl trivial ?_;dsimp only [go_sem];refine Zs3 rfl ?_ _;obtain rfl:=Option.some.inj h;exact Zl5 Z1a rfl (by simp [go_sem])
  ·refine Zy3 hall rfl trivial ?_;dsimp only [go_sem];refine Z65 hall hs haf hnap 2 10 ?_;dsimp only [go_sem];refine An ?_;obtain ⟨x7,ex7,h⟩:=Bs h;refine Zu3 3 11 rfl ?_ ?_
   ·refine Zy3 hall rfl trivial ?_;dsimp only [go_sem];refine Z65 hall hs haf hnap 2 7 ?_;dsimp only [go_sem];refine An ?_;refine Zu3 6 11 rfl ?_ ?_
    ·refine Zo5 hall Side.row ex7 rfl trivial rfl rfl rfl ?_;dsimp only [go_sem];refine Zt3 11 rfl ?_;refine Zo5 hall Side.row ex7 rfl trivial rfl rfl rfl ?_;dsimp only [go_sem];refine Z65 hall hs haf hnap 2 3 ?_;dsimp only [go_sem];refine An ?_;refine Zt3 14 rfl ?_;refine Zy3 hall rfl trivial ?_;dsimp only [go_sem];refine Zt3 15 rfl ?_;obtain ⟨x8,ex8,h⟩:=Bs h;refine Zo4 Mail.row ex8 hall rfl trivial rfl rfl rfl ?_;dsimp only [go_sem];refine Zt3 16 rfl ?_;refine Zy3 hall rfl trivial ?_;dsimp only [go_sem];refine Zs3 rfl ?_ _
     obtain rfl:=Option.some.inj h;exact Zl5 Z1a rfl (by simp [go_sem])
    ·refine Zo5 hall Side.row ex7 rfl trivial rfl rfl rfl ?_;dsimp only [go_sem];refine Z65 hall hs haf hnap 1 5 ?_;dsimp only [go_sem];refine An ?_;refine Zt3 6 rfl ?_;refine Zo5 hall Side.row ex7 rfl trivial rfl rfl rfl ?_;dsimp only [go_sem];refine Z65 hall hs haf hnap 1 3 ?_;dsimp only [go_sem];refine An ?_;refine Zt3 14 rfl ?_;refine Zy3 hall rfl trivial ?_;dsimp only [go_sem];refine Zt3 15 rfl ?_;obtain ⟨x8,ex8,h⟩:=Bs h;refine Zo4 Mail.row ex8 hall rfl trivial rfl rfl rfl ?_;dsimp only [go_sem];refine Zt3 16 rfl ?_
     refine Zy3 hall rfl trivial ?_;dsimp only [go_sem];refine Zs3 rfl ?_ _;obtain rfl:=Option.some.inj h;exact Zl5 Z1a rfl (by simp [go_sem])
   ·refine Zo5 hall Side.row ex7 rfl trivial rfl rfl rfl ?_;dsimp only [go_sem];refine Z65 hall hs haf hnap 1 8 ?_;dsimp only [go_sem];refine An ?_;refine Zt3 3 rfl ?_;refine Zy3 hall rfl trivial ?_;dsimp only [go_sem];refine Z65 hall hs haf hnap 2 5 ?_;dsimp only [go_sem];refine An ?_;refine Zt3 6 rfl ?_;refine Zo5 hall Side.row ex7 rfl trivial rfl rfl rfl ?_;dsimp only [go_sem];refine Z65 hall hs haf hnap 1 3 ?_;dsimp only [go_sem];refine An ?_;refine Zt3 14 rfl ?_;refine Zy3 hall rfl trivial ?_;dsimp only [go_sem];refine Zt3 15 rfl ?_
    obtain ⟨x8,ex8,h⟩:=Bs h;refine Zo4 Mail.row ex8 hall rfl trivial rfl rfl rfl ?_;dsimp only [go_sem];refine Zt3 16 rfl ?_;refine Zy3 hall rfl trivial ?_;dsimp only [go_sem];refine Zs3 rfl ?_ _;obtain rfl:=Option.some.inj h;exact Zl5 Z1a rfl (by simp [go_sem])
 ·refine Zy3 hall rfl trivial ?_;dsimp only [go_sem];refine Z65 hall hs haf hnap 2 11 ?_;dsimp only [go_sem];refine An ?_;obtain ⟨x7,ex7,h⟩:=Bs h;refine Zv3 0 6 8 rfl ?_ ?_ ?_
  ·refine Zy3 hall rfl trivial ?_;dsimp only [go_sem];refine Zu3 6 8 rfl ?_ ?_
   ·refine Zo5 hall Side.row ex7 rfl trivial rfl rfl rfl ?_;dsimp only [go_sem];refine Zt3 8 rfl ?_;refine Zy3 hall rfl trivial ?_;dsimp only [go_sem];refine Z65 hall hs haf hnap 2 6 ?_;dsimp only [go_sem];refine An ?_;refine Zt3 11 rfl ?_;refine Zo5 hall Side.row ex7 rfl trivial rfl rfl rfl ?_;dsimp only [go_sem];refine Z65 hall hs haf hnap 2 3 ?_;dsimp only [go_sem];refine An ?_;refine Zt3 14 rfl ?_;refine Zy3 hall rfl trivial ?_;dsimp only [go_sem];refine Zt3 15 rfl ?_;obtain ⟨x8,ex8,h⟩:=Bs h
    refine Zo4 Mail.row ex8 hall rfl trivial rfl rfl rfl ?_;dsimp only [go_sem];refine Zt3 16 rfl ?_;refine Zy3 hall rfl trivial ?_;dsimp only [go_sem];refine Zs3 rfl ?_ _;obtain rfl:=Option.some.inj h;exact Zl5 Z1a rfl (by simp [go_sem])
   ·refine Zy3 hall rfl trivial ?_;dsimp only [go_sem];refine Z65 hall hs haf hnap 2 7 ?_;dsimp only [go_sem];refine An ?_;refine Zu3 6 11 rfl ?_ ?_
    ·refine Zo5 hall Side.row ex7 rfl trivial rfl rfl rfl ?_;dsimp only [go_sem];refine Zt3 11 rfl ?_;refine Zo5 hall Side.row ex7 rfl trivial rfl rfl rfl ?_;dsimp only [go_sem];refine Z65 hall hs haf hnap 2 3 ?_;dsimp only [go_sem];refine An ?_;refine Zt3 14 rfl ?_;refine Zy3 hall rfl trivial ?_;dsimp only [go_sem];refine Zt3 15 rfl ?_;obtain ⟨x8,ex8,h⟩:=Bs h;refine Zo4 Mail.row ex8 hall rfl trivial rfl rfl rfl ?_;dsimp only [go_sem];refine Zt3 16 rfl ?_;refine Zy3 hall rfl trivial ?_;dsimp only [go_sem];refine Zs3 rfl ?_ _
     obtain rfl:=Option.some.inj h;exact Zl5 Z1a rfl (by simp [go_sem])
    ·refine Zo5 hall Side.row ex7 rfl trivial rfl rfl rfl ?_;dsimp only [go_sem];refine Z65 hall hs haf hnap 1 5 ?_;dsimp only [go_sem];refine An ?_;refine Zt3 6 rfl ?_;refine Zo5 hall Side.row ex7 rfl trivial rfl rfl rfl ?_;dsimp only [go_sem];refine Z65 hall hs haf hnap 1 3 ?_;dsimp only [go_sem];refine An ?_;refine Zt3 14 rfl ?_;refine Zy3 hall rfl trivial ?_;dsimp only [go_sem];refine Zt3 15 rfl ?_;obtain ⟨x8,ex8,h⟩:=Bs h;refine Zo4 Mail.row ex8 hall rfl trivial rfl rfl rfl ?_;dsimp only [go_sem];refine Zt3 16 rfl ?_
     refine Zy3 hall rfl trivial ?_;dsimp only [go_sem];refine Zs3 rfl ?_ _;obtain rfl:=Option.some.inj h;exact Zl5 Z1a rfl (by simp [go_sem])
  ·refine Zo5 hall Side.row ex7 rfl trivial rfl rfl rfl ?_;dsimp only [go_sem];refine Zu3 0 8 rfl ?_ ?_
   ·refine Zy3 hall rfl trivial ?_;dsimp only [go_sem];refine Zt3 8 rfl ?_;refine Zy3 hall rfl trivial ?_;dsimp only [go_sem];refine Z65 hall hs haf hnap 2 6 ?_;dsimp only [go_sem];refine An ?_;refine Zt3 11 rfl ?_;refine Zo5 hall Side.row ex7 rfl trivial rfl rfl rfl ?_;dsimp only [go_sem];refine Z65 hall hs haf hnap 2 3 ?_;dsimp only [go_sem];refine An ?_;refine Zt3 14 rfl ?_;refine Zy3 hall rfl trivial ?_;dsimp only [go_sem];refine Zt3 15 rfl ?_;obtain ⟨x8,ex8,h⟩:=Bs h;refine Zo4 Mail.row ex8 hall rfl trivial rfl rfl rfl ?_
    dsimp only [go_sem];refine Zt3 16 rfl ?_;refine Zy3 hall rfl trivial ?_;dsimp only [go_sem];refine Zs3 rfl ?_ _;obtain rfl:=Option.some.inj h;exact Zl5 Z1a rfl (by simp [go_sem])
   ·refine Zy3 hall rfl trivial ?_;dsimp only [go_sem];refine Z65 hall hs haf hnap 2 7 ?_;dsimp only [go_sem];refine An ?_;refine Zu3 0 11 rfl ?_ ?_
    ·refine Zy3 hall rfl trivial ?_;dsimp only [go_sem];refine Zt3 11 rfl ?_;refine Zo5 hall Side.row ex7 rfl trivial rfl rfl rfl ?_;dsimp only [go_sem];refine Z65 hall hs haf hnap 2 3 ?_;dsimp only [go_sem];refine An ?_;refine Zt3 14 rfl ?_;refine Zy3 hall rfl trivial ?_;dsimp only [go_sem];refine Zt3 15 rfl ?_;obtain ⟨x8,ex8,h⟩:=Bs h;refine Zo4 Mail.row ex8 hall rfl trivial rfl rfl rfl ?_;dsimp only [go_sem];refine Zt3 16 rfl ?_;refine Zy3 hall rfl trivial ?_;dsimp only [go_sem];refine Zs3 rfl ?_ _;obtain rfl:=Option.some.inj h
     exact Zl5 Z1a rfl (by simp [go_sem])
    ·refine Zo5 hall Side.row ex7 rfl trivial rfl rfl rfl ?_;dsimp only [go_sem];refine Z65 hall hs haf hnap 2 4 ?_;dsimp only [go_sem];refine An ?_;refine Zu3 0 14 rfl ?_ ?_
     ·refine Zy3 hall rfl trivial ?_;dsimp only [go_sem];refine Zt3 14 rfl ?_;refine Zy3 hall rfl trivial ?_;dsimp only [go_sem];refine Zt3 15 rfl ?_;obtain ⟨x8,ex8,h⟩:=Bs h;refine Zo4 Mail.row ex8 hall rfl trivial rfl rfl rfl ?_;dsimp only [go_sem];refine Zt3 16 rfl ?_;refine Zy3 hall rfl trivial ?_;dsimp only [go_sem];refine Zs3 rfl ?_ _;obtain rfl:=Option.some.inj h;exact Zl5 Z1a rfl (by simp [go_sem])
     ·refine Zy3 hall rfl trivial ?_;dsimp only [go_sem];refine Zt3 0 rfl ?_;refine Zy3 hall rfl trivial ?_;dsimp only [go_sem];refine Zt3 15 rfl ?_;obtain ⟨x8,ex8,h⟩:=Bs h;refine Zo4 Mail.row ex8 hall rfl trivial rfl rfl rfl ?_;dsimp only [go_sem];refine Zt3 16 rfl ?_;refine Zy3 hall rfl trivial ?_;dsimp only [go_sem];refine Zs3 rfl ?_ _;obtain rfl:=Option.some.inj h;exact Zl5 Z1a rfl (by simp [go_sem])
  ·refine Zy3 hall rfl trivial ?_;dsimp only [go_sem];refine Z65 hall hs haf hnap 2 8 ?_;dsimp only [go_sem];refine An ?_;refine Zv3 0 6 11 rfl ?_ ?_ ?_
   ·refine Zy3 hall rfl trivial ?_;dsimp only [go_sem];refine Zu3 6 11 rfl ?_ ?_
    ·refine Zo5 hall Side.row ex7 rfl trivial rfl rfl rfl ?_;dsimp only [go_sem];refine Zt3 11 rfl ?_;refine Zo5 hall Side.row ex7 rfl trivial rfl rfl rfl ?_;dsimp only [go_sem];refine Z65 hall hs haf hnap 2 3 ?_;dsimp only [go_sem];refine An ?_;refine Zt3 14 rfl ?_;refine Zy3 hall rfl trivial ?_;dsimp only [go_sem];refine Zt3 15 rfl ?_;obtain ⟨x8,ex8,h⟩:=Bs h;refine Zo4 Mail.row ex8 hall rfl trivial rfl rfl rfl ?_;dsimp only [go_sem];refine Zt3 16 rfl ?_;refine Zy3 hall rfl trivial ?_;dsimp only [go_sem];refine Zs3 rfl ?_ _
     obtain rfl:=Option.some.inj h;exact Zl5 Z1a rfl (by simp [go_sem])
    ·refine Zo5 hall Side.row ex7 rfl trivial rfl rfl rfl ?_;dsimp only [go_sem];refine Z65 hall hs haf hnap 1 5 ?_;dsimp only [go_sem];refine An ?_;refine Zt3 6 rfl ?_;refine Zo5 hall Side.row ex7 rfl trivial rfl rfl rfl ?_;dsimp only [go_sem];refine Z65 hall hs haf hnap 1 3 ?_;dsimp only [go_sem];refine An ?_;refine Zt3 14 rfl ?_;refine Zy3 hall rfl trivial ?_;dsimp only [go_sem];refine Zt3 15 rfl ?_;obtain ⟨x8,ex8,h⟩:=Bs h;refine Zo4 Mail.row ex8 hall rfl trivial rfl rfl rfl ?_;dsimp only [go_sem];refine Zt3 16 rfl ?_
     refine Zy3 hall rfl trivial ?_;dsimp only [go_sem];refine Zs3 rfl ?_ _;obtain rfl:=Option.some.inj h;exact Zl5 Z1a rfl (by simp [go_sem])
   ·refine Zo5 hall Side.row ex7 rfl trivial rfl rfl rfl ?_;dsimp only [go_sem];refine Zu3 0 11 rfl ?_ ?_
    ·refine Zy3 hall rfl trivial ?_;dsimp only [go_sem];refine Zt3 11 rfl ?_;refine Zo5 hall Side.row ex7 rfl trivial rfl rfl rfl ?_;dsimp only [go_sem];refine Z65 hall hs haf hnap 2 3 ?_;dsimp only [go_sem];refine An ?_;refine Zt3 14 rfl ?_;refine Zy3 hall rfl trivial ?_;dsimp only [go_sem];refine Zt3 15 rfl ?_;obtain ⟨x8,ex8,h⟩:=Bs h;refine Zo4 Mail.row ex8 hall rfl trivial rfl rfl rfl ?_;dsimp only [go_sem];refine Zt3 16 rfl ?_;refine Zy3 hall rfl trivial ?_;dsimp only [go_sem];refine Zs3 rfl ?_ _;obtain rfl:=Option.some.inj h
     exact Zl5 Z1a rfl (by simp [go_sem])
    ·refine Zo5 hall Side.row ex7 rfl trivial rfl rfl rfl ?_;dsimp only [go_sem];refine Z65 hall hs haf hnap 2 4 ?_;dsimp only [go_sem];refine An ?_;refine Zu3 0 14 rfl ?_ ?_
     ·refine Zy3 hall rfl trivial ?_;dsimp only [go_sem];refine Zt3 14 rfl ?_;refine Zy3 hall rfl trivial ?_;dsimp only [go_sem];refine Zt3 15 rfl ?_;obtain ⟨x8,ex8,h⟩:=Bs h;refine Zo4 Mail.row ex8 hall rfl trivial rfl rfl rfl ?_;dsimp only [go_sem];refine Zt3 16 rfl ?_;refine Zy3 hall rfl trivial ?_;dsimp only [go_sem];refine Zs3 rfl ?_ _;obtain rfl:=Option.some.inj h;exact Zl5 Z1a rfl (by simp [go_sem])
     ·refine Zy3 hall rfl trivial ?_;dsimp only [go_sem];refine Zt3 0 rfl ?_;refine Zy3 hall rfl trivial ?_;dsimp only [go_sem];refine Zt3 15 rfl ?_;obtain ⟨x8,ex8,h⟩:=Bs h;refine Zo4 Mail.row ex8 hall rfl trivial rfl rfl rfl ?_;dsimp only [go_sem];refine Zt3 16 rfl ?_;refine Zy3 hall rfl trivial ?_;dsimp only [go_sem];refine Zs3 rfl ?_ _;obtain rfl:=Option.some.inj h;exact Zl5 Z1a rfl (by simp [go_sem])
   ·refine Zo5 hall Side.row ex7 rfl trivial rfl rfl rfl ?_;dsimp only [go_sem];refine Z65 hall hs haf hnap 1 6 ?_;dsimp only [go_sem];refine An ?_;refine Zu3 0 6 rfl ?_ ?_
    ·refine Zy3 hall rfl trivial ?_;dsimp only [go_sem];refine Zt3 6 rfl ?_;refine Zo5 hall Side.row ex7 rfl trivial rfl rfl rfl ?_;dsimp only [go_sem];refine Z65 hall hs haf hnap 1 3 ?_;dsimp only [go_sem];refine An ?_;refine Zt3 14 rfl ?_;refine Zy3 hall rfl trivial ?_;dsimp only [go_sem];refine Zt3 15 rfl ?_;obtain ⟨x8,ex8,h⟩:=Bs h;refine Zo4 Mail.row ex8 hall rfl trivial rfl rfl rfl ?_;dsimp only [go_sem];refine Zt3 16 rfl ?_;refine Zy3 hall rfl trivial ?_;dsimp only [go_sem];refine Zs3 rfl ?_ _;obtain rfl:=Option.some.inj h
     exact Zl5 Z1a rfl (by simp [go_sem])
    ·refine Zo5 hall Side.row ex7 rfl trivial rfl rfl rfl ?_;dsimp only [go_sem];refine Z65 hall hs haf hnap 1 4 ?_;dsimp only [go_sem];refine An ?_;refine Zu3 0 14 rfl ?_ ?_
     ·refine Zy3 hall rfl trivial ?_;dsimp only [go_sem];refine Zt3 14 rfl ?_;refine Zy3 hall rfl trivial ?_;dsimp only [go_sem];refine Zt3 15 rfl ?_;obtain ⟨x8,ex8,h⟩:=Bs h;refine Zo4 Mail.row ex8 hall rfl trivial rfl rfl rfl ?_;dsimp only [go_sem];refine Zt3 16 rfl ?_;refine Zy3 hall rfl trivial ?_;dsimp only [go_sem];refine Zs3 rfl ?_ _;obtain rfl:=Option.some.inj h;exact Zl5 Z1a rfl (by simp [go_sem])
     ·refine Zy3 hall rfl trivial ?_;dsimp only [go_sem];refine Zt3 0 rfl ?_;refine Zy3 hall rfl trivial ?_;dsimp only [go_sem];refine Zt3 15 rfl ?_;obtain ⟨x8,ex8,h⟩:=Bs h;refine Zo4 Mail.row ex8 hall rfl trivial rfl rfl rfl ?_;dsimp only [go_sem];refine Zt3 16 rfl ?_;refine Zy3 hall rfl trivial ?_;dsimp only [go_sem];refine Zs3 rfl ?_ _;obtain rfl:=Option.some.inj h;exact Zl5 Z1a rfl (by simp [go_sem])
 ·refine Zy3 hall rfl trivial ?_;dsimp only [go_sem];refine Z65 hall hs haf hnap 2 11 ?_;dsimp only [go_sem];refine An ?_;obtain ⟨x7,ex7,h⟩:=Bs h;refine Zv3 0 3 11 rfl ?_ ?_ ?_
  ·refine Zy3 hall rfl trivial ?_;dsimp only [go_sem];refine Zu3 3 11 rfl ?_ ?_
   ·refine Zy3 hall rfl trivial ?_;dsimp only [go_sem];refine Z65 hall hs haf hnap 2 7 ?_;dsimp only [go_sem];refine An ?_;refine Zu3 6 11 rfl ?_ ?_
    ·refine Zo5 hall Side.row ex7 rfl trivial rfl rfl rfl ?_;dsimp only [go_sem];refine Zt3 11 rfl ?_;refine Zo5 hall Side.row ex7 rfl trivial rfl rfl rfl ?_;dsimp only [go_sem];refine Z65 hall hs haf hnap 2 3 ?_;dsimp only [go_sem];refine An ?_;refine Zt3 14 rfl ?_;refine Zy3 hall rfl trivial ?_;dsimp only [go_sem];refine Zt3 15 rfl ?_;obtain ⟨x8,ex8,h⟩:=Bs h;refine Zo4 Mail.row ex8 hall rfl trivial rfl rfl rfl ?_;dsimp only [go_sem];refine Zt3 16 rfl ?_;refine Zy3 hall rfl trivial ?_;dsimp only [go_sem];refine Zs3 rfl ?_ _
     obtain rfl:=Option.some.inj h;exact Zl5 Z1a rfl (by simp [go_sem])
    ·refine Zo5 hall Side.row ex7 rfl trivial rfl rfl rfl ?_;dsimp only [go_sem];refine Z65 hall hs haf hnap 1 5 ?_;dsimp only [go_sem];refine An ?_;refine Zt3 6 rfl ?_;refine Zo5 hall Side.row ex7 rfl trivial rfl rfl rfl ?_;dsimp only [go_sem];refine Z65 hall hs haf hnap 1 3 ?_;dsimp only [go_sem];refine An ?_;refine Zt3 14 rfl ?_;refine Zy3 hall rfl trivial ?_;dsimp only [go_sem];refine Zt3 15 rfl ?_;obtain ⟨x8,ex8,h⟩:=Bs h;refine Zo4 Mail.row ex8 hall rfl trivial rfl rfl rfl ?_;dsimp only [go_sem];refine Zt3 16 rfl ?_
     refine Zy3 hall rfl trivial ?_;dsimp only [go_sem];refine Zs3 rfl ?_ _;obtain rfl:=Option.some.inj h;exact Zl5 Z1a rfl (by simp [go_sem])
   ·refine Zo5 hall Side.row ex7 rfl trivial rfl rfl rfl ?_;dsimp only [go_sem];refine Z65 hall hs haf hnap 1 8 ?_;dsimp only [go_sem];refine An ?_;refine Zt3 3 rfl ?_;refine Zy3 hall rfl trivial ?_;dsimp only [go_sem];refine Z65 hall hs haf hnap 2 5 ?_;dsimp only [go_sem];refine An ?_;refine Zt3 6 rfl ?_;refine Zo5 hall Side.row ex7 rfl trivial rfl rfl rfl ?_;dsimp only [go_sem];refine Z65 hall hs haf hnap 1 3 ?_;dsimp only [go_sem];refine An ?_;refine Zt3 14 rfl ?_;refine Zy3 hall rfl trivial ?_;dsimp only [go_sem];refine Zt3 15 rfl ?_
    obtain ⟨x8,ex8,h⟩:=Bs h;refine Zo4 Mail.row ex8 hall rfl trivial rfl rfl rfl ?_;dsimp only [go_sem];refine Zt3 16 rfl ?_;refine Zy3 hall rfl trivial ?_;dsimp only [go_sem];refine Zs3 rfl ?_ _;obtain rfl:=Option.some.inj h;exact Zl5 Z1a rfl (by simp [go_sem])
  ·refine Zy3 hall rfl trivial ?_;dsimp only [go_sem];refine Z65 hall hs haf hnap 2 8 ?_;dsimp only [go_sem];refine An ?_;refine Zv3 0 6 11 rfl ?_ ?_ ?_
   ·refine Zy3 hall rfl trivial ?_;dsimp only [go_sem];refine Zu3 6 11 rfl ?_ ?_
    ·refine Zo5 hall Side.row ex7 rfl trivial rfl rfl rfl ?_;dsimp only [go_sem];refine Zt3 11 rfl ?_;refine Zo5 hall Side.row ex7 rfl trivial rfl rfl rfl ?_;dsimp only [go_sem];refine Z65 hall hs haf hnap 2 3 ?_;dsimp only [go_sem];refine An ?_;refine Zt3 14 rfl ?_;refine Zy3 hall rfl trivial ?_;dsimp only [go_sem];refine Zt3 15 rfl ?_;obtain ⟨x8,ex8,h⟩:=Bs h;refine Zo4 Mail.row ex8 hall rfl trivial rfl rfl rfl ?_;dsimp only [go_sem];refine Zt3 16 rfl ?_;refine Zy3 hall rfl trivial ?_;dsimp only [go_sem];refine Zs3 rfl ?_ _
     obtain rfl:=Option.some.inj h;exact Zl5 Z1a rfl (by simp [go_sem])
    ·refine Zo5 hall Side.row ex7 rfl trivial rfl rfl rfl ?_;dsimp only [go_sem];refine Z65 hall hs haf hnap 1 5 ?_;dsimp only [go_sem];refine An ?_;refine Zt3 6 rfl ?_;refine Zo5 hall Side.row ex7 rfl trivial rfl rfl rfl ?_;dsimp only [go_sem];refine Z65 hall hs haf hnap 1 3 ?_;dsimp only [go_sem];refine An ?_;refine Zt3 14 rfl ?_;refine Zy3 hall rfl trivial ?_;dsimp only [go_sem];refine Zt3 15 rfl ?_;obtain ⟨x8,ex8,h⟩:=Bs h;refine Zo4 Mail.row ex8 hall rfl trivial rfl rfl rfl ?_;dsimp only [go_sem];refine Zt3 16 rfl ?_
     refine Zy3 hall rfl trivial ?_;dsimp only [go_sem];refine Zs3 rfl ?_ _;obtain rfl:=Option.some.inj h;exact Zl5 Z1a rfl (by simp [go_sem])
   ·refine Zo5 hall Side.row ex7 rfl trivial rfl rfl rfl ?_;dsimp only [go_sem];refine Zu3 0 11 rfl ?_ ?_
    ·refine Zy3 hall rfl trivial ?_;dsimp only [go_sem];refine Zt3 11 rfl ?_;refine Zo5 hall Side.row ex7 rfl trivial rfl rfl rfl ?_;dsimp only [go_sem];refine Z65 hall hs haf hnap 2 3 ?_;dsimp only [go_sem];refine An ?_;refine Zt3 14 rfl ?_;refine Zy3 hall rfl trivial ?_;dsimp only [go_sem];refine Zt3 15 rfl ?_;obtain ⟨x8,ex8,h⟩:=Bs h;refine Zo4 Mail.row ex8 hall rfl trivial rfl rfl rfl ?_;dsimp only [go_sem];refine Zt3 16 rfl ?_;refine Zy3 hall rfl trivial ?_;dsimp only [go_sem];refine Zs3 rfl ?_ _;obtain rfl:=Option.some.inj h
     exact Zl5 Z1a rfl (by simp [go_sem])
    ·refine Zo5 hall Side.row ex7 rfl trivial rfl rfl rfl ?_;dsimp only [go_sem];refine Z65 hall hs haf hnap 2 4 ?_;dsimp only [go_sem];refine An ?_;refine Zu3 0 14 rfl ?_ ?_
     ·refine Zy3 hall rfl trivial ?_;dsimp only [go_sem];refine Zt3 14 rfl ?_;refine Zy3 hall rfl trivial ?_;dsimp only [go_sem];refine Zt3 15 rfl ?_;obtain ⟨x8,ex8,h⟩:=Bs h;refine Zo4 Mail.row ex8 hall rfl trivial rfl rfl rfl ?_;dsimp only [go_sem];refine Zt3 16 rfl ?_;refine Zy3 hall rfl trivial ?_;dsimp only [go_sem];refine Zs3 rfl ?_ _;obtain rfl:=Option.some.inj h;exact Zl5 Z1a rfl (by simp [go_sem])
     ·refine Zy3 hall rfl trivial ?_;dsimp only [go_sem];refine Zt3 0 rfl ?_;refine Zy3 hall rfl trivial ?_;dsimp only [go_sem];refine Zt3 15 rfl ?_;obtain ⟨x8,ex8,h⟩:=Bs h;refine Zo4 Mail.row ex8 hall rfl trivial rfl rfl rfl ?_;dsimp only [go_sem];refine Zt3 16 rfl ?_;refine Zy3 hall rfl trivial ?_;dsimp only [go_sem];refine Zs3 rfl ?_ _;obtain rfl:=Option.some.inj h;exact Zl5 Z1a rfl (by simp [go_sem])
   ·refine Zo5 hall Side.row ex7 rfl trivial rfl rfl rfl ?_;dsimp only [go_sem];refine Z65 hall hs haf hnap 1 6 ?_;dsimp only [go_sem];refine An ?_;refine Zu3 0 6 rfl ?_ ?_
    ·refine Zy3 hall rfl trivial ?_;dsimp only [go_sem];refine Zt3 6 rfl ?_;refine Zo5 hall Side.row ex7 rfl trivial rfl rfl rfl ?_;dsimp only [go_sem];refine Z65 hall hs haf hnap 1 3 ?_;dsimp only [go_sem];refine An ?_;refine Zt3 14 rfl ?_;refine Zy3 hall rfl trivial ?_;dsimp only [go_sem];refine Zt3 15 rfl ?_;obtain ⟨x8,ex8,h⟩:=Bs h;refine Zo4 Mail.row ex8 hall rfl trivial rfl rfl rfl ?_;dsimp only [go_sem];refine Zt3 16 rfl ?_;refine Zy3 hall rfl trivial ?_;dsimp only [go_sem];refine Zs3 rfl ?_ _;obtain rfl:=Option.some.inj h
     exact Zl5 Z1a rfl (by simp [go_sem])
    ·refine Zo5 hall Side.row ex7 rfl trivial rfl rfl rfl ?_;dsimp only [go_sem];refine Z65 hall hs haf hnap 1 4 ?_;dsimp only [go_sem];refine An ?_;refine Zu3 0 14 rfl ?_ ?_
     ·refine Zy3 hall rfl trivial ?_;dsimp only [go_sem];refine Zt3 14 rfl ?_;refine Zy3 hall rfl trivial ?_;dsimp only [go_sem];refine Zt3 15 rfl ?_;obtain ⟨x8,ex8,h⟩:=Bs h;refine Zo4 Mail.row ex8 hall rfl trivial rfl rfl rfl ?_;dsimp only [go_sem];refine Zt3 16 rfl ?_;refine Zy3 hall rfl trivial ?_;dsimp only [go_sem];refine Zs3 rfl ?_ _;obtain rfl:=Option.some.inj h;exact Zl5 Z1a rfl (by simp [go_sem])
     ·refine Zy3 hall rfl trivial ?_;dsimp only [go_sem];refine Zt3 0 rfl ?_;refine Zy3 hall rfl trivial ?_;dsimp only [go_sem];refine Zt3 15 rfl ?_;obtain ⟨x8,ex8,h⟩:=Bs h;refine Zo4 Mail.row ex8 hall rfl trivial rfl rfl rfl ?_;dsimp only [go_sem];refine Zt3 16 rfl ?_;refine Zy3 hall rfl trivial ?_;dsimp only [go_sem];refine Zs3 rfl ?_ _;obtain rfl:=Option.some.inj h;exact Zl5 Z1a rfl (by simp [go_sem])
  ·refine Zo5 hall Side.row ex7 rfl trivial rfl rfl rfl ?_;dsimp only [go_sem];refine Z65 hall hs haf hnap 1 9 ?_;dsimp only [go_sem];refine An ?_;refine Zu3 0 3 rfl ?_ ?_
   ·refine Zy3 hall rfl trivial ?_;dsimp only [go_sem];refine Zt3 3 rfl ?_;refine Zy3 hall rfl trivial ?_;dsimp only [go_sem];refine Z65 hall hs haf hnap 2 5 ?_;dsimp only [go_sem];refine An ?_;refine Zt3 6 rfl ?_;refine Zo5 hall Side.row ex7 rfl trivial rfl rfl rfl ?_;dsimp only [go_sem];refine Z65 hall hs haf hnap 1 3 ?_;dsimp only [go_sem];refine An ?_;refine Zt3 14 rfl ?_;refine Zy3 hall rfl trivial ?_;dsimp only [go_sem];refine Zt3 15 rfl ?_;obtain ⟨x8,ex8,h⟩:=Bs h;refine Zo4 Mail.row ex8 hall rfl trivial rfl rfl rfl ?_
    dsimp only [go_sem];refine Zt3 16 rfl ?_;refine Zy3 hall rfl trivial ?_;dsimp only [go_sem];refine Zs3 rfl ?_ _;obtain rfl:=Option.some.inj h;exact Zl5 Z1a rfl (by simp [go_sem])
   ·refine Zy3 hall rfl trivial ?_;dsimp only [go_sem];refine Z65 hall hs haf hnap 2 6 ?_;dsimp only [go_sem];refine An ?_;refine Zu3 0 6 rfl ?_ ?_
    ·refine Zy3 hall rfl trivial ?_;dsimp only [go_sem];refine Zt3 6 rfl ?_;refine Zo5 hall Side.row ex7 rfl trivial rfl rfl rfl ?_;dsimp only [go_sem];refine Z65 hall hs haf hnap 1 3 ?_;dsimp only [go_sem];refine An ?_;refine Zt3 14 rfl ?_;refine Zy3 hall rfl trivial ?_;dsimp only [go_sem];refine Zt3 15 rfl ?_;obtain ⟨x8,ex8,h⟩:=Bs h;refine Zo4 Mail.row ex8 hall rfl trivial rfl rfl rfl ?_;dsimp only [go_sem];refine Zt3 16 rfl ?_;refine Zy3 hall rfl trivial ?_;dsimp only [go_sem];refine Zs3 rfl ?_ _;obtain rfl:=Option.some.inj h
     exact Zl5 Z1a rfl (by simp [go_sem])
    ·refine Zo5 hall Side.row ex7 rfl trivial rfl rfl rfl ?_;dsimp only [go_sem];refine Z65 hall hs haf hnap 1 4 ?_;dsimp only [go_sem];refine An ?_;refine Zu3 0 14 rfl ?_ ?_
     ·refine Zy3 hall rfl trivial ?_;dsimp only [go_sem];refine Zt3 14 rfl ?_;refine Zy3 hall rfl trivial ?_;dsimp only [go_sem];refine Zt3 15 rfl ?_;obtain ⟨x8,ex8,h⟩:=Bs h;refine Zo4 Mail.row ex8 hall rfl trivial rfl rfl rfl ?_;dsimp only [go_sem];refine Zt3 16 rfl ?_;refine Zy3 hall rfl trivial ?_;dsimp only [go_sem];refine Zs3 rfl ?_ _;obtain rfl:=Option.some.inj h;exact Zl5 Z1a rfl (by simp [go_sem])
     ·refine Zy3 hall rfl trivial ?_;dsimp only [go_sem];refine Zt3 0 rfl ?_;refine Zy3 hall rfl trivial ?_;dsimp only [go_sem];refine Zt3 15 rfl ?_;obtain ⟨x8,ex8,h⟩:=Bs h;refine Zo4 Mail.row ex8 hall rfl trivial rfl rfl rfl ?_;dsimp only [go_sem];refine Zt3 16 rfl ?_;refine Zy3 hall rfl trivial ?_;dsimp only [go_sem];refine Zs3 rfl ?_ _;obtain rfl:=Option.some.inj h;exact Zl5 Z1a rfl (by simp [go_sem])
noncomputable def Zka (x1:Diner) (x50:(List Mail)):(Int×(List Side))→Option (Int×Int×Int×(List Side)×(List Mail))
| (x65,x66)=>
 some (x1.ID,x65,0,x66,x50)
noncomputable def Zla (x1:Diner) (x49:(List Side)) (x50:(List Mail)):(Int×(List Side))→Option ((Int×(List Side)) ⊕ (Int×Int×Int×(List Side)×(List Mail)))
| (x55,x56)=>
 ifb (decide (x55<(ln Side.row x49))) (
 (at_ x56 x55).bind fun x57=>
 some (.inl (wr (x55+1),x56.set (x55).toNat ((Side.mk x57.Peer x57.Epoch x57.State x57.Fork true x57.Token x57.Bottle x57.Ask))))) (
 Option.map Sum.inr ((Zka x1 x50) (2,x56)))
noncomputable def Zma (x1:Diner) (x49:(List Side)) (x50:(List Mail)):Bool→Option (Int×Int×Int×(List Side)×(List Mail))
| x51=>
 ifb x51 (
 loop (Zla x1 x49 x50) (0,x49)) (
 (Zka x1 x50) (x1.Phase,x49))
noncomputable def Zna (x1:Diner):(Bool×(List Side)×(List Mail))→Option (Int×Int×Int×(List Side)×(List Mail))
| (x48,x49,x50)=>
 ifb (decide (x1.Phase=1)) (
 (Zma x1 x49 x50) x48) (
 (Zma x1 x49 x50) false)
noncomputable def Zoa (x21:Int) (x33:(List Side)) (x34:(List Mail)):Bool→Option ((Bool×Int×(List Side)×(List Mail)) ⊕ (Int×Int×Int×(List Side)×(List Mail)))
| x36=>
 some (.inl (x36,wr (x21+1),x33,x34))
noncomputable def Zpa (x20:Bool) (x21:Int):((List Side)×(List Mail))→Option ((Bool×Int×(List Side)×(List Mail)) ⊕ (Int×Int×Int×(List Side)×(List Mail)))
| (x33,x34)=>
 ifb x20 (
 (at_ x33 x21).bind fun x35=>
 (Zoa x21 x33 x34) x35.Fork) (
 (Zoa x21 x33 x34) false)
noncomputable def Zqa (x1:Diner) (x20:Bool) (x21:Int) (x27:(List Side)) (x28:(List Mail)):Bool→Option ((Bool×Int×(List Side)×(List Mail)) ⊕ (Int×Int×Int×(List Side)×(List Mail)))
| x30=>
 ifb x30 (
 (at_ x27 x21).bind fun x31=>
 (Zia 2 x1.ID x1.Phase x21 (x27.set (x21).toNat ((Side.mk x31.Peer x31.Epoch x31.State x31.Fork x31.Dirty false x31.Bottle x31.Ask))) x28).bind fun x32=>
 (Zpa x20 x21) ((x27.set (x21).toNat ((Side.mk x31.Peer x31.Epoch x31.State x31.Fork x31.Dirty false x31.Bottle x31.Ask))),x32)) (
 (Zpa x20 x21) (x27,x28))
noncomputable def Zra (x1:Diner) (x20:Bool) (x21:Int):((List Side)×(List Mail))→Option ((Bool×Int×(List Side)×(List Mail)) ⊕ (Int×Int×Int×(List Side)×(List Mail)))
| (x27,x28)=>
 ifb (decide (x1.Phase=1)) (
 (at_ x27 x21).bind fun x29=>
 ifb x29.Token (
 (Zqa x1 x20 x21 x27 x28) (!x29.Fork)) (
 (Zqa x1 x20 x21 x27 x28) false)) (
 (Zqa x1 x20 x21 x27 x28) false)
noncomputable def Zsa (x1:Diner) (x20:Bool) (x21:Int) (x22:(List Side)) (x23:(List Mail)) (x24:Side):Bool→Option ((Bool×Int×(List Side)×(List Mail)) ⊕ (Int×Int×Int×(List Side)×(List Mail)))
| x25=>
 ifb x25 (
 (Zia 1 x1.ID x1.Phase x21 (x22.set (x21).toNat ((Side.mk x24.Peer x24.Epoch x24.State false false x24.Token x24.Bottle x24.Ask))) x23).bind fun x26=>
 (Zra x1 x20 x21) ((x22.set (x21).toNat ((Side.mk x24.Peer x24.Epoch x24.State false false x24.Token x24.Bottle x24.Ask))),x26)) (
 (Zra x1 x20 x21) (x22,x23))
noncomputable def Zta (x1:Diner) (x3:(List Side)):(Bool×Int×(List Side)×(List Mail))→Option ((Bool×Int×(List Side)×(List Mail)) ⊕ (Int×Int×Int×(List Side)×(List Mail)))
| (x20,x21,x22,x23)=>
 ifb (decide (x21<(ln Side.row x3))) (
 (at_ x22 x21).bind fun x24=>
 ifb x24.Fork (
 ifb x24.Dirty (
 ifb x24.Token (
 (Zsa x1 x20 x21 x22 x23 x24) (!decide (x1.Phase=2))) (
 (Zsa x1 x20 x21 x22 x23 x24) false)) (
 (Zsa x1 x20 x21 x22 x23 x24) false)) (
 (Zsa x1 x20 x21 x22 x23 x24) false)) (
 Option.map Sum.inr ((Zna x1) (x20,x22,x23)))
noncomputable def Zua (x1:Diner):Option (Int×Int×Int×(List Side)×(List Mail)):=
 (Zt8 x1).bind fun x2=>
 ifb (!decide (x2=0)) (
 some (0,0,x2,([]:List Side),([]:List Mail))) (
 (Zx8 x1.Sides).bind fun x3=>
 loop (Zta x1 x3) (true,0,x3,([]:List Mail)))
theorem Zva (x1:Diner) (r:(Int×Int×Int×(List Side)×(List Mail))) (h:Zua x1=some r):FunT Tryz.prog 177 [.agg [.iv x1.ID,.iv x1.Phase,.sl 8 (List.map Side.row x1.Sides)]] [none,none,none,none] [none] (.tup [.agg [.iv r.1,.iv r.2.1,.osl 1],.osl 2,.iv r.2.2.1]) [none,none,none,none] [none,some ⟨66,8,List.map Side.row r.2.2.2.1⟩,some ⟨95,5,List.map Mail.row r.2.2.2.2⟩]:=by
 refine Zj5 ok177 rfl rfl rfl (by first | rfl | simp [go_sem]) fun w0 M0=>?_
 rw [Zua] at h
 dsimp only [lun,List.cons_append,List.nil_append]
 refine Zn2 11 ?_;dsimp only [go_sem];refine An ?_;obtain ⟨x2,ex2,h⟩:=Bs h;refine Z13 trivial (Zu8 x1 _ ex2) (h:=?_);refine Zn2 7 ?_;dsimp only [go_sem];refine An ?_;refine Zi4 h rfl (fun _ h=>?_) fun _ h=>?_
 ·refine Zn2 8 ?_;dsimp only [go_sem];refine An ?_;refine Z54 5 2 66 8 rfl rfl rfl ?_;dsimp only [go_sem];refine V_own 3 95 5 rfl rfl ?_;dsimp only [go_sem];obtain rfl:=Option.some.inj h;exact Zk5 ok177 rfl (by simp [go_sem])
 ·refine Zn2 5 ?_;dsimp only [go_sem];refine An ?_;obtain ⟨x3,ex3,h⟩:=Bs h;refine Z45 trivial (Zy8 x1.Sides _ ex3) (h:=?_);refine Zn2 19 ?_;dsimp only [go_sem];refine An ?_
  refine Zg4 (fun ((x48,x49,x50):(Bool×(List Side)×(List Mail)))=>(⟨(.any :: .ptr 4 0 :: .ptr 5 0::an 3 (.ptr 6 0 :: .bv x48::an 104 [])),[none,none,none,none,some ⟨61,[.iv x1.ID,.iv x1.Phase,.osl 1]⟩,some ⟨61,[.iv 0,.iv 0,.nl]⟩,some ⟨23,[.osl 2]⟩],[none,some ⟨66,8,List.map Side.row x49⟩,some ⟨95,5,List.map Mail.row x50⟩]⟩:St)) (Zna x1) r ?_ fun J1=>?_
  ·rintro ⟨x48,x49,x50⟩ h;rw [Zna] at h;(try dsimp only);refine Zn2 7 ?_;dsimp only [go_sem];refine An ?_;refine Zg4 (fun (x51:Bool)=>(⟨(.any :: .ptr 4 0 :: .ptr 5 0::an 3 (.ptr 6 0::an 89 (.bv x51::an 15 []))),[none,none,none,none,some ⟨61,[.iv x1.ID,.iv x1.Phase,.osl 1]⟩,some ⟨61,[.iv 0,.iv 0,.nl]⟩,some ⟨23,[.osl 2]⟩],[none,some ⟨66,8,List.map Side.row x49⟩,some ⟨95,5,List.map Mail.row x50⟩]⟩:St)) (Zma x1 x49 x50) r ?_ fun J7=>?_
   ·intro x51 h;rw [Zma] at h;(try dsimp only);refine Zg4 (fun ((x65,x66):(Int×(List Side)))=>(⟨(.any :: .ptr 4 0 :: .ptr 5 0::an 3 (.ptr 6 0::an 105 [])),[none,none,none,none,some ⟨61,[.iv x1.ID,.iv x65,.osl 1]⟩,some ⟨61,[.iv 0,.iv 0,.nl]⟩,some ⟨23,[.osl 2]⟩],[none,some ⟨66,8,List.map Side.row x66⟩,some ⟨95,5,List.map Mail.row x50⟩]⟩:St)) (Zka x1 x50) r ?_ fun J8=>?_
    ·rintro ⟨x65,x66⟩ h;rw [Zka] at h;(try dsimp only);refine Zn2 1 ?_;dsimp only [go_sem];refine An ?_;refine Zi3 (by kernel_rfl) fun all hall hs hnap haf=>?_;dsimp only [go_sem];refine Zu3 0 1 rfl ?_ ?_
     ·refine Zy3 hall rfl trivial ?_;dsimp only [go_sem];refine Zu3 1 2 rfl ?_ ?_
      ·refine Zy3 hall rfl trivial ?_;dsimp only [go_sem];refine Zt3 2 rfl ?_;refine Zy3 hall rfl trivial ?_;dsimp only [go_sem];refine Z65 hall hs haf hnap 2 0 ?_;dsimp only [go_sem];refine An ?_;refine Zs3 rfl ?_ _;obtain rfl:=Option.some.inj h;exact Zk5 ok177 rfl (by simp [go_sem])
      ·refine Zy3 hall rfl trivial ?_;dsimp only [go_sem];refine Zt3 1 rfl ?_;refine Zy3 hall rfl trivial ?_;dsimp only [go_sem];refine Z65 hall hs haf hnap 2 0 ?_;dsimp only [go_sem];refine An ?_;refine Zs3 rfl ?_ _;obtain rfl:=Option.some.inj h;exact Zk5 ok177 rfl (by simp [go_sem])
     ·refine Zy3 hall rfl trivial ?_;dsimp only [go_sem];refine Zt3 0 rfl ?_;refine Zy3 hall rfl trivial ?_;dsimp only [go_sem];refine Zt3 2 rfl ?_;refine Zy3 hall rfl trivial ?_;dsimp only [go_sem];refine Z65 hall hs haf hnap 2 0 ?_;dsimp only [go_sem];refine An ?_;refine Zs3 rfl ?_ _;obtain rfl:=Option.some.inj h;exact Zk5 ok177 rfl (by simp [go_sem])
    ·refine Zi4 h rfl (fun _ h=>?_) fun _ h=>?_
     ·refine Zn2 13 ?_;dsimp only [go_sem];refine An ?_;refine Zh4 h (fun ((x55,x56):(Int×(List Side)))=>(⟨(.any :: .ptr 4 0 :: .ptr 5 0::an 3 (.ptr 6 0::an 93 (.iv (ln Side.row x49) :: .iv x55::an 10 []))),[none,none,none,none,some ⟨61,[.iv x1.ID,.iv 2,.osl 1]⟩,some ⟨61,[.iv 0,.iv 0,.nl]⟩,some ⟨23,[.osl 2]⟩],[none,some ⟨66,8,List.map Side.row x56⟩,some ⟨95,5,List.map Mail.row x50⟩]⟩:St)) (by simp [go_sem]) (by rintro ⟨x55,x56⟩;first | rfl | simp [go_sem]) ?_;rintro n1 ⟨x55,x56⟩ y1 h hin1 hout1;rw [Zla] at h
      (try dsimp only);refine Zn2 5 ?_;dsimp only [go_sem];refine An ?_;refine Zi4 h rfl (fun _ h=>?_) fun _ h=>?_
      ·refine Zn2 12 ?_;dsimp only [go_sem];refine An ?_;obtain ⟨x57,ex57,h⟩:=Bs h;refine Z95 Side.row ex57 trivial rfl rfl rfl ?_;refine Zn2 1 ?_;dsimp only [go_sem];refine An ?_;refine Ze5 [.bv true] Side.row (y':=(Side.mk x57.Peer x57.Epoch x57.State x57.Fork true x57.Token x57.Bottle x57.Ask)) ex57 trivial rfl rfl rfl (by first | exact Za4 _ | simp [go_sem]) rfl rfl rfl rfl ?_;refine Zn2 6 ?_;dsimp only [go_sem];refine An ?_;exact Zr4 h hin1
      ·refine Zn2 1 ?_;dsimp only [go_sem];refine An ?_;exact Zs4 J8 (s:=(2,x56)) (Zf4 h hout1)
     ·refine Zn2 1 ?_;dsimp only [go_sem];refine An ?_;exact Zs4 J8 (s:=(x1.Phase,x49)) h
   ·refine Zp4 94 h rfl (fun _ h=>?_) fun _ h=>?_
    ·dsimp only [go_sem];refine Zn2 3 ?_;dsimp only [go_sem];refine An ?_;exact Zs4 J7 (s:=x48) h
    ·dsimp only [go_sem];refine Zn2 3 ?_;dsimp only [go_sem];refine An ?_;exact Zs4 J7 (s:=false) h
  ·refine Zn2 1 ?_;dsimp only [go_sem];refine An ?_;refine Z54 6 0 95 5 rfl rfl rfl ?_;dsimp only [go_sem]
   refine Zh4 h (fun ((x20,x21,x22,x23):(Bool×Int×(List Side)×(List Mail)))=>(⟨(.any :: .ptr 4 0 :: .ptr 5 0::an 3 (.ptr 6 0 :: .bv x20::an 16 (.iv (ln Side.row x3) :: .iv x21::an 86 []))),[none,none,none,none,some ⟨61,[.iv x1.ID,.iv x1.Phase,.osl 1]⟩,some ⟨61,[.iv 0,.iv 0,.nl]⟩,some ⟨23,[.osl 2]⟩],[none,some ⟨66,8,List.map Side.row x22⟩,some ⟨95,5,List.map Mail.row x23⟩]⟩:St)) (by simp [go_sem]) (by rintro ⟨x20,x21,x22,x23⟩;first | rfl | simp [go_sem]) ?_;rintro n1 ⟨x20,x21,x22,x23⟩ y1 h hin1 hout1;rw [Zta] at h
   (try dsimp only);refine Zn2 5 ?_;dsimp only [go_sem];refine An ?_;refine Zi4 h rfl (fun _ h=>?_) fun _ h=>?_
   ·refine Zn2 13 ?_;dsimp only [go_sem];refine An ?_;obtain ⟨x24,ex24,h⟩:=Bs h;refine Z95 Side.row ex24 trivial rfl rfl rfl ?_;refine Zn2 14 ?_;dsimp only [go_sem];refine An ?_;refine Za5 Side.row ex24 trivial rfl rfl rfl ?_;refine Zn2 1 ?_;dsimp only [go_sem];refine An ?_
    refine Zg4 (fun (x25:Bool)=>(⟨(.any :: .ptr 4 0 :: .ptr 5 0::an 3 (.ptr 6 0 :: .bv x20 :: .any :: .ptr 7 0 :: .clo 194 [.ptr 6 0,.ptr 4 0,.ptr 7 0]::an 13 (.iv (ln Side.row x3) :: .iv x21::an 27 (.bv x25::an 58 [])))),[none,none,none,none,some ⟨61,[.iv x1.ID,.iv x1.Phase,.osl 1]⟩,some ⟨61,[.iv 0,.iv 0,.nl]⟩,some ⟨23,[.osl 2]⟩,some ⟨189,[.oel 1 ((x21).toNat*8) 0]⟩],[none,some ⟨66,8,List.map Side.row x22⟩,some ⟨95,5,List.map Mail.row x23⟩]⟩:St)) (Zsa x1 x20 x21 x22 x23 x24) y1 ?_ fun J2=>?_
    ·intro x25 h;rw [Zsa] at h;(try dsimp only)
     refine Zg4 (fun ((x27,x28):((List Side)×(List Mail)))=>(⟨(.any :: .ptr 4 0 :: .ptr 5 0::an 3 (.ptr 6 0 :: .bv x20 :: .any :: .ptr 7 0 :: .clo 194 [.ptr 6 0,.ptr 4 0,.ptr 7 0]::an 13 (.iv (ln Side.row x3) :: .iv x21::an 86 []))),[none,none,none,none,some ⟨61,[.iv x1.ID,.iv x1.Phase,.osl 1]⟩,some ⟨61,[.iv 0,.iv 0,.nl]⟩,some ⟨23,[.osl 2]⟩,some ⟨189,[.oel 1 ((x21).toNat*8) 0]⟩],[none,some ⟨66,8,List.map Side.row x27⟩,some ⟨95,5,List.map Mail.row x28⟩]⟩:St)) (Zra x1 x20 x21) y1 ?_ fun J3=>?_
     ·rintro ⟨x27,x28⟩ h;rw [Zra] at h;(try dsimp only);refine Zn2 7 ?_;dsimp only [go_sem];refine An ?_
      refine Zg4 (fun (x30:Bool)=>(⟨(.any :: .ptr 4 0 :: .ptr 5 0::an 3 (.ptr 6 0 :: .bv x20 :: .any :: .ptr 7 0 :: .clo 194 [.ptr 6 0,.ptr 4 0,.ptr 7 0]::an 13 (.iv (ln Side.row x3) :: .iv x21::an 51 (.bv x30::an 34 [])))),[none,none,none,none,some ⟨61,[.iv x1.ID,.iv x1.Phase,.osl 1]⟩,some ⟨61,[.iv 0,.iv 0,.nl]⟩,some ⟨23,[.osl 2]⟩,some ⟨189,[.oel 1 ((x21).toNat*8) 0]⟩],[none,some ⟨66,8,List.map Side.row x27⟩,some ⟨95,5,List.map Mail.row x28⟩]⟩:St)) (Zqa x1 x20 x21 x27 x28) y1 ?_ fun J4=>?_
      ·intro x30 h;rw [Zqa] at h;(try dsimp only)
       refine Zg4 (fun ((x33,x34):((List Side)×(List Mail)))=>(⟨(.any :: .ptr 4 0 :: .ptr 5 0::an 3 (.ptr 6 0 :: .bv x20 :: .any :: .ptr 7 0::an 14 (.iv (ln Side.row x3) :: .iv x21::an 86 []))),[none,none,none,none,some ⟨61,[.iv x1.ID,.iv x1.Phase,.osl 1]⟩,some ⟨61,[.iv 0,.iv 0,.nl]⟩,some ⟨23,[.osl 2]⟩,some ⟨189,[.oel 1 ((x21).toNat*8) 0]⟩],[none,some ⟨66,8,List.map Side.row x33⟩,some ⟨95,5,List.map Mail.row x34⟩]⟩:St)) (Zpa x20 x21) y1 ?_ fun J5=>?_
       ·rintro ⟨x33,x34⟩ h;rw [Zpa] at h;(try dsimp only);refine Zn2 3 ?_;dsimp only [go_sem];refine An ?_;refine Zg4 (fun (x36:Bool)=>(⟨(.any :: .ptr 4 0 :: .ptr 5 0::an 3 (.ptr 6 0 :: .bv x36::an 16 (.iv (ln Side.row x3) :: .iv x21::an 86 []))),[none,none,none,none,some ⟨61,[.iv x1.ID,.iv x1.Phase,.osl 1]⟩,some ⟨61,[.iv 0,.iv 0,.nl]⟩,some ⟨23,[.osl 2]⟩],[none,some ⟨66,8,List.map Side.row x33⟩,some ⟨95,5,List.map Mail.row x34⟩]⟩:St)) (Zoa x21 x33 x34) y1 ?_ fun J6=>?_
        ·intro x36 h;rw [Zoa] at h;(try dsimp only);refine Zn2 5 ?_;dsimp only [go_sem];refine An ?_;exact Zr4 h hin1
        ·refine Zp4 84 h rfl (fun _ h=>?_) fun _ h=>?_
         ·dsimp only [go_sem];refine Zn2 3 ?_;dsimp only [go_sem];refine An ?_;obtain ⟨x35,ex35,h⟩:=Bs h;refine Za5 Side.row ex35 trivial rfl rfl rfl ?_;refine Zn2 3 ?_;dsimp only [go_sem];refine An ?_;exact Zs4 J6 (s:=x35.Fork) h
         ·dsimp only [go_sem];refine Zn2 7 ?_;dsimp only [go_sem];refine An ?_;exact Zs4 J6 (s:=false) h
       ·refine Zi4 h rfl (fun _ h=>?_) fun _ h=>?_
        ·refine Zn2 5 ?_;dsimp only [go_sem];refine An ?_;obtain ⟨x31,ex31,h⟩:=Bs h;refine Ze5 [.bv false] Side.row (y':=(Side.mk x31.Peer x31.Epoch x31.State x31.Fork x31.Dirty false x31.Bottle x31.Ask)) ex31 trivial rfl rfl rfl (by first | exact Za4 _ | simp [go_sem]) rfl rfl rfl rfl ?_;refine Zn2 3 ?_;dsimp only [go_sem];refine An ?_;obtain ⟨x32,ex32,h⟩:=Bs h
         refine Zn5 [false,false,false,false,true,false,true,true] [false,true,true] trivial rfl (Zja 2 x1.ID x1.Phase x21 (x27.set (x21).toNat ((Side.mk x31.Peer x31.Epoch x31.State x31.Fork x31.Dirty false x31.Bottle x31.Ask))) x28 _ ex32) (by kernel_rfl) (h:=?_);dsimp only [go_sem];refine Zn2 1 ?_;dsimp only [go_sem];refine An ?_;refine Z44 4 2 rfl rfl rfl ?_;dsimp only [go_sem];exact Zs4 J5 (s:=((x27.set (x21).toNat ((Side.mk x31.Peer x31.Epoch x31.State x31.Fork x31.Dirty false x31.Bottle x31.Ask))),x32)) h
        ·refine Zn2 1 ?_;dsimp only [go_sem];refine An ?_;exact Zs4 J5 (s:=(x27,x28)) h
      ·refine Zp4 65 h rfl (fun _ h=>?_) fun _ h=>?_
       ·dsimp only [go_sem];refine Zn2 3 ?_;dsimp only [go_sem];refine An ?_;obtain ⟨x29,ex29,h⟩:=Bs h;refine Za5 Side.row ex29 trivial rfl rfl rfl ?_;refine Zn2 2 ?_;dsimp only [go_sem];refine An ?_;refine Zp4 71 h rfl (fun _ h=>?_) fun _ h=>?_
        ·dsimp only [go_sem];refine Zn2 3 ?_;dsimp only [go_sem];refine An ?_;refine Za5 Side.row ex29 trivial rfl rfl rfl ?_;refine Zn2 3 ?_;dsimp only [go_sem];refine An ?_;exact Zs4 J4 (s:=!x29.Fork) h
        ·dsimp only [go_sem];refine Zn2 7 ?_;dsimp only [go_sem];refine An ?_;exact Zs4 J4 (s:=false) h
       ·dsimp only [go_sem];refine Zn2 13 ?_;dsimp only [go_sem];refine An ?_;exact Zs4 J4 (s:=false) h
     ·refine Zi4 h rfl (fun _ h=>?_) fun _ h=>?_
      ·refine Zn2 1 ?_;dsimp only [go_sem];refine An ?_;refine Zi3 (by kernel_rfl) fun all hall hs hnap haf=>?_;dsimp only [go_sem];refine Zu3 0 1 rfl ?_ ?_
       ·refine Zy3 hall rfl trivial ?_;dsimp only [go_sem];refine Z65 hall hs haf hnap 2 5 ?_;dsimp only [go_sem];refine An ?_;refine Zu3 1 4 rfl ?_ ?_
        ·refine Zy3 hall rfl trivial ?_;dsimp only [go_sem];refine Zt3 4 rfl ?_;refine Zp5 hall [.bv false] Side.row (y':=(Side.mk x24.Peer x24.Epoch x24.State false x24.Dirty x24.Token x24.Bottle x24.Ask)) ex24 rfl trivial rfl rfl rfl (by first | exact Za4 _ | simp [go_sem]) rfl rfl rfl rfl ?_;dsimp only [go_sem];refine Z65 hall hs haf hnap 2 1 ?_;dsimp only [go_sem];refine An ?_;refine Zt3 7 rfl ?_
         refine Zq5 hall [.bv false] Side.row (y':=(Side.mk x24.Peer x24.Epoch x24.State false false x24.Token x24.Bottle x24.Ask)) (at_set ex24) rfl trivial rfl rfl rfl (by first | exact Za4 _ | simp [go_sem]) rfl rfl rfl rfl ?_;dsimp only [go_sem];refine Zs3 rfl ?_ _;refine Zn2 2 ?_;dsimp only [go_sem];refine An ?_;obtain ⟨x26,ex26,h⟩:=Bs h
         refine Zn5 [false,false,false,false,true,false,true,true] [false,true,true] trivial rfl (Zja 1 x1.ID x1.Phase x21 (x22.set (x21).toNat ((Side.mk x24.Peer x24.Epoch x24.State false false x24.Token x24.Bottle x24.Ask))) x23 _ ex26) (by kernel_rfl) (h:=?_);dsimp only [go_sem];refine Zn2 1 ?_;dsimp only [go_sem];refine An ?_;refine Z44 4 2 rfl rfl rfl ?_;dsimp only [go_sem];exact Zs4 J3 (s:=((x22.set (x21).toNat ((Side.mk x24.Peer x24.Epoch x24.State false false x24.Token x24.Bottle x24.Ask))),x26)) h
        ·refine Zp5 hall [.bv false] Side.row (y':=(Side.mk x24.Peer x24.Epoch x24.State false x24.Dirty x24.Token x24.Bottle x24.Ask)) ex24 rfl trivial rfl rfl rfl (by first | exact Za4 _ | simp [go_sem]) rfl rfl rfl rfl ?_;dsimp only [go_sem];refine Zt3 1 rfl ?_;refine Zy3 hall rfl trivial ?_;dsimp only [go_sem];refine Z65 hall hs haf hnap 2 1 ?_;dsimp only [go_sem];refine An ?_;refine Zt3 7 rfl ?_
         refine Zq5 hall [.bv false] Side.row (y':=(Side.mk x24.Peer x24.Epoch x24.State false false x24.Token x24.Bottle x24.Ask)) (at_set ex24) rfl trivial rfl rfl rfl (by first | exact Za4 _ | simp [go_sem]) rfl rfl rfl rfl ?_;dsimp only [go_sem];refine Zs3 rfl ?_ _;refine Zn2 2 ?_;dsimp only [go_sem];refine An ?_;obtain ⟨x26,ex26,h⟩:=Bs h
         refine Zn5 [false,false,false,false,true,false,true,true] [false,true,true] trivial rfl (Zja 1 x1.ID x1.Phase x21 (x22.set (x21).toNat ((Side.mk x24.Peer x24.Epoch x24.State false false x24.Token x24.Bottle x24.Ask))) x23 _ ex26) (by kernel_rfl) (h:=?_);dsimp only [go_sem];refine Zn2 1 ?_;dsimp only [go_sem];refine An ?_;refine Z44 4 2 rfl rfl rfl ?_;dsimp only [go_sem];exact Zs4 J3 (s:=((x22.set (x21).toNat ((Side.mk x24.Peer x24.Epoch x24.State false false x24.Token x24.Bottle x24.Ask))),x26)) h
       ·refine Zy3 hall rfl trivial ?_;dsimp only [go_sem];refine Zt3 0 rfl ?_;refine Zy3 hall rfl trivial ?_;dsimp only [go_sem];refine Z65 hall hs haf hnap 2 4 ?_;dsimp only [go_sem];refine An ?_;refine Zt3 4 rfl ?_;refine Zp5 hall [.bv false] Side.row (y':=(Side.mk x24.Peer x24.Epoch x24.State false x24.Dirty x24.Token x24.Bottle x24.Ask)) ex24 rfl trivial rfl rfl rfl (by first | exact Za4 _ | simp [go_sem]) rfl rfl rfl rfl ?_;dsimp only [go_sem];refine Z65 hall hs haf hnap 2 1 ?_;dsimp only [go_sem];refine An ?_;refine Zt3 7 rfl ?_
        refine Zq5 hall [.bv false] Side.row (y':=(Side.mk x24.Peer x24.Epoch x24.State false false x24.Token x24.Bottle x24.Ask)) (at_set ex24) rfl trivial rfl rfl rfl (by first | exact Za4 _ | simp [go_sem]) rfl rfl rfl rfl ?_;dsimp only [go_sem];refine Zs3 rfl ?_ _;refine Zn2 2 ?_;dsimp only [go_sem];refine An ?_;obtain ⟨x26,ex26,h⟩:=Bs h
        refine Zn5 [false,false,false,false,true,false,true,true] [false,true,true] trivial rfl (Zja 1 x1.ID x1.Phase x21 (x22.set (x21).toNat ((Side.mk x24.Peer x24.Epoch x24.State false false x24.Token x24.Bottle x24.Ask))) x23 _ ex26) (by kernel_rfl) (h:=?_);dsimp only [go_sem];refine Zn2 1 ?_;dsimp only [go_sem];refine An ?_;refine Z44 4 2 rfl rfl rfl ?_;dsimp only [go_sem];exact Zs4 J3 (s:=((x22.set (x21).toNat ((Side.mk x24.Peer x24.Epoch x24.State false false x24.Token x24.Bottle x24.Ask))),x26)) h
      ·refine Zn2 1 ?_;dsimp only [go_sem];refine An ?_;exact Zs4 J3 (s:=(x22,x23)) h
    ·refine Zp4 37 h rfl (fun _ h=>?_) fun _ h=>?_
     ·dsimp only [go_sem];refine Zn2 3 ?_;dsimp only [go_sem];refine An ?_;refine Za5 Side.row ex24 trivial rfl rfl rfl ?_;refine Zn2 2 ?_;dsimp only [go_sem];refine An ?_;refine Zp4 43 h rfl (fun _ h=>?_) fun _ h=>?_
      ·dsimp only [go_sem];refine Zn2 3 ?_;dsimp only [go_sem];refine An ?_;refine Za5 Side.row ex24 trivial rfl rfl rfl ?_;refine Zn2 2 ?_;dsimp only [go_sem];refine An ?_;refine Zp4 49 h rfl (fun _ h=>?_) fun _ h=>?_
       ·dsimp only [go_sem];refine Zn2 5 ?_;dsimp only [go_sem];refine An ?_;exact Zs4 J2 (s:=!decide (x1.Phase=2)) h
       ·dsimp only [go_sem];refine Zn2 5 ?_;dsimp only [go_sem];refine An ?_;exact Zs4 J2 (s:=false) h
      ·dsimp only [go_sem];refine Zn2 11 ?_;dsimp only [go_sem];refine An ?_;exact Zs4 J2 (s:=false) h
     ·dsimp only [go_sem];refine Zn2 17 ?_;dsimp only [go_sem];refine An ?_;exact Zs4 J2 (s:=false) h
   ·refine Zn2 1 ?_;dsimp only [go_sem];refine An ?_;exact Zs4 J1 (s:=(x20,x22,x23)) (Zf4 h hout1)
noncomputable def Zwa (x1:Side) (x2:Int) (x3:Int) (_x4:Int) (_x5:Int) (_x6:(List Int)) (_x7:(List Side)) (x8:(List Mail)):Option (List Mail):=
 (Zb4 40 x8 ([(Mail.mk x3 x1.Peer ((Msg.mk x2 x1.Epoch 0)))])).bind fun x9=>
 some x9
theorem Zxa (x1:Side) (x2:Int) (x3:Int) (x4:Int) (x5:Int) (x6:(List Int)) (x7:(List Side)) (x8:(List Mail)) (r:(List Mail)) (h:Zwa x1 x2 x3 x4 x5 x6 x7 x8=some r):FunT Tryz.prog 196 [.ptr 2 0,.agg [.iv x1.Peer,.iv x1.Epoch,.iv x1.State,.bv x1.Fork,.bv x1.Dirty,.bv x1.Token,.bv x1.Bottle,.bv x1.Ask],.iv x2] [none,none,some ⟨188,[.iv x3,.iv x4,.osl 1,.iv x5,.sl 1 (List.map Zw4 x6),.osl 5]⟩,none,none] [none,some ⟨66,8,List.map Side.row x7⟩,none,none,none,some ⟨95,5,List.map Mail.row x8⟩] (.tup []) [none,none,some ⟨188,[.iv x3,.iv x4,.osl 1,.iv x5,.sl 1 (List.map Zw4 x6),.osl 7]⟩,none,none] [none,some ⟨66,8,List.map Side.row x7⟩,none,none,none,none,none,some ⟨95,5,List.map Mail.row r⟩]:=by
 refine Zj5 ok196 rfl rfl rfl (by first | rfl | simp [go_sem]) fun w0 M0=>?_
 rw [Zwa] at h
 dsimp only [lun,List.cons_append,List.nil_append]
 refine Zn2 4 ?_;dsimp only [go_sem];refine An ?_;refine Zi3 (by kernel_rfl) fun all hall hs hnap haf=>?_;dsimp only [go_sem];refine Z75 hall hs haf hnap 17 6 [4,1,13,5] [(6,[.ptr 2 0,.ptr 2 0,.ptr 2 0,.ptr 2 5]),(1,[.ptr 2 0,.ptr 2 0,.ptr 2 0,.ptr 2 0,.ptr 2 0,.iv x3,.ptr 5 0,.iv x1.Peer,.iv x2,.ptr 5 1,.iv x1.Epoch,.agg [.iv x2,.iv x1.Epoch,.iv 0],.agg [.iv x3,.iv x1.Peer,.iv x2,.iv x1.Epoch,.iv 0]])] (by kernel_rfl) ?_;dsimp only [go_sem];refine Zu3 4 18 rfl ?_ ?_
 ·refine Zy3 hall rfl trivial ?_;dsimp only [go_sem];refine Zt3 18 rfl ?_;refine Zy3 hall rfl trivial ?_;dsimp only [go_sem];refine Zt3 19 rfl ?_;obtain ⟨x9,ex9,h⟩:=Bs h;refine Zo4 Mail.row ex9 hall rfl trivial rfl rfl rfl ?_;dsimp only [go_sem];refine Z65 hall hs haf hnap 2 1 ?_;dsimp only [go_sem];refine An ?_;refine Zt3 22 rfl ?_;refine Zy3 hall rfl trivial ?_;dsimp only [go_sem];refine Zs3 rfl ?_ _;obtain rfl:=Option.some.inj h;exact Zl5 ok196 rfl (by simp [go_sem])
 ·refine Zy3 hall rfl trivial ?_;dsimp only [go_sem];refine Zt3 4 rfl ?_;refine Zy3 hall rfl trivial ?_;dsimp only [go_sem];refine Zt3 19 rfl ?_;obtain ⟨x9,ex9,h⟩:=Bs h;refine Zo4 Mail.row ex9 hall rfl trivial rfl rfl rfl ?_;dsimp only [go_sem];refine Z65 hall hs haf hnap 2 1 ?_;dsimp only [go_sem];refine An ?_;refine Zt3 22 rfl ?_;refine Zy3 hall rfl trivial ?_;dsimp only [go_sem];refine Zs3 rfl ?_ _;obtain rfl:=Option.some.inj h;exact Zl5 ok196 rfl (by simp [go_sem])
noncomputable def Zya (x59:(List Side)) (x60:(List Mail)):Int→Option (Int×(List Side)×(List Mail))
| x62=>
 some (x62,x59,x60)
noncomputable def Zza (x3:Int) (x59:(List Side)) (x60:(List Mail)):Bool→Option (Int×(List Side)×(List Mail))
| x61=>
 ifb x61 (
 (Zya x59 x60) 2) (
 (Zya x59 x60) x3)
noncomputable def Z0b (x3:Int):(Bool×(List Side)×(List Mail))→Option (Int×(List Side)×(List Mail))
| (x58,x59,x60)=>
 ifb (decide (x3=1)) (
 (Zza x3 x59 x60) x58) (
 (Zza x3 x59 x60) false)
noncomputable def Z1b (x27:Int) (x41:(List Side)) (x42:(List Mail)):Bool→Option ((Bool×Int×(List Side)×(List Mail)) ⊕ (Int×(List Side)×(List Mail)))
| x44=>
 some (.inl (x44,wr (x27+1),x41,x42))
noncomputable def Z2b (x26:Bool) (x27:Int) (x31:Bool):((List Side)×(List Mail))→Option ((Bool×Int×(List Side)×(List Mail)) ⊕ (Int×(List Side)×(List Mail)))
| (x41,x42)=>
 ifb x26 (
 ifb (!x31) (
 (Z1b x27 x41 x42) true) (
 (at_ x41 x27).bind fun x43=>
 (Z1b x27 x41 x42) x43.Bottle)) (
 (Z1b x27 x41 x42) false)
noncomputable def Z3b (x1:Int) (x2:Int) (x3:Int) (x4:(List Int)) (x26:Bool) (x27:Int) (x31:Bool) (x35:(List Side)) (x36:(List Mail)):Bool→Option ((Bool×Int×(List Side)×(List Mail)) ⊕ (Int×(List Side)×(List Mail)))
| x38=>
 ifb x38 (
 (at_ x35 x27).bind fun x39=>
 (Zwa ((Side.mk x39.Peer x39.Epoch x39.State x39.Fork x39.Dirty x39.Token x39.Bottle false)) 4 x1 x2 x3 x4 (x35.set (x27).toNat ((Side.mk x39.Peer x39.Epoch x39.State x39.Fork x39.Dirty x39.Token x39.Bottle false))) x36).bind fun x40=>
 (Z2b x26 x27 x31) ((x35.set (x27).toNat ((Side.mk x39.Peer x39.Epoch x39.State x39.Fork x39.Dirty x39.Token x39.Bottle false))),x40)) (
 (Z2b x26 x27 x31) (x35,x36))
noncomputable def Z4b (x1:Int) (x2:Int) (x3:Int) (x4:(List Int)) (x26:Bool) (x27:Int) (x31:Bool):((List Side)×(List Mail))→Option ((Bool×Int×(List Side)×(List Mail)) ⊕ (Int×(List Side)×(List Mail)))
| (x35,x36)=>
 ifb (decide (x3=1)) (
 ifb x31 (
 (at_ x35 x27).bind fun x37=>
 ifb x37.Ask (
 (Z3b x1 x2 x3 x4 x26 x27 x31 x35 x36) (!x37.Bottle)) (
 (Z3b x1 x2 x3 x4 x26 x27 x31 x35 x36) false)) (
 (Z3b x1 x2 x3 x4 x26 x27 x31 x35 x36) false)) (
 (Z3b x1 x2 x3 x4 x26 x27 x31 x35 x36) false)
noncomputable def Z5b (x1:Int) (x2:Int) (x3:Int) (x4:(List Int)) (x26:Bool) (x27:Int) (x28:(List Side)) (x29:(List Mail)) (x30:Side) (x31:Bool):Bool→Option ((Bool×Int×(List Side)×(List Mail)) ⊕ (Int×(List Side)×(List Mail)))
| x33=>
 ifb x33 (
 (Zwa ((Side.mk x30.Peer x30.Epoch x30.State x30.Fork x30.Dirty x30.Token false x30.Ask)) 3 x1 x2 x3 x4 (x28.set (x27).toNat ((Side.mk x30.Peer x30.Epoch x30.State x30.Fork x30.Dirty x30.Token false x30.Ask))) x29).bind fun x34=>
 (Z4b x1 x2 x3 x4 x26 x27 x31) ((x28.set (x27).toNat ((Side.mk x30.Peer x30.Epoch x30.State x30.Fork x30.Dirty x30.Token false x30.Ask))),x34)) (
 (Z4b x1 x2 x3 x4 x26 x27 x31) (x28,x29))
noncomputable def Z6b (x1:Int) (x2:Int) (x3:Int) (x4:(List Int)) (x26:Bool) (x27:Int) (x28:(List Side)) (x29:(List Mail)) (x30:Side) (x31:Bool):Bool→Option ((Bool×Int×(List Side)×(List Mail)) ⊕ (Int×(List Side)×(List Mail)))
| x32=>
 ifb x30.Bottle (
 ifb x30.Ask (
 (Z5b x1 x2 x3 x4 x26 x27 x28 x29 x30 x31) (!x32)) (
 (Z5b x1 x2 x3 x4 x26 x27 x28 x29 x30 x31) false)) (
 (Z5b x1 x2 x3 x4 x26 x27 x28 x29 x30 x31) false)
noncomputable def Z7b (x1:Int) (x2:Int) (x3:Int) (x4:(List Int)) (x5:(List Side)):(Bool×Int×(List Side)×(List Mail))→Option ((Bool×Int×(List Side)×(List Mail)) ⊕ (Int×(List Side)×(List Mail)))
| (x26,x27,x28,x29)=>
 ifb (decide (x27<(ln Side.row x5))) (
 (at_ x28 x27).bind fun x30=>
 (Z8a x4 x30.Peer).bind fun x31=>
 ifb x31 (
 ifb (decide (x3=2)) (
 (Z6b x1 x2 x3 x4 x26 x27 x28 x29 x30 x31) true) (
 ifb (decide (x3=1)) (
 (Z6b x1 x2 x3 x4 x26 x27 x28 x29 x30 x31) x30.Fork) (
 (Z6b x1 x2 x3 x4 x26 x27 x28 x29 x30 x31) false))) (
 (Z6b x1 x2 x3 x4 x26 x27 x28 x29 x30 x31) false)) (
 Option.map Sum.inr ((Z0b x3) (x26,x28,x29)))
noncomputable def Z8b (x1:Int) (x2:Int) (x3:Int) (x4:(List Int)) (x5:(List Side)) (x6:(List Mail)):Option (Int×(List Side)×(List Mail)):=
 loop (Z7b x1 x2 x3 x4 x5) (true,0,x5,x6)
theorem Z9b (x1:Int) (x2:Int) (x3:Int) (x4:(List Int)) (x5:(List Side)) (x6:(List Mail)) (r:(Int×(List Side)×(List Mail))) (h:Z8b x1 x2 x3 x4 x5 x6=some r):FunT Tryz.prog 178 [.ptr 2 0] [none,none,some ⟨188,[.iv x1,.iv x2,.osl 1,.iv x3,.sl 1 (List.map Zw4 x4),.osl 3]⟩,none,none] [none,some ⟨66,8,List.map Side.row x5⟩,none,some ⟨95,5,List.map Mail.row x6⟩] (.tup []) [none,none,some ⟨188,[.iv x1,.iv x2,.osl 1,.iv r.1,.sl 1 (List.map Zw4 x4),.osl 5]⟩,none,none] [none,some ⟨66,8,List.map Side.row r.2.1⟩,none,none,none,some ⟨95,5,List.map Mail.row r.2.2⟩]:=by
 refine Zj5 ok178 rfl rfl rfl (by first | rfl | simp [go_sem]) fun w0 M0=>?_
 rw [Z8b] at h
 dsimp only [lun,List.cons_append,List.nil_append]
 refine Zn2 16 ?_;dsimp only [go_sem];refine An ?_;refine Zg4 (fun ((x58,x59,x60):(Bool×(List Side)×(List Mail)))=>(⟨(.ptr 2 0 :: .any :: .bv x58::an 132 []),[none,none,some ⟨188,[.iv x1,.iv x2,.osl 1,.iv x3,.sl 1 (List.map Zw4 x4),.osl 5]⟩,none,none],[none,some ⟨66,8,List.map Side.row x59⟩,none,none,none,some ⟨95,5,List.map Mail.row x60⟩]⟩:St)) (Z0b x3) r ?_ fun J1=>?_
 ·rintro ⟨x58,x59,x60⟩ h;rw [Z0b] at h;(try dsimp only);refine Zn2 9 ?_;dsimp only [go_sem];refine An ?_;refine Zg4 (fun (x61:Bool)=>(⟨(.ptr 2 0::an 129 (.bv x61::an 4 [])),[none,none,some ⟨188,[.iv x1,.iv x2,.osl 1,.iv x3,.sl 1 (List.map Zw4 x4),.osl 5]⟩,none,none],[none,some ⟨66,8,List.map Side.row x59⟩,none,none,none,some ⟨95,5,List.map Mail.row x60⟩]⟩:St)) (Zza x3 x59 x60) r ?_ fun J8=>?_
  ·intro x61 h;rw [Zza] at h;(try dsimp only);refine Zg4 (fun (x62:Int)=>(⟨(an 135 []),[none,none,some ⟨188,[.iv x1,.iv x2,.osl 1,.iv x62,.sl 1 (List.map Zw4 x4),.osl 5]⟩,none,none],[none,some ⟨66,8,List.map Side.row x59⟩,none,none,none,some ⟨95,5,List.map Mail.row x60⟩]⟩:St)) (Zya x59 x60) r ?_ fun J9=>?_
   ·intro x62 h;rw [Zya] at h;(try dsimp only);obtain rfl:=Option.some.inj h;exact Zl5 ok178 rfl (by simp [go_sem])
   ·refine Zi4 h rfl (fun _ h=>?_) fun _ h=>?_
    ·refine Zn2 7 ?_;dsimp only [go_sem];refine An ?_;exact Zs4 J9 (s:=2) h
    ·refine Zn2 1 ?_;dsimp only [go_sem];refine An ?_;exact Zs4 J9 (s:=x3) h
  ·refine Zp4 128 h rfl (fun _ h=>?_) fun _ h=>?_
   ·dsimp only [go_sem];refine Zn2 3 ?_;dsimp only [go_sem];refine An ?_;exact Zs4 J8 (s:=x58) h
   ·dsimp only [go_sem];refine Zn2 3 ?_;dsimp only [go_sem];refine An ?_;exact Zs4 J8 (s:=false) h
 ·refine Zn2 1 ?_;dsimp only [go_sem];refine An ?_;refine V_new 95 5 rfl ?_;dsimp only [go_sem];refine V_new 95 5 rfl ?_;dsimp only [go_sem];refine Z44 3 5 rfl rfl rfl ?_;dsimp only [go_sem]
  refine Zh4 h (fun ((x26,x27,x28,x29):(Bool×Int×(List Side)×(List Mail)))=>(⟨(.ptr 2 0 :: .any :: .bv x26::an 10 (.iv (ln Side.row x5) :: .iv x27::an 120 [])),[none,none,some ⟨188,[.iv x1,.iv x2,.osl 1,.iv x3,.sl 1 (List.map Zw4 x4),.osl 5]⟩,none,none],[none,some ⟨66,8,List.map Side.row x28⟩,none,none,none,some ⟨95,5,List.map Mail.row x29⟩]⟩:St)) (by simp [go_sem]) (by rintro ⟨x26,x27,x28,x29⟩;first | rfl | simp [go_sem]) ?_;rintro n1 ⟨x26,x27,x28,x29⟩ y1 h hin1 hout1;rw [Z7b] at h;(try dsimp only)
  refine Zn2 5 ?_;dsimp only [go_sem];refine An ?_;refine Zi4 h rfl (fun _ h=>?_) fun _ h=>?_
  ·refine Zn2 17 ?_;dsimp only [go_sem];refine An ?_;obtain ⟨x30,ex30,h⟩:=Bs h;refine Z95 Side.row ex30 trivial rfl rfl rfl ?_;refine Zn2 3 ?_;dsimp only [go_sem];refine An ?_;refine Zi3 (by kernel_rfl) fun all hall hs hnap haf=>?_;dsimp only [go_sem];refine Z75 hall hs haf hnap 8 3 [8,3] [(25,[.ptr 2 0,.ptr 2 0,.ptr 2 0,.ptr 2 4,.sl 1 (List.map Zw4 x4),.oel 1 ((x27).toNat*8) 0,.oel 1 ((x27).toNat*8) 0,.oel 1 ((x27).toNat*8) 0])] (by kernel_rfl) ?_;dsimp only [go_sem];refine Zt3 8 rfl ?_
   refine Zo5 hall Side.row ex30 rfl trivial rfl rfl rfl ?_;dsimp only [go_sem];refine Zt3 9 rfl ?_;obtain ⟨x31,ex31,h⟩:=Bs h;refine Zz3 hall rfl trivial (k_set_Has x4 x30.Peer _ ex31) (h:=?_);dsimp only [go_sem];refine Z65 hall hs haf hnap 1 0 ?_;dsimp only [go_sem];refine An ?_;refine Zs3 rfl ?_ _;refine Zn2 4 ?_;dsimp only [go_sem];refine An ?_
   refine Zg4 (fun (x32:Bool)=>(⟨(.ptr 2 0 :: .any :: .bv x26 :: .any :: .oel 1 ((x27).toNat*8) 0 :: .bv x31 :: .bv x32::an 6 (.iv (ln Side.row x5) :: .iv x27::an 120 [])),[none,none,some ⟨188,[.iv x1,.iv x2,.osl 1,.iv x3,.sl 1 (List.map Zw4 x4),.osl 5]⟩,none,none],[none,some ⟨66,8,List.map Side.row x28⟩,none,none,none,some ⟨95,5,List.map Mail.row x29⟩]⟩:St)) (Z6b x1 x2 x3 x4 x26 x27 x28 x29 x30 x31) y1 ?_ fun J2=>?_
   ·intro x32 h;rw [Z6b] at h;(try dsimp only);refine Zn2 6 ?_;dsimp only [go_sem];refine An ?_;refine Za5 Side.row ex30 trivial rfl rfl rfl ?_;refine Zn2 1 ?_;dsimp only [go_sem];refine An ?_
    refine Zg4 (fun (x33:Bool)=>(⟨(.ptr 2 0 :: .any :: .bv x26 :: .any :: .oel 1 ((x27).toNat*8) 0 :: .bv x31::an 7 (.iv (ln Side.row x5) :: .iv x27::an 56 (.bv x33::an 63 []))),[none,none,some ⟨188,[.iv x1,.iv x2,.osl 1,.iv x3,.sl 1 (List.map Zw4 x4),.osl 5]⟩,none,none],[none,some ⟨66,8,List.map Side.row x28⟩,none,none,none,some ⟨95,5,List.map Mail.row x29⟩]⟩:St)) (Z5b x1 x2 x3 x4 x26 x27 x28 x29 x30 x31) y1 ?_ fun J3=>?_
    ·intro x33 h;rw [Z5b] at h;(try dsimp only);refine Zg4 (fun ((x35,x36):((List Side)×(List Mail)))=>(⟨(.ptr 2 0 :: .any :: .bv x26 :: .any :: .oel 1 ((x27).toNat*8) 0 :: .bv x31::an 7 (.iv (ln Side.row x5) :: .iv x27::an 120 [])),[none,none,some ⟨188,[.iv x1,.iv x2,.osl 1,.iv x3,.sl 1 (List.map Zw4 x4),.osl 5]⟩,none,none],[none,some ⟨66,8,List.map Side.row x35⟩,none,none,none,some ⟨95,5,List.map Mail.row x36⟩]⟩:St)) (Z4b x1 x2 x3 x4 x26 x27 x31) y1 ?_ fun J4=>?_
     ·rintro ⟨x35,x36⟩ h;rw [Z4b] at h;(try dsimp only);refine Zn2 10 ?_;dsimp only [go_sem];refine An ?_
      refine Zg4 (fun (x38:Bool)=>(⟨(.ptr 2 0 :: .any :: .bv x26 :: .any :: .oel 1 ((x27).toNat*8) 0 :: .bv x31::an 7 (.iv (ln Side.row x5) :: .iv x27::an 86 (.bv x38::an 33 []))),[none,none,some ⟨188,[.iv x1,.iv x2,.osl 1,.iv x3,.sl 1 (List.map Zw4 x4),.osl 5]⟩,none,none],[none,some ⟨66,8,List.map Side.row x35⟩,none,none,none,some ⟨95,5,List.map Mail.row x36⟩]⟩:St)) (Z3b x1 x2 x3 x4 x26 x27 x31 x35 x36) y1 ?_ fun J5=>?_
      ·intro x38 h;rw [Z3b] at h;(try dsimp only);refine Zg4 (fun ((x41,x42):((List Side)×(List Mail)))=>(⟨(.ptr 2 0 :: .any :: .bv x26 :: .any :: .oel 1 ((x27).toNat*8) 0 :: .bv x31::an 7 (.iv (ln Side.row x5) :: .iv x27::an 120 [])),[none,none,some ⟨188,[.iv x1,.iv x2,.osl 1,.iv x3,.sl 1 (List.map Zw4 x4),.osl 5]⟩,none,none],[none,some ⟨66,8,List.map Side.row x41⟩,none,none,none,some ⟨95,5,List.map Mail.row x42⟩]⟩:St)) (Z2b x26 x27 x31) y1 ?_ fun J6=>?_
       ·rintro ⟨x41,x42⟩ h;rw [Z2b] at h;(try dsimp only);refine Zn2 3 ?_;dsimp only [go_sem];refine An ?_;refine Zg4 (fun (x44:Bool)=>(⟨(.ptr 2 0 :: .any :: .bv x44::an 10 (.iv (ln Side.row x5) :: .iv x27::an 120 [])),[none,none,some ⟨188,[.iv x1,.iv x2,.osl 1,.iv x3,.sl 1 (List.map Zw4 x4),.osl 5]⟩,none,none],[none,some ⟨66,8,List.map Side.row x41⟩,none,none,none,some ⟨95,5,List.map Mail.row x42⟩]⟩:St)) (Z1b x27 x41 x42) y1 ?_ fun J7=>?_
        ·intro x44 h;rw [Z1b] at h;(try dsimp only);refine Zn2 5 ?_;dsimp only [go_sem];refine An ?_;exact Zr4 h hin1
        ·refine Zp4 111 h rfl (fun _ h=>?_) fun _ h=>?_
         ·dsimp only [go_sem];refine Zn2 3 ?_;dsimp only [go_sem];refine An ?_;refine Zp4 114 h rfl (fun _ h=>?_) fun _ h=>?_
          ·dsimp only [go_sem];refine Zn2 8 ?_;dsimp only [go_sem];refine An ?_;exact Zs4 J7 (s:=true) h
          ·dsimp only [go_sem];refine Zn2 3 ?_;dsimp only [go_sem];refine An ?_;obtain ⟨x43,ex43,h⟩:=Bs h;refine Za5 Side.row ex43 trivial rfl rfl rfl ?_;refine Zn2 4 ?_;dsimp only [go_sem];refine An ?_;exact Zs4 J7 (s:=x43.Bottle) h
         ·dsimp only [go_sem];refine Zn2 11 ?_;dsimp only [go_sem];refine An ?_;exact Zs4 J7 (s:=false) h
       ·refine Zi4 h rfl (fun _ h=>?_) fun _ h=>?_
        ·refine Zn2 5 ?_;dsimp only [go_sem];refine An ?_;obtain ⟨x39,ex39,h⟩:=Bs h;refine Ze5 [.bv false] Side.row (y':=(Side.mk x39.Peer x39.Epoch x39.State x39.Fork x39.Dirty x39.Token x39.Bottle false)) ex39 trivial rfl rfl rfl (by first | exact Za4 _ | simp [go_sem]) rfl rfl rfl rfl ?_;refine Zn2 5 ?_;dsimp only [go_sem];refine An ?_;refine Zb5 Side.row (at_set ex39) trivial rfl rfl rfl ?_;obtain ⟨x40,ex40,h⟩:=Bs h
         refine Zm5 [false,false,true,false,false] [false,true,false,false,false,true] trivial (Zxa ((Side.mk x39.Peer x39.Epoch x39.State x39.Fork x39.Dirty x39.Token x39.Bottle false)) 4 x1 x2 x3 x4 (x35.set (x27).toNat ((Side.mk x39.Peer x39.Epoch x39.State x39.Fork x39.Dirty x39.Token x39.Bottle false))) x36 _ ex40) (h:=?_);dsimp only [go_sem];refine Zn2 1 ?_;dsimp only [go_sem];refine An ?_;refine Z44 7 5 rfl rfl rfl ?_;dsimp only [go_sem]
         exact Zs4 J6 (s:=((x35.set (x27).toNat ((Side.mk x39.Peer x39.Epoch x39.State x39.Fork x39.Dirty x39.Token x39.Bottle false))),x40)) h
        ·refine Zn2 1 ?_;dsimp only [go_sem];refine An ?_;exact Zs4 J6 (s:=(x35,x36)) h
      ·refine Zp4 86 h rfl (fun _ h=>?_) fun _ h=>?_
       ·dsimp only [go_sem];refine Zn2 3 ?_;dsimp only [go_sem];refine An ?_;refine Zp4 89 h rfl (fun _ h=>?_) fun _ h=>?_
        ·dsimp only [go_sem];refine Zn2 3 ?_;dsimp only [go_sem];refine An ?_;obtain ⟨x37,ex37,h⟩:=Bs h;refine Za5 Side.row ex37 trivial rfl rfl rfl ?_;refine Zn2 2 ?_;dsimp only [go_sem];refine An ?_;refine Zp4 95 h rfl (fun _ h=>?_) fun _ h=>?_
         ·dsimp only [go_sem];refine Zn2 3 ?_;dsimp only [go_sem];refine An ?_;refine Za5 Side.row ex37 trivial rfl rfl rfl ?_;refine Zn2 3 ?_;dsimp only [go_sem];refine An ?_;exact Zs4 J5 (s:=!x37.Bottle) h
         ·dsimp only [go_sem];refine Zn2 7 ?_;dsimp only [go_sem];refine An ?_;exact Zs4 J5 (s:=false) h
        ·dsimp only [go_sem];refine Zn2 13 ?_;dsimp only [go_sem];refine An ?_;exact Zs4 J5 (s:=false) h
       ·dsimp only [go_sem];refine Zn2 16 ?_;dsimp only [go_sem];refine An ?_;exact Zs4 J5 (s:=false) h
     ·refine Zi4 h rfl (fun _ h=>?_) fun _ h=>?_
      ·refine Zn2 5 ?_;dsimp only [go_sem];refine An ?_;refine Ze5 [.bv false] Side.row (y':=(Side.mk x30.Peer x30.Epoch x30.State x30.Fork x30.Dirty x30.Token false x30.Ask)) ex30 trivial rfl rfl rfl (by first | exact Za4 _ | simp [go_sem]) rfl rfl rfl rfl ?_;refine Zn2 5 ?_;dsimp only [go_sem];refine An ?_;refine Zb5 Side.row (at_set ex30) trivial rfl rfl rfl ?_;obtain ⟨x34,ex34,h⟩:=Bs h
       refine Zm5 [false,false,true,false,false] [false,true,false,false,false,true] trivial (Zxa ((Side.mk x30.Peer x30.Epoch x30.State x30.Fork x30.Dirty x30.Token false x30.Ask)) 3 x1 x2 x3 x4 (x28.set (x27).toNat ((Side.mk x30.Peer x30.Epoch x30.State x30.Fork x30.Dirty x30.Token false x30.Ask))) x29 _ ex34) (h:=?_);dsimp only [go_sem];refine Zn2 1 ?_;dsimp only [go_sem];refine An ?_;refine Z44 7 5 rfl rfl rfl ?_;dsimp only [go_sem]
       exact Zs4 J4 (s:=((x28.set (x27).toNat ((Side.mk x30.Peer x30.Epoch x30.State x30.Fork x30.Dirty x30.Token false x30.Ask))),x34)) h
      ·refine Zn2 1 ?_;dsimp only [go_sem];refine An ?_;exact Zs4 J4 (s:=(x28,x29)) h
    ·refine Zp4 62 h rfl (fun _ h=>?_) fun _ h=>?_
     ·dsimp only [go_sem];refine Zn2 3 ?_;dsimp only [go_sem];refine An ?_;refine Za5 Side.row ex30 trivial rfl rfl rfl ?_;refine Zn2 2 ?_;dsimp only [go_sem];refine An ?_;refine Zp4 68 h rfl (fun _ h=>?_) fun _ h=>?_
      ·dsimp only [go_sem];refine Zn2 4 ?_;dsimp only [go_sem];refine An ?_;exact Zs4 J3 (s:=!x32) h
      ·dsimp only [go_sem];refine Zn2 4 ?_;dsimp only [go_sem];refine An ?_;exact Zs4 J3 (s:=false) h
     ·dsimp only [go_sem];refine Zn2 10 ?_;dsimp only [go_sem];refine An ?_;exact Zs4 J3 (s:=false) h
   ·refine Zp4 36 h rfl (fun _ h=>?_) fun _ h=>?_
    ·dsimp only [go_sem];refine Zn2 7 ?_;dsimp only [go_sem];refine An ?_;refine Zp4 43 h rfl (fun _ h=>?_) fun _ h=>?_
     ·dsimp only [go_sem];refine Zn2 16 ?_;dsimp only [go_sem];refine An ?_;exact Zs4 J2 (s:=true) h
     ·dsimp only [go_sem];refine Zn2 7 ?_;dsimp only [go_sem];refine An ?_;refine Zp4 50 h rfl (fun _ h=>?_) fun _ h=>?_
      ·dsimp only [go_sem];refine Zn2 3 ?_;dsimp only [go_sem];refine An ?_;refine Za5 Side.row ex30 trivial rfl rfl rfl ?_;refine Zn2 5 ?_;dsimp only [go_sem];refine An ?_;exact Zs4 J2 (s:=x30.Fork) h
      ·dsimp only [go_sem];refine Zn2 9 ?_;dsimp only [go_sem];refine An ?_;exact Zs4 J2 (s:=false) h
    ·dsimp only [go_sem];refine Zn2 23 ?_;dsimp only [go_sem];refine An ?_;exact Zs4 J2 (s:=false) h
  ·refine Zn2 1 ?_;dsimp only [go_sem];refine An ?_;exact Zs4 J1 (s:=(x26,x28,x29)) (Zf4 h hout1)
noncomputable def Zab (x1:Int) (x3:(List Side)) (x4:Int) (x5:(List Int)) (x6:(List Mail)):Int→Option (Int×Int×Int×(List Side)×(List Mail))
| x10=>
 (Zua ((Diner.mk x1 x10 x3))).bind fun x11=>
 (Zb4 40 x6 x11.2.2.2.2).bind fun x12=>
 (Z8b x11.1 x11.2.1 x4 x5 x11.2.2.2.1 x12).bind fun x13=>
 some (x11.1,x11.2.1,x13.1,x13.2.1,x13.2.2)
noncomputable def Zbb (x1:Int) (x2:Int) (x3:(List Side)) (x4:Int) (x5:(List Int)) (x6:(List Mail)):Bool→Option (Int×Int×Int×(List Side)×(List Mail))
| x9=>
 ifb x9 (
 (Zab x1 x3 x4 x5 x6) 0) (
 (Zab x1 x3 x4 x5 x6) x2)
noncomputable def Zcb (x1:Int) (x2:Int) (x3:(List Side)) (x4:Int) (x5:(List Int)) (x6:(List Mail)):Bool→Option (Int×Int×Int×(List Side)×(List Mail))
| x7=>
 ifb x7 (
 (Zab x1 x3 x4 x5 x6) 1) (
 ifb (decide (x2=2)) (
 ifb (!decide (x4=1)) (
 (Zg8 x3 ((fun z=>Zz9 z))).bind fun x8=>
 (Zbb x1 x2 x3 x4 x5 x6) (!x8)) (
 (Zbb x1 x2 x3 x4 x5 x6) false)) (
 (Zbb x1 x2 x3 x4 x5 x6) false))
noncomputable def Zdb (x1:Int) (x2:Int) (x3:(List Side)) (x4:Int) (x5:(List Int)) (x6:(List Mail)):Option (Int×Int×Int×(List Side)×(List Mail)):=
 ifb (decide (x4=1)) (
 (Zcb x1 x2 x3 x4 x5 x6) (decide (x2=0))) (
 (Zcb x1 x2 x3 x4 x5 x6) false)
theorem Zeb (x1:Int) (x2:Int) (x3:(List Side)) (x4:Int) (x5:(List Int)) (x6:(List Mail)) (r:(Int×Int×Int×(List Side)×(List Mail))) (h:Zdb x1 x2 x3 x4 x5 x6=some r):FunT Tryz.prog 157 [.ptr 2 0] [none,none,some ⟨188,[.iv x1,.iv x2,.sl 8 (List.map Side.row x3),.iv x4,.sl 1 (List.map Zw4 x5),.osl 0]⟩,none] [some ⟨95,5,List.map Mail.row x6⟩] (.tup []) [none,none,some ⟨188,[.iv r.1,.iv r.2.1,.osl 1,.iv r.2.2.1,.sl 1 (List.map Zw4 x5),.osl 5]⟩,none] [none,some ⟨66,8,List.map Side.row r.2.2.2.1⟩,none,none,none,some ⟨95,5,List.map Mail.row r.2.2.2.2⟩]:=by
 refine Zj5 ok157 rfl rfl rfl (by first | rfl | simp [go_sem]) fun w0 M0=>?_
 rw [Zdb] at h
 dsimp only [lun,List.cons_append,List.nil_append]
 refine Zn2 15 ?_;dsimp only [go_sem];refine An ?_;refine Zg4 (fun (x7:Bool)=>(⟨(.ptr 2 0 :: .any :: .clo 176 []::an 3 (.bv x7::an 78 [])),[none,none,some ⟨188,[.iv x1,.iv x2,.sl 8 (List.map Side.row x3),.iv x4,.sl 1 (List.map Zw4 x5),.osl 0]⟩,none],[some ⟨95,5,List.map Mail.row x6⟩]⟩:St)) (Zcb x1 x2 x3 x4 x5 x6) r ?_ fun J1=>?_
 ·intro x7 h;rw [Zcb] at h;(try dsimp only);refine Zg4 (fun (x10:Int)=>(⟨(.ptr 2 0::an 84 []),[none,none,some ⟨188,[.iv x1,.iv x10,.sl 8 (List.map Side.row x3),.iv x4,.sl 1 (List.map Zw4 x5),.osl 0]⟩,none],[some ⟨95,5,List.map Mail.row x6⟩]⟩:St)) (Zab x1 x3 x4 x5 x6) r ?_ fun J2=>?_
  ·intro x10 h;rw [Zab] at h;(try dsimp only);refine Zn2 8 ?_;dsimp only [go_sem];refine An ?_;obtain ⟨x11,ex11,h⟩:=Bs h;refine Zm5 [false,false,false,false] [false] trivial (Zva ((Diner.mk x1 x10 x3)) _ ex11) (h:=?_);dsimp only [go_sem];refine Zn2 26 ?_;dsimp only [go_sem];refine An ?_;obtain ⟨x12,ex12,h⟩:=Bs h;refine Zn4 Mail.row ex12 trivial rfl rfl rfl ?_;refine Zn2 6 ?_;dsimp only [go_sem];refine An ?_;obtain ⟨x13,ex13,h⟩:=Bs h
   refine Zm5 [false,false,true,false,false] [false,true,false,true] trivial (Z9b x11.1 x11.2.1 x4 x5 x11.2.2.2.1 x12 _ ex13) (h:=?_);dsimp only [go_sem];refine Zn2 1 ?_;dsimp only [go_sem];refine An ?_;obtain rfl:=Option.some.inj h;exact Zl5 ok157 rfl (by simp [go_sem])
  ·refine Zi4 h rfl (fun _ h=>?_) fun _ h=>?_
   ·refine Zn2 8 ?_;dsimp only [go_sem];refine An ?_;exact Zs4 J2 (s:=1) h
   ·refine Zn2 10 ?_;dsimp only [go_sem];refine An ?_;refine Zg4 (fun (x9:Bool)=>(⟨(.ptr 2 0::an 26 (.bv x9::an 57 [])),[none,none,some ⟨188,[.iv x1,.iv x2,.sl 8 (List.map Side.row x3),.iv x4,.sl 1 (List.map Zw4 x5),.osl 0]⟩,none],[some ⟨95,5,List.map Mail.row x6⟩]⟩:St)) (Zbb x1 x2 x3 x4 x5 x6) r ?_ fun J3=>?_
    ·intro x9 h;rw [Zbb] at h;(try dsimp only);refine Zi4 h rfl (fun _ h=>?_) fun _ h=>?_
     ·refine Zn2 8 ?_;dsimp only [go_sem];refine An ?_;exact Zs4 J2 (s:=0) h
     ·refine Zn2 1 ?_;dsimp only [go_sem];refine An ?_;exact Zs4 J2 (s:=x2) h
    ·refine Zp4 35 h rfl (fun _ h=>?_) fun _ h=>?_
     ·dsimp only [go_sem];refine Zn2 8 ?_;dsimp only [go_sem];refine An ?_;refine Zp4 43 h rfl (fun _ h=>?_) fun _ h=>?_
      ·dsimp only [go_sem];refine Zn2 7 ?_;dsimp only [go_sem];refine An ?_;obtain ⟨x8,ex8,h⟩:=Bs h;refine Z13 trivial (Zh8 x3 _ _ ((fun z=>Zz9 z)) ⟨by kernel_rfl,rfl,fun z r hz=>Z0a z r hz⟩ _ ex8) (h:=?_);refine Zn2 4 ?_;dsimp only [go_sem];refine An ?_;exact Zs4 J3 (s:=!x8) h
      ·dsimp only [go_sem];refine Zn2 12 ?_;dsimp only [go_sem];refine An ?_;exact Zs4 J3 (s:=false) h
     ·dsimp only [go_sem];refine Zn2 20 ?_;dsimp only [go_sem];refine An ?_;exact Zs4 J3 (s:=false) h
 ·refine Zp4 13 h rfl (fun _ h=>?_) fun _ h=>?_
  ·dsimp only [go_sem];refine Zn2 10 ?_;dsimp only [go_sem];refine An ?_;exact Zs4 J1 (s:=decide (x2=0)) h
  ·dsimp only [go_sem];refine Zn2 10 ?_;dsimp only [go_sem];refine An ?_;exact Zs4 J1 (s:=false) h
noncomputable def Zfb (x3:Drinker):(Int×Int×(List Side)×Int×(List Mail))→Option ((Int×Int×(List Side)×Int×(List Mail)) ⊕ (Drinker×(List Mail)×Int))
| (x12,x13,x14,x15,x16)=>
 (Zx9 ((Drinker.mk ((Diner.mk x12 x13 x14)) x15 x3.Need))).bind fun x17=>
 (Zdb x12 x13 x14 x15 x3.Need x16).bind fun x18=>
 (Zga x17 ((Drinker.mk ((Diner.mk x18.1 x18.2.1 x18.2.2.2.1)) x18.2.2.1 x3.Need))).bind fun x19=>
 ifb x19 (
 Option.map Sum.inr (some ((Drinker.mk ((Diner.mk x18.1 x18.2.1 x18.2.2.2.1)) x18.2.2.1 x3.Need),x18.2.2.2.2,0))) (
 some (.inl (x18.1,x18.2.1,x18.2.2.2.1,x18.2.2.1,x18.2.2.2.2)))
noncomputable def Zgb (x1:Drinker):Option (Drinker×(List Mail)×Int):=
 (Zt9 x1).bind fun x2=>
 ifb (!decide (x2=0)) (
 some ((Drinker.mk ((Diner.mk 0 0 (([]:(List Side))))) 0 (([]:(List Int)))),([]:(List Mail)),x2)) (
 (Zx9 x1).bind fun x3=>
 loop (Zfb x3) (x3.Diner.ID,x3.Diner.Phase,x3.Diner.Sides,x3.Thirst,([]:List Mail)))
theorem k_drink_Fire (x1:Drinker) (r:(Drinker×(List Mail)×Int)) (h:Zgb x1=some r):Zs2 Tryz.prog 135 [.agg (Drinker.row x1)] (.tup [.agg (Drinker.row r.1),.sl 5 (List.map Mail.row r.2.1),.iv r.2.2]):=by
 refine Zw2 ok135 rfl rfl fun w0 H0=>?_
 rw [Zgb] at h
 refine Zn2 11 ?_;dsimp only [go_sem];refine An ?_;obtain ⟨x2,ex2,h⟩:=Bs h;refine Z13 trivial (Zu9 x1 _ ex2) (h:=?_);refine Zn2 7 ?_;dsimp only [go_sem];refine An ?_;refine Zi4 h rfl (fun _ h=>?_) fun _ h=>?_
 ·refine Zn2 8 ?_;dsimp only [go_sem];refine An ?_;exact Zq4 (res:=fun (r:(Drinker×(List Mail)×Int))=>.tup [.agg (Drinker.row r.1),.sl 5 (List.map Mail.row r.2.1),.iv r.2.2]) ok135 h
 ·refine Zn2 4 ?_;dsimp only [go_sem];refine An ?_;obtain ⟨x3,ex3,h⟩:=Bs h;refine Z13 trivial (Zy9 x1 _ ex3) (h:=?_);refine Zn2 5 ?_;dsimp only [go_sem];refine An ?_;refine Z54 2 5 95 5 rfl rfl rfl ?_;dsimp only [go_sem]
  refine Zh4 h (fun ((x12,x13,x14,x15,x16):(Int×Int×(List Side)×Int×(List Mail)))=>(⟨(.any :: .any :: .ptr 1 0::an 3 (.ptr 2 0::an 32 [])),[none,some ⟨63,[.iv 0,.iv 0,.nl,.iv 0,.nl]⟩,some ⟨188,[.iv x12,.iv x13,.sl 8 (List.map Side.row x14),.iv x15,.sl 1 (List.map Zw4 x3.Need),.osl 0]⟩],[some ⟨95,5,List.map Mail.row x16⟩]⟩:St)) (by simp [go_sem]) (by rintro ⟨x12,x13,x14,x15,x16⟩;first | rfl | simp [go_sem]) ?_;rintro n1 ⟨x12,x13,x14,x15,x16⟩ y1 h hin1 hout1;rw [Zfb] at h;(try dsimp only);refine Zn2 7 ?_;dsimp only [go_sem]
  refine An ?_;obtain ⟨x17,ex17,h⟩:=Bs h;refine Z13 trivial (Zy9 ((Drinker.mk ((Diner.mk x12 x13 x14)) x15 x3.Need)) _ ex17) (h:=?_);refine Zn2 6 ?_;dsimp only [go_sem];refine An ?_;obtain ⟨x18,ex18,h⟩:=Bs h;refine Zm5 [false,false,true,false] [true] trivial (Zeb x12 x13 x14 x15 x3.Need x16 _ ex18) (h:=?_);dsimp only [go_sem];refine Zn2 2 ?_;dsimp only [go_sem];refine An ?_;refine Zi3 (by kernel_rfl) fun all hall hs hnap haf=>?_;dsimp only [go_sem];refine Z65 hall hs haf hnap 4 2 ?_;dsimp only [go_sem]
  refine An ?_;refine Zt3 4 rfl ?_;refine Zy3 hall rfl trivial ?_;dsimp only [go_sem];refine Zt3 5 rfl ?_;obtain ⟨x19,ex19,h⟩:=Bs h;refine GO_callL hall rfl trivial ((Zt4.refl _).slice 1 rfl) (Zha x17 ((Drinker.mk ((Diner.mk x18.1 x18.2.1 x18.2.2.2.1)) x18.2.2.1 x3.Need)) _ ex19) (h:=?_);dsimp only [go_sem];refine Zs3 rfl ?_ _;refine Zi4 h rfl (fun _ h=>?_) fun _ h=>?_
  ·refine Zn2 1 ?_;dsimp only [go_sem];refine An ?_;refine Zi3 (by kernel_rfl) fun all hall hs hnap haf=>?_;dsimp only [go_sem];refine Z75 hall hs haf hnap 6 5 [3,1,3,4] [(31,[.ptr 2 0,.ptr 2 0,.ptr 2 0]),(1,[.ptr 2 0,.ptr 2 0,.ptr 2 5])] (by kernel_rfl) ?_;dsimp only [go_sem];refine Zu3 3 7 rfl ?_ ?_
   ·refine Zy3 hall rfl trivial ?_;dsimp only [go_sem];refine Zu3 7 8 rfl ?_ ?_
    ·refine Zy3 hall rfl trivial ?_;dsimp only [go_sem];refine Zt3 8 rfl ?_;refine Zy3 hall rfl trivial ?_;dsimp only [go_sem];refine Z65 hall hs haf hnap 2 0 ?_;dsimp only [go_sem];refine An ?_;refine Zs3 rfl ?_ _;refine Za3 1 rfl ?_;dsimp only [go_sem];refine Za3 5 rfl ?_;dsimp only [go_sem];exact Zq4 (res:=fun (r:(Drinker×(List Mail)×Int))=>.tup [.agg (Drinker.row r.1),.sl 5 (List.map Mail.row r.2.1),.iv r.2.2]) ok135 (Zf4 h hout1)
    ·refine Zy3 hall rfl trivial ?_;dsimp only [go_sem];refine Zt3 7 rfl ?_;refine Zy3 hall rfl trivial ?_;dsimp only [go_sem];refine Z65 hall hs haf hnap 2 0 ?_;dsimp only [go_sem];refine An ?_;refine Zs3 rfl ?_ _;refine Za3 1 rfl ?_;dsimp only [go_sem];refine Za3 5 rfl ?_;dsimp only [go_sem];exact Zq4 (res:=fun (r:(Drinker×(List Mail)×Int))=>.tup [.agg (Drinker.row r.1),.sl 5 (List.map Mail.row r.2.1),.iv r.2.2]) ok135 (Zf4 h hout1)
   ·refine Zy3 hall rfl trivial ?_;dsimp only [go_sem];refine Zt3 3 rfl ?_;refine Zy3 hall rfl trivial ?_;dsimp only [go_sem];refine Zt3 8 rfl ?_;refine Zy3 hall rfl trivial ?_;dsimp only [go_sem];refine Z65 hall hs haf hnap 2 0 ?_;dsimp only [go_sem];refine An ?_;refine Zs3 rfl ?_ _;refine Za3 1 rfl ?_;dsimp only [go_sem];refine Za3 5 rfl ?_;dsimp only [go_sem];exact Zq4 (res:=fun (r:(Drinker×(List Mail)×Int))=>.tup [.agg (Drinker.row r.1),.sl 5 (List.map Mail.row r.2.1),.iv r.2.2]) ok135 (Zf4 h hout1)
  ·refine Zn2 2 ?_;dsimp only [go_sem];refine An ?_;refine Za3 1 rfl ?_;dsimp only [go_sem];refine Z44 5 0 rfl rfl rfl ?_;dsimp only [go_sem];exact Zr4 h hin1
theorem s_send (k id ph:Int) (a b:List Side) (x:Side) (E:List Mail) (hE:E.length≤1000000):Zia k id ph (a.length:Int) (a++x::b) E=some (E++[⟨id,x.Peer,⟨k,x.Epoch,0⟩⟩]):=by
 simp only [Zia]
 rw [Zr7 rfl,Option.bind_some,Z06 _ _ (by omega) (by simp;omega),Option.bind_some]
theorem fire_step (d:Diner) (l:List Side) (hl:l.length<64) (pre post:List Side) (x:Side) (h:l=pre++x::post) (all:Bool) (A:List Side) (hA:A.length=pre.length) (E:List Mail) (hE:E.length≤1000):
  Zta d l (all,(pre.length:Int),A++x::post,E)=some (.inl (all&&(Zc9 d.Phase x).Fork,((pre.length+1:Nat):Int),A++Zc9 d.Phase x::post,E++Zd9 d.ID d.Phase x)):=by
 have hx:=Zo7 h
 have hm:=Zp7 h
 have at1:∀y:Side,at_ (A++y::post) (pre.length:Int)=some y:=fun y=>by rw [←hA];exact Zr7 rfl
 have st1:∀y z:Side,(A++y::post).set ((pre.length:Int)).toNat z=A++z::post:=fun y z=>by rw [←hA];exact Zs7 _ _ _ _
 have sd:∀(k:Int) (y:Side) (E:List Mail),E.length≤1000000→Zia k d.ID d.Phase (pre.length:Int) (A++y::post) E=some (E++[⟨d.ID,y.Peer,⟨k,y.Epoch,0⟩⟩]):=fun k y E hE=>by rw [←hA];exact s_send k d.ID d.Phase A post y E hE
 have fin:∀(y:Side) (E':List Mail),Zpa all (pre.length:Int) (A++y::post,E')=some (.inl (all&&y.Fork,((pre.length+1:Nat):Int),A++y::post,E')):=fun y E'=>by
  dsimp only [Zpa,Zoa]
  rw [at1,Z36 (by omega)]
  cases all<;>rfl
 have j3:∀(y:Side) (E':List Mail),E'.length≤100000→Zra d all (pre.length:Int) (A++y::post,E') =
   if decide (d.Phase=1)&&(y.Token&&!y.Fork) then some (.inl (all&&y.Fork,((pre.length+1:Nat):Int),A++{y with Token:=false}::post,E'++[⟨d.ID,y.Peer,⟨2,y.Epoch,0⟩⟩])) else some (.inl (all&&y.Fork,((pre.length+1:Nat):Int),A++y::post,E')):=fun y E' hE'=>by
  dsimp only [Zra]
  by_cases h1:d.Phase=1
  ·rw [decide_eq_true h1,Zv5,at1,Option.bind_some]
   cases ht:y.Token with
   | false=>dsimp only [Zqa];rw [Zw5,Zw5,fin];simp
   | true=>
     cases hf:y.Fork with
     | true=>dsimp only [Zqa];rw [Zv5,Bool.not_true,Zw5,fin];simp [hf]
     | false=>
       dsimp only [Zqa]
       rw [Zv5,Bool.not_false,Zv5,at1,Option.bind_some,st1,sd _ _ _ (by omega),Option.bind_some,fin]
       simp [hf]
  ·rw [decide_eq_false h1,Zw5];dsimp only [Zqa];rw [Zw5,fin];simp
 dsimp only [Zta]
 rw [Z16 hx,Zv5,at1,Option.bind_some]
 have j2:∀z:Bool,Zsa d all (pre.length:Int) (A++x::post) E x z=if z then Zra d all (pre.length:Int) (A++{x with Fork:=false,Dirty:=false}::post,E++[⟨d.ID,x.Peer,⟨1,x.Epoch,0⟩⟩]) else Zra d all (pre.length:Int) (A++x::post,E):=fun z=>by
  cases z with
  | false=>dsimp only [Zsa];rw [Zw5];rfl
  | true=>
    dsimp only [Zsa]
    rw [Zv5,st1,sd _ _ _ (by omega),Option.bind_some];rfl
 have e:ifb x.Fork (ifb x.Dirty (ifb x.Token (Zsa d all (pre.length:Int) (A++x::post) E x (!decide (d.Phase=2))) (Zsa d all (pre.length:Int) (A++x::post) E x false)) (Zsa d all (pre.length:Int) (A++x::post) E x false)) (Zsa d all (pre.length:Int) (A++x::post) E x false)
   =Zsa d all (pre.length:Int) (A++x::post) E x (x.Fork&&(x.Dirty&&(x.Token&&!decide (d.Phase=2)))):=by
  cases x.Fork<;>cases x.Dirty<;>cases x.Token<;>rfl
 rw [e,j2]
 cases hz:(x.Fork&&(x.Dirty&&(x.Token&&!decide (d.Phase=2)))) with
 | false=>
   rw [if_neg (by simp),j3 _ _ (by omega)]
   have f1:Zb9 d.Phase x=x:=by simp only [Zb9,hz];rfl
   unfold Zc9 Zd9
   rw [f1,hz]
   cases hq:(decide (d.Phase=1)&&(x.Token&&!x.Fork))<;>simp
 | true=>
   rw [if_pos rfl,j3 _ _ (by simp;omega)]
   have f1:Zb9 d.Phase x={x with Fork:=false,Dirty:=false}:=by simp only [Zb9,hz];rfl
   unfold Zc9 Zd9
   rw [f1,hz]
   cases hq:(decide (d.Phase=1)&&(x.Token&&!false))<;>simp_all
theorem s_Fire (d:Diner):Zua d=some (if okD d then ((Zf9 d).ID,(Zf9 d).Phase,0,(Zf9 d).Sides,Zg9 d) else (0,0,130,[],[])):=by
 simp only [Zua,Z79,Option.bind_some]
 cases h:okD d with
 | false=>rfl
 | true=>
   have hl:=Z99 h
   simp only [if_true,decide_true,Bool.not_true,Zw5,Z89 d.Sides (by omega),Option.bind_some]
   have key:=Zm7 d.Sides (Zta d d.Sides) (fun pre=>((pre.map (Zc9 d.Phase)).all (·.Fork),(pre.length:Int),pre.map (Zc9 d.Phase)++d.Sides.drop pre.length,pre.flatMap (Zd9 d.ID d.Phase))) (fun _ _=>some ((Zf9 d).ID,(Zf9 d).Phase,0,(Zf9 d).Sides,Zg9 d)) (fun pre x post hp=>?_) ?_
   ·simpa using key
   ·left
    have hd:d.Sides.drop pre.length=x::post:=by rw [hp];simp
    have hd':d.Sides.drop (pre++[x]).length=post:=by rw [hp];simp
    have hm:=Zp7 hp
    have hE:=Zh9 pre d.ID d.Phase
    refine ⟨?_,rfl⟩
    rw [hd,hd',fire_step d d.Sides hl pre post x hp _ _ (by simp) _ (by omega),Zt7]
    simp
   ·have hE:=Zh9 d.Sides d.ID d.Phase
    dsimp only [Zta]
    rw [Z26,Zw5]
    simp only [List.drop_length,List.append_nil]
    dsimp only [Zna]
    by_cases h1:d.Phase=1
    ·rw [decide_eq_true h1,Zv5]
     dsimp only [Zma]
     cases hall:(d.Sides.map (Zc9 d.Phase)).all (·.Fork) with
     | false=>
       rw [Zw5]
       unfold Zf9
       rw [hall,Bool.and_false]
       rfl
     | true=>
       rw [Zv5]
       generalize hS:d.Sides.map (Zc9 d.Phase)=S at hall
       have hSl:S.length<64:=by rw [←hS];simpa using hl
       have k2:=Zn7 S (Zla d S (d.Sides.flatMap (Zd9 d.ID d.Phase))) (fun pre=>((pre.length:Int),pre.map Ze9++S.drop pre.length)) (d.ID,2,0,S.map Ze9,d.Sides.flatMap (Zd9 d.ID d.Phase)) (fun pre x post hp=>?_) ?_
       ·have k3:loop (Zla d S (d.Sides.flatMap (Zd9 d.ID d.Phase))) (0,S)=some (d.ID,2,0,S.map Ze9,d.Sides.flatMap (Zd9 d.ID d.Phase)):=by simpa using k2
        rw [k3]
        unfold Zf9
        rw [hS,hall,decide_eq_true h1]
        rfl
       ·have hx:=Zo7 hp
        have hm:=Zp7 hp
        have hd:S.drop pre.length=x::post:=by rw [hp];simp
        have hd':S.drop (pre++[x]).length=post:=by rw [hp];simp
        dsimp only [Zla]
        have e1:((pre.length:Nat):Int)=(((pre.map Ze9).length:Nat):Int):=by simp
        rw [Z16 hx,Zv5,hd,hd',e1,Zr7 rfl,Option.bind_some,Zs7,←e1,Zt7,Z36 (by omega)]
        simp [Ze9]
       ·dsimp only [Zla]
        rw [Z26,Zw5]
        simp [Zka]
    ·rw [decide_eq_false h1,Zw5]
     dsimp only [Zma]
     rw [Zw5]
     unfold Zf9
     rw [decide_eq_false h1,Bool.false_and]
     rfl
theorem Zhb (l:List Diner) (i:Nat):∀(xs:List Side) (p:Option Int),Z68 l i p xs=true↔(∀x∈xs,Z58 l i x=true)∧xs.Pairwise (fun x y=>x.Peer<y.Peer)∧∀q,p=some q→∀x∈xs,q<x.Peer
 | [],p=>by simp [Z68]
 | x::r,p=>by
   simp only [Z68,Bool.and_eq_true,Zhb l i r (some x.Peer)]
   constructor
   ·rintro ⟨h1,h2,h3,h4,h5⟩
    refine ⟨fun y hy=>?_,List.pairwise_cons.2 ⟨fun y hy=>h5 _ rfl y hy,h4⟩,?_⟩
    ·rcases List.mem_cons.1 hy with rfl | hy
     ·exact h2
     ·exact h3 y hy
    ·rintro q rfl y hy
     have hq:q<x.Peer:=by simpa [riseB] using h1
     rcases List.mem_cons.1 hy with rfl | hy
     ·exact hq
     ·have:=h5 _ rfl y hy;omega
   ·rintro ⟨h1,h2,h3⟩
    rw [List.pairwise_cons] at h2
    refine ⟨?_,h1 x (by simp),fun y hy=>h1 y (by simp [hy]),h2.2,?_⟩
    ·cases p with
     | none=>rfl
     | some q=>simpa [riseB] using h3 q rfl x (by simp)
    ·rintro q e y hy
     simp at e;subst e;exact h2.1 y hy
theorem Zib (l:List Diner):∀(r:List Diner) (i:Nat),Z88 l i r=true↔∀k d,r[k]?=some d→d.ID=((i+k:Nat):Int)∧Z68 l (i+k) none d.Sides=true
 | [],i=>by simp [Z88]
 | d::r,i=>by
   simp only [Z88,Bool.and_eq_true,decide_eq_true_eq,Zib l r (i+1)]
   constructor
   ·rintro ⟨h1,h2,h3⟩ k e he
    cases k with
    | zero=>simp at he;subst he;exact ⟨by simpa using h1,by simpa using h2⟩
    | succ k=>
      have:=h3 k e (by simpa using he)
      rw [show i+(k+1)=i+1+k by omega];exact this
   ·intro h
    refine ⟨by simpa using (h 0 d (by simp)).1,by simpa using (h 0 d (by simp)).2,fun k e he=>?_⟩
    have:=h (k+1) e (by simpa using he)
    rw [show i+1+k=i+(k+1) by omega];exact this
theorem Zjb {i:Nat} {xs:List Side} {e:Edge}:e∈Z78 i xs↔e.A=i∧(i:Int)<e.B∧∃x∈xs,x.Peer=e.B:=by
 unfold Z78
 simp only [List.mem_map,List.mem_filter,decide_eq_true_eq]
 constructor
 ·rintro ⟨x,⟨h1,h2⟩,rfl⟩;exact ⟨rfl,h2,x,h1,rfl⟩
 ·rintro ⟨h1,h2,x,h3,h4⟩
  obtain ⟨a,b⟩:=e
  dsimp only at *
  subst h1;subst h4;exact ⟨x,⟨h3,h2⟩,rfl⟩
theorem Zkb:∀ {r:List Diner} {i:Nat} {e:Edge},e∈Z98 i r↔∃k d,r[k]?=some d∧e∈Z78 (i+k) d.Sides
 | [],i,e=>by simp [Z98]
 | d::r,i,e=>by
   simp only [Z98,List.mem_append,Zkb (r:=r)]
   constructor
   ·rintro (h | ⟨k,f,h1,h2⟩)
    ·exact ⟨0,d,by simp,by simpa using h⟩
    ·exact ⟨k+1,f,by simpa using h1,by rw [show i+(k+1)=i+1+k by omega];exact h2⟩
   ·rintro ⟨k,f,h1,h2⟩
    cases k with
    | zero=>simp at h1;subst h1;exact .inl (by simpa using h2)
    | succ k=>exact .inr ⟨k,f,by simpa using h1,by rw [show i+1+k=i+(k+1) by omega];exact h2⟩
theorem edgesD_pw {i:Nat} {xs:List Side} (h:xs.Pairwise fun x y=>x.Peer<y.Peer):(Z78 i xs).Pairwise fun x y=>x.lt y=true:=by
 unfold Z78
 rw [List.pairwise_map]
 refine (List.Pairwise.filter _ h).imp fun hxy=>?_
 simp [Edge.lt,hxy]
theorem edgesL_pw:∀ {r:List Diner} {i:Nat},(∀d∈r,d.Sides.Pairwise fun x y=>x.Peer<y.Peer)→(Z98 i r).Pairwise fun x y=>x.lt y=true
 | [],_,_=>List.Pairwise.nil
 | d::r,i,h=>by
   simp only [Z98]
   rw [List.pairwise_append]
   refine ⟨edgesD_pw (h d (by simp)),edgesL_pw fun e he=>h e (by simp [he]),fun x hx y hy=>?_⟩
   obtain ⟨h1,_,_⟩:=Zjb.1 hx
   obtain ⟨k,e,_,hy⟩:=Zkb.1 hy
   obtain ⟨h2,_,_⟩:=Zjb.1 hy
   have:x.A<y.A:=by rw [h1,h2];omega
   simp [Edge.lt,this]
set_option maxRecDepth 100000
set_option maxHeartbeats 4000000
@[go_sem] def e169:EC:=.seq (.reg [(Qa 2 (.mv (.c .ff)))]) (.seq (.reg [(Qm 3 0),(Qa 4 (.bin .lss (.t 3) (.c (.iv 1)))),(Qm 2 4)]) (.ret))
theorem ok169:FnOK Tryz.prog 169 Tryz.f169 e169 [.t 2] 1 4:=⟨by kernel_rfl,⟨_,rfl,by kernel_rfl⟩,by kernel_rfl,by kernel_rfl⟩
noncomputable def Zlb (x1:Int):Option Bool:=
 some (decide (x1<1))
theorem Zmb (x1:Int) (r:Bool) (h:Zlb x1=some r):Zs2 Tryz.prog 169 [.iv x1] (.bv r):=by
 refine Zw2 ok169 rfl rfl fun w0 H0=>?_
 rw [Zlb] at h
 refine Zn2 10 ?_;dsimp only [go_sem];refine An ?_;exact Zq4 (res:=fun (r:Bool)=>.bv r) ok169 h
set_option maxRecDepth 100000
set_option maxHeartbeats 4000000
@[go_sem] def e170:EC:=.seq (.reg [(Qx 2 30 2 0),(Qa 3 (.mv (.c .ff)))]) (.seq (.drw [(Ql 4 1),(Qf 5 0 2),(Ql 6 5),(Qk 7 1 4 6),(Ql 8 7),(Ql 9 1),(Qf 10 1 2),(Ql 11 10),(Qk 12 1 9 11),(Ql 13 12),(Qa 14 (.bin .eql (.t 8) (.t 13))),(Qm 3 14)] [[],[],[1],[0,2],[3],[],[],[6],[5,7],[8],[4,9],[10,0,1,2,3,4,5,6,7,8,9,10]] [[3],[2],[1,3],[0,2,4],[3,10],[8],[7],[6,8],[5,7,9],[8,10],[4,9,11],[10]]) (.ret))
theorem ok170:FnOK Tryz.prog 170 Tryz.f170 e170 [.t 3] 2 13:=⟨by kernel_rfl,⟨_,rfl,by kernel_rfl⟩,by kernel_rfl,by kernel_rfl⟩
noncomputable def Znb (x1:Edge) (x2:(List Int)):Option Bool:=
 (at_ x2 x1.A).bind fun x3=>
 (at_ x2 x1.B).bind fun x4=>
 some (decide (x3=x4))
theorem Zob (x1:Edge) (x2:(List Int)) (r:Bool) (h:Znb x1 x2=some r):Zs2 Tryz.prog 170 [.agg (Edge.row x1),.elt ((Zx4 1 Zw4) x2) 0] (.bv r):=by
 refine Zw2 ok170 rfl rfl fun w0 H0=>?_
 rw [Znb] at h
 refine Zn2 6 ?_;dsimp only [go_sem];refine An ?_;refine Zi3 (by kernel_rfl) fun all hall hs hnap haf=>?_;dsimp only [go_sem];refine Z75 hall hs haf hnap 6 6 [3,2,3,4] [(4,[.sl 1 (List.map Zw4 x2),.ptr 0 0,.iv x1.A]),(2,[.sl 1 (List.map Zw4 x2),.ptr 0 1,.iv x1.B])] (by kernel_rfl) ?_;dsimp only [go_sem];obtain ⟨x3,ex3,h⟩:=Bs h;refine Zm4 hall hs haf hnap 3 Zw4 ex3 rfl rfl trivial rfl rfl rfl rfl ?_;refine Z65 hall hs haf hnap 1 4 ?_;dsimp only [go_sem];refine An ?_;obtain ⟨x4,ex4,h⟩:=Bs h
 refine Zm4 hall hs haf hnap 8 Zw4 ex4 rfl rfl trivial rfl rfl rfl rfl ?_;refine Z65 hall hs haf hnap 3 0 ?_;dsimp only [go_sem];refine An ?_;refine Zs3 rfl ?_ _;exact Zq4 (res:=fun (r:Bool)=>.bv r) ok170 h
set_option maxRecDepth 100000
set_option maxHeartbeats 4000000
@[go_sem] def e151:EC:=.seq (.reg [(Qx 2 53 2 0),(Qx 3 26 1 1),(Qa 4 (.mv (.c .ff)))]) (.seq (.seq (.reg [(Qe 5 2 2),(Qa 6 (.call 144 [(.t 5)])),(Qa 7 (.bin .neq (.t 6) (.c (.iv 0)))),(Qm 8 7),(Qn 9 8 false 3),(Qg 10 8 false (.len (.t 9))),(Qh 11 8 false 0 2),(Qn 12 8 false 11),(Qg 13 8 false (.bin .neq (.t 10) (.t 12))),(Qq 14 8 13),(Qm 15 14),(Qn 16 15 false 3),(Qg 17 15 false (.call 103 [(.t 16),(.c (.clo 169 []))])),(Qq 18 15 17)]) (.ite (.t 18) (.seq (.reg [(Qa 4 (.mv (.c .ff)))]) (.ret)) (.skip))) (.seq (.reg [(Qf 19 1 2),(Ql 20 19),(Qa 21 (.mkf 170 [(.t 3)])),(Qa 22 (.call 161 [(.t 20),(.t 21)])),(Qa 23 (.not (.t 22))),(Qm 4 23)]) (.ret)))
theorem ok151:FnOK Tryz.prog 151 Tryz.f151 e151 [.t 4] 2 22:=⟨by kernel_rfl,⟨_,rfl,by kernel_rfl⟩,by kernel_rfl,by kernel_rfl⟩
noncomputable def Zpb (x1:Graph) (x2:(List Int)):Bool→Option Bool
| x5=>
 ifb x5 (
 some false) (
 (Ze6 x1.Edges ((fun z=>Znb z x2))).bind fun x6=>
 some (!x6))
noncomputable def Zqb (x1:Graph) (x2:(List Int)):Option Bool:=
 (Zz6 x1).bind fun x3=>
 ifb (!decide (x3=0)) (
 (Zpb x1 x2) true) (
 ifb (!decide ((ln Zw4 x2)=x1.N)) (
 (Zpb x1 x2) true) (
 (Z57 x2 ((fun z=>Zlb z))).bind fun x4=>
 (Zpb x1 x2) x4))
theorem Zrb (x1:Graph) (x2:(List Int)) (r:Bool) (h:Zqb x1 x2=some r):Zs2 Tryz.prog 151 [.agg (Graph.row x1),.sl 1 (List.map Zw4 x2)] (.bv r):=by
 refine Zw2 ok151 rfl rfl fun w0 H0=>?_
 rw [Zqb] at h
 refine Zn2 10 ?_;dsimp only [go_sem];refine An ?_;obtain ⟨x3,ex3,h⟩:=Bs h;refine Z13 trivial (Z07 x1 _ ex3) (h:=?_);refine Zn2 2 ?_;dsimp only [go_sem];refine An ?_;refine Zg4 (fun (x5:Bool)=>(⟨(.any :: .any :: .ptr 0 0 :: .ptr 1 0::an 14 (.bv x5::an 5 [])),[some ⟨53,[.iv x1.N,.sl 2 (List.map Edge.row x1.Edges)]⟩,some ⟨26,[.sl 1 (List.map Zw4 x2)]⟩],[]⟩:St)) (Zpb x1 x2) r ?_ fun J1=>?_
 ·intro x5 h;rw [Zpb] at h;(try dsimp only);refine Zi4 h rfl (fun _ h=>?_) fun _ h=>?_
  ·refine Zn2 4 ?_;dsimp only [go_sem];refine An ?_;exact Zq4 (res:=fun (r:Bool)=>.bv r) ok151 h
  ·refine Zn2 6 ?_;dsimp only [go_sem];refine An ?_;obtain ⟨x6,ex6,h⟩:=Bs h;refine Zu4 trivial ((Zt4.refl _).block 1 rfl rfl) (Zf6 x1.Edges _ _ ((fun z=>Znb z x2)) ⟨by kernel_rfl,rfl,fun z r hz=>Zob z x2 r hz⟩ _ ex6) (h:=?_);refine Zn2 3 ?_;dsimp only [go_sem];refine An ?_;exact Zq4 (res:=fun (r:Bool)=>.bv r) ok151 h
 ·refine Zp4 8 h rfl (fun _ h=>?_) fun _ h=>?_
  ·dsimp only [go_sem];refine Zn2 11 ?_;dsimp only [go_sem];refine An ?_;exact Zs4 J1 (s:=true) h
  ·dsimp only [go_sem];refine Zn2 7 ?_;dsimp only [go_sem];refine An ?_;refine Zp4 15 h rfl (fun _ h=>?_) fun _ h=>?_
   ·dsimp only [go_sem];refine Zn2 4 ?_;dsimp only [go_sem];refine An ?_;exact Zs4 J1 (s:=true) h
   ·dsimp only [go_sem];refine Zn2 1 ?_;dsimp only [go_sem];refine An ?_;obtain ⟨x4,ex4,h⟩:=Bs h;refine Z13 trivial (Z67 x2 _ _ ((fun z=>Zlb z)) ⟨by kernel_rfl,rfl,fun z r hz=>Zmb z r hz⟩ _ ex4) (h:=?_);refine Zn2 2 ?_;dsimp only [go_sem];refine An ?_;exact Zs4 J1 (s:=x4) h
end NX
end Go.Proofs.YtacfbmldajmjiaaGreat
