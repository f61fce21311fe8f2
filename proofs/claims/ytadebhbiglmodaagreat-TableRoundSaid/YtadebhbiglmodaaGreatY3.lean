/-
  The function narthex/colour.Run: its code compiled, a model, and that the code answers as the model. Written by a program of ours (lb.py). No statement of the seat is proved here.
-/
import Derived.KernelRfl
import Derived.Laws.CopyRow
import Derived.Laws.IdiomCopy
import Derived.Test.YtadebhbiglmodaaGreatY1
import Derived.Test.YtadebhbiglmodaaGreatY2
namespace Go.Proofs.YtadebhbiglmodaaGreat
namespace NX
open Go
set_option maxRecDepth 100000
set_option maxHeartbeats 4000000
@[go_sem] def e55_L0:EC:=.seq (.seq (.reg [(Qm 16 6),(Qa 17 (.call 85 [(.t 16),(.c (.iv 0))]))]) (.ite (.t 17) (.skip) (.exit 0))) (.blk 1 (.seq (.reg [(Qe 19 2 1),(Qm 20 6),(Qa 21 (.call 86 [(.t 19),(.t 20)])),(Qm 18 21),(Qa 22 (.ext (.t 18) 0)),(Qa 23 (.ext (.t 18) 1)),(Qm 6 22)]) (.reg [(Qm 24 7),(Qv 25 24 1),(Qm 7 25)])))
@[go_sem] def e55:EC:=.seq (.reg [(Qx 1 48 2 0),(Qa 2 (.mv (.c .nl))),(Qi 3 0),(Qi 4 0)]) (.seq (.seq (.reg [(Qe 8 2 1),(Qa 9 (.call 80 [(.t 8)])),(Qm 5 9)]) (.seq (.reg [(Qm 10 5),(Qa 11 (.bin .neq (.t 10) (.c (.iv 0))))]) (.ite (.t 11) (.seq (.reg [(Qm 12 5),(Qa 2 (.mv (.c .nl))),(Qi 3 0),(Qm 4 12)]) (.ret)) (.skip)))) (.seq (.reg [(Qf 13 0 1),(Ql 14 13),(Qa 15 (.mks 3 1 8 [.iv 0] (.t 14) (.t 14))),(Qm 6 15),(Qi 7 0)]) (.seq (.blk 0 (.loop e55_L0)) (.seq (.reg [(Qm 26 6),(Qm 27 7),(Qm 2 26),(Qm 3 27),(Qi 4 0)]) (.ret)))))
theorem ok55:FnOK Tryz.prog 55 Tryz.f55 e55 [.t 2,.t 3,.t 4] 1 27:=⟨by kernel_rfl,⟨_,rfl,by kernel_rfl⟩,by kernel_rfl,by kernel_rfl⟩
noncomputable def Z8d:((List Int)×Int)→Option ((List Int)×Int×Int)
| (x17,x18)=>
 some (x17,x18,0)
noncomputable def Z9d (x1:Graph):((List Int)×Int)→Option (((List Int)×Int) ⊕ ((List Int)×Int×Int))
| (x8,x9)=>
 (Zrc x8 0).bind fun x10=>
 ifb x10 (
 (Z6d x1 x8).bind fun x11=>
 some (.inl (x11.1,wr (x9+1)))) (
 Option.map Sum.inr (Z8d (x8,x9)))
noncomputable def Zad (x1:Graph):Option ((List Int)×Int×Int):=
 (Zy6 x1).bind fun x2=>
 ifb (!decide (x2=0)) (
 some (([]:(List Int)),0,x2)) (
 (mk_ 8 x1.N 0).bind fun x3=>
 loop (Z9d x1) (x3,0))
theorem k_colour_Run (x1:Graph) (r:((List Int)×Int×Int)) (h:Zad x1=some r):Zu2 Tryz.prog 55 [.agg (Graph.row x1)] (.tup [.sl 1 (List.map Zx4 r.1),.iv r.2.1,.iv r.2.2]):=by
 refine Zy2 ok55 rfl rfl fun w0 H0=>?_
 rw [Zad] at h
 refine Zo2 11 ?_;dsimp only [go_sem];refine An ?_;obtain ⟨x2,ex2,h⟩:=Bs h;refine Z33 trivial (Zz6 x1 _ ex2) (h:=?_);refine Zo2 7 ?_;dsimp only [go_sem];refine An ?_;refine Zj4 h rfl (fun _ h=>?_) fun _ h=>?_
 ·refine Zo2 7 ?_;dsimp only [go_sem];refine An ?_;exact Zr4 (res:=fun (r:((List Int)×Int×Int))=>.tup [.sl 1 (List.map Zx4 r.1),.iv r.2.1,.iv r.2.2]) ok55 h
 ·refine Zo2 5 ?_;dsimp only [go_sem];refine An ?_;obtain ⟨x3,ex3,h⟩:=Bs h;refine V_mksM Zx4 ex3 trivial rfl rfl rfl rfl ?_;refine Zo2 4 ?_;dsimp only [go_sem];refine An ?_;refine Zh4 (fun ((x17,x18):((List Int)×Int))=>(⟨(an 6 (.sl 1 (List.map Zx4 x17) :: .iv x18::an 20 [])),[],[]⟩:St)) Z8d r ?_ fun J1=>?_
  ·rintro ⟨x17,x18⟩ h;rw [Z8d] at h;(try dsimp only);refine Zo2 8 ?_;dsimp only [go_sem];refine An ?_;exact Zr4 (res:=fun (r:((List Int)×Int×Int))=>.tup [.sl 1 (List.map Zx4 r.1),.iv r.2.1,.iv r.2.2]) ok55 h
  ·refine Zo2 1 ?_;dsimp only [go_sem];refine An ?_;refine Zb3 0 rfl ?_;dsimp only [go_sem];refine Zi4 h (fun ((x8,x9):((List Int)×Int))=>(⟨(.any :: .ptr 0 0::an 4 (.sl 1 (List.map Zx4 x8) :: .iv x9::an 20 [])),[some ⟨48,[.iv x1.N,.sl 2 (List.map Edge.row x1.Edges)]⟩],[]⟩:St)) (by simp [go_sem]) (by rintro ⟨x8,x9⟩;first | rfl | simp [go_sem]) ?_;rintro n1 ⟨x8,x9⟩ y1 h hin1 hout1;rw [Z9d] at h;(try dsimp only);refine Zo2 4 ?_;dsimp only [go_sem];refine An ?_;obtain ⟨x10,ex10,h⟩:=Bs h
   refine Z33 trivial (Zsc x8 0 _ ex10) (h:=?_);refine Zo2 1 ?_;dsimp only [go_sem];refine An ?_;refine Zj4 h rfl (fun _ h=>?_) fun _ h=>?_
   ·refine Zo2 6 ?_;dsimp only [go_sem];refine An ?_;obtain ⟨x11,ex11,h⟩:=Bs h;refine Z33 trivial (Z7d x1 x8 _ ex11) (h:=?_);refine Zo2 11 ?_;dsimp only [go_sem];refine An ?_;exact Zs4 h hin1
   ·refine Zo2 1 ?_;dsimp only [go_sem];refine An ?_;exact Zt4 J1 (s:=(x8,x9)) (Zg4 h hout1)
def lsf (p:Nat→Bool):Nat→Nat→Nat
 | 0,k=>k
 | f+1,k=>if p k then k else lsf p f (k+1)
theorem lsf_spec (p:Nat→Bool):∀(f k:Nat),p (k+f)=true→p (lsf p f k)=true∧k≤lsf p f k∧lsf p f k≤k+f
 | 0,k,h=>⟨h,Nat.le_refl _,Nat.le_refl _⟩
 | f+1,k,h=>by
   simp only [lsf]
   split
   ·rename_i h1;exact ⟨h1,Nat.le_refl _,by omega⟩
   ·obtain ⟨h1,h2,h3⟩:=lsf_spec p f (k+1) (by rw [show k+1+f=k+(f+1) by omega];exact h)
    exact ⟨h1,by omega,by omega⟩
def Zbd (c:List Int) (near:List Int) (k:Nat):Bool:=near.any fun b=>decide (cg c b=(k:Int))
def Zcd (c near:List Int):Nat:=lsf (fun k=>!Zbd c near k) 200 1
def Zdd (c near:List Int) (a:Int):Bool:=decide (cg c a=0)&&!near.any fun b=>decide (cg c b=0)&&decide (a<b)
def newC (g:Graph) (c:List Int) (a:Nat):Int:=if Zdd c (Zo9 g a) a then (Zcd c (Zo9 g a):Int) else cg c a
def Zed (g:Graph) (c:List Int):List Int:=(List.range g.N.toNat).map (newC g c)
structure ColI (g:Graph) (c:List Int):Prop where
 len:(c.length:Int)=g.N
 lo:∀x∈c,0≤x
 hi:∀x∈c,x≤100
theorem cg_mem {c:List Int} {a:Int} (h0:0≤a) (h:a<c.length):cg c a∈c:=by
 obtain ⟨x,h1,h2⟩:=at_lt h0 h
 unfold cg
 rw [h2]
 exact List.mem_iff_getElem?.2 ⟨_,h2⟩
theorem Zfd {g:Graph} (hg:okG g=true) {c:List Int} (hc:ColI g c) (a:Int):Zbd c (Zo9 g a) (Zcd c (Zo9 g a))=false∧1≤Zcd c (Zo9 g a)∧Zcd c (Zo9 g a)≤201:=by
 have h:=lsf_spec (fun k=>!Zbd c (Zo9 g a) k) 200 1 (by
  simp only [Bool.not_eq_true']
  unfold Zbd
  rw [List.any_eq_false]
  intro b hb
  obtain ⟨b1,b2,_⟩:=Zs9 hg hb
  have:=hc.hi _ (cg_mem (c:=c) b1 (by rw [hc.len];exact b2))
  simp;omega)
 have h1:=h.1
 simp only [Bool.not_eq_true'] at h1
 exact ⟨h1,h.2.1,h.2.2⟩
theorem Zgd (l:List Int) (x:Int) (hl:l.length≤1000000):Zrc l x=some (decide (x∈l)):=by
 have h1:Zpc l x=some (plc (l.findIdx? fun y=>decide (x=y))):=by
  unfold Zpc
  refine Z76 l _ (fun y=>decide (x=y)) (by omega) (fun k y hy=>?_) ?_
  ·simp only [Zoc,Z06 hy,Zu5,Zy5 hy,Option.bind_some,Z36 hy (show l.length≤4000000000000000000 by omega)]
   cases decide (x=y)<;>rfl
  ·simp only [Zoc,Z16,Zv5,Znc,Option.map_some]
 simp only [Zrc,h1,Option.bind_some,Z56,Z86]
 congr 1
 rw [Bool.eq_iff_iff,List.any_eq_true,decide_eq_true_iff]
 constructor
 ·rintro ⟨y,hy,h⟩
  have:x=y:=by simpa using h
  exact this ▸ hy
 ·intro h;exact ⟨x,h,by simp⟩
theorem s_Round2 (g:Graph) (hg:okG g=true) (c:List Int) (hc:ColI g c) (a:Nat) (ha:(a:Int)<g.N) (A B:List Int) (hA:A.length=a):
  loop (Z2d c a (Zo9 g a)) (A++1::B)=some (.inl (((a+1:Nat):Int),A++(Zcd c (Zo9 g a):Int)::B)):=by
 obtain ⟨g1,g2,g3,_,_⟩:=Zd7 hg
 have hnl:=Zq9 g a
 have at1:∀y:Int,at_ (A++y::B) (a:Int)=some y:=fun y=>by rw [←hA];exact at_mid rfl
 have st1:∀y z:Int,(A++y::B).set ((a:Int)).toNat z=A++z::B:=fun y z=>by rw [←hA];exact Zq7 _ _ _ _
 have step:∀k:Nat,Z47 (Zo9 g a) (fun z=>Zyc z c (A++(k:Int)::B) a)=some (Zbd c (Zo9 g a) k):=fun k=>by
  refine Za7 (Zo9 g a) _ (fun b=>decide (cg c b=(k:Int))) (by omega) (fun b hb=>?_)
  obtain ⟨b1,b2,_⟩:=Zs9 hg hb
  simp only [Zyc]
  rw [at_cg (c:=c) b1 (by rw [hc.len];exact b2),Option.bind_some,at1,Option.bind_some]
 have key:∀f k:Nat,k+f=201→1≤k→Zbd c (Zo9 g a) 201=false→loop (Z2d c a (Zo9 g a)) (A++(k:Int)::B)=some (.inl (((a+1:Nat):Int),A++(lsf (fun k=>!Zbd c (Zo9 g a) k) f k:Int)::B)):=by
  intro f
  induction f with
  | zero=>
    intro k hk _ h201
    have:k=201:=by omega
    subst this
    rw [Zf4]
    dsimp only [Z2d]
    rw [step,Option.bind_some,h201,Zv5]
    dsimp only [Z1d]
    rw [Z26 (by omega)]
    rfl
  | succ f ih=>
    intro k hk h1 h201
    rw [Zf4]
    dsimp only [Z2d]
    rw [step,Option.bind_some]
    cases hu:Zbd c (Zo9 g a) k with
    | true=>
      rw [Zu5,at1,Option.bind_some,st1,Z26 (by omega)]
      dsimp only
      rw [ih (k+1) (by omega) (by omega) h201]
      simp [lsf,hu]
    | false=>
      rw [Zv5]
      dsimp only [Z1d]
      rw [Z26 (by omega)]
      simp [lsf,hu]
 refine key 200 1 rfl (Nat.le_refl _) ?_
 unfold Zbd
 rw [List.any_eq_false]
 intro b hb
 obtain ⟨b1,b2,_⟩:=Zs9 hg hb
 have:=hc.hi _ (cg_mem (c:=c) b1 (by rw [hc.len];exact b2))
 simp;omega
theorem drop_cons {c:List Int} {k:Nat} (h:k<c.length):c.drop k=cg c k::c.drop (k+1):=by
 rw [List.drop_eq_getElem_cons h]
 congr 1
 unfold cg
 simp [h]
theorem s_Round (g:Graph) (hg:okG g=true) (c:List Int) (hc:ColI g c):Z6d g c=some (Zed g c,0):=by
 obtain ⟨g1,g2,g3,_,_⟩:=Zd7 hg
 have hlen:=hc.len
 simp only [Z6d,Zc7,hg,if_true,decide_true,Bool.not_true,Zv5,Option.bind_some,Z05,hlen]
 rw [Za7 c (fun z=>Ztc z) (fun x=>decide (x<0)) (by omega) (fun x _=>rfl),Option.bind_some]
 have e0:c.any (fun x=>decide (x<0))=false:=by
  rw [List.any_eq_false];intro x hx;have:=hc.lo x hx;simp;omega
 rw [e0]
 simp only [Z5d,Zv5,Z89]
 rw [Zz5 _ _ (by omega) (by simp;omega),Option.bind_some,List.nil_append]
 refine (Zs7 g.N.toNat (Z4d g c) (fun k=>((k:Int),(List.range k).map (newC g c)++c.drop k)) (Zed g c,0) (fun k hk=>?_) ?_)
 ·have hkl:k<c.length:=by omega
  obtain ⟨g1',_⟩:=Zd7 hg
  dsimp only [Z4d]
  rw [decide_eq_true (by omega),Zu5,s_Near,hg,if_pos rfl,Option.bind_some,at_cg (c:=c) (Int.natCast_nonneg k) (by omega),Option.bind_some,drop_cons hkl,Zw9]
  have hA:((List.range k).map (newC g c)).length=k:=by simp
  have keep:newC g c k=cg c k→Z3d c k ((List.range k).map (newC g c)++cg c k::c.drop (k+1)) (Zo9 g k) true=some (.inl (((k+1:Nat):Int),((List.range k).map (newC g c)++[newC g c k])++c.drop (k+1))):=fun e=>by
   dsimp only [Z3d,Z1d]
   rw [Zu5,Z26 (by omega),e];simp
  by_cases h0:cg c k=0
  ·rw [decide_eq_true h0,Bool.not_true,Zv5]
   have hcf:Z47 (Zo9 g k) (fun z=>Zwc z c k)=some ((Zo9 g k).any fun b=>decide (cg c b=0)&&decide ((k:Int)<b)):=by
    refine Za7 (Zo9 g k) _ (fun b=>decide (cg c b=0)&&decide ((k:Int)<b)) (by have:=Zq9 g k;omega) (fun b hb=>?_)
    obtain ⟨b1,b2,_⟩:=Zs9 hg hb
    simp only [Zwc,Zvc]
    rw [at_cg (c:=c) b1 (by omega),Option.bind_some]
    cases decide (cg c b=0)<;>rfl
   rw [hcf,Option.bind_some]
   cases ht:(Zo9 g k).any fun b=>decide (cg c b=0)&&decide ((k:Int)<b) with
   | true=>
     refine keep ?_
     unfold newC Zdd
     rw [ht];simp
   | false=>
     have e:newC g c k=(Zcd c (Zo9 g k):Int):=by
      unfold newC Zdd
      rw [ht,decide_eq_true h0];simp
     dsimp only [Z3d]
     have at1:=at_mid (l:=(List.range k).map (newC g c)++cg c k::c.drop (k+1)) rfl
     rw [hA] at at1
     have st1:=Zq7 ((List.range k).map (newC g c)) (c.drop (k+1)) (cg c k) 1
     rw [hA] at st1
     rw [Zv5,at1,Option.bind_some,st1,s_Round2 g hg c hc k (by omega) _ _ hA,e]
     simp
  ·rw [decide_eq_false h0,Bool.not_false,Zu5]
   refine keep ?_
   unfold newC Zdd
   rw [decide_eq_false h0];simp
 ·dsimp only [Z4d]
  rw [decide_eq_false (by omega),Zv5,List.drop_eq_nil_of_le (by omega),List.append_nil]
  rfl
set_option maxRecDepth 100000
set_option maxHeartbeats 4000000
@[go_sem] def e20:EC:=.seq (.reg [(Qx 1 48 2 0),(Qa 2 (.alloc 25 [.nl,.nl])),(Qi 3 0)]) (.seq (.reg [(Qe 9 2 1),(Qa 10 (.call 55 [(.t 9)])),(Qm 8 10),(Qa 11 (.ext (.t 8) 0)),(Qa 12 (.ext (.t 8) 1)),(Qa 13 (.ext (.t 8) 2)),(Qm 4 11),(Qm 5 12),(Qm 6 13)]) (.seq (.seq (.reg [(Qm 14 6),(Qa 15 (.bin .neq (.t 14) (.c (.iv 0))))]) (.ite (.t 15) (.seq (.reg [(Qa 16 (.build [.nl,.nl] [])),(Qm 17 6),(Qs 2 2 16),(Qm 3 17)]) (.ret)) (.skip))) (.seq (.reg [(Qe 19 2 1),(Qm 20 4),(Qa 21 (.call 56 [(.t 19),(.t 20)])),(Qm 18 21),(Qa 22 (.ext (.t 18) 0)),(Qa 23 (.ext (.t 18) 1)),(Qm 7 22),(Qm 6 23)]) (.seq (.reg [(Qm 24 7),(Qa 25 (.build [.nl,.nl] [(0,1,(.t 24))])),(Qm 26 6),(Qs 2 2 25),(Qm 3 26)]) (.ret)))))
theorem ok20:FnOK Tryz.prog 20 Tryz.f20 e20 [.c 2 (some 2),.t 3] 1 26:=⟨by kernel_rfl,⟨_,rfl,by kernel_rfl⟩,by kernel_rfl,by kernel_rfl⟩
noncomputable def Zhd (x1:Graph):Option (Scene×Int):=
 (Zad x1).bind fun x2=>
 ifb (!decide (x2.2.2=0)) (
 some ((Scene.mk (([]:(List Diner))) (([]:(List Mail)))),x2.2.2)) (
 (Zl9 x1 x2.1).bind fun x3=>
 some ((Scene.mk x3.1 (([]:(List Mail)))),x3.2))
theorem Zid (x1:Graph) (r:(Scene×Int)) (h:Zhd x1=some r):Zu2 Tryz.prog 20 [.agg (Graph.row x1)] (.tup [.agg (Scene.row r.1),.iv r.2]):=by
 refine Zy2 ok20 rfl rfl fun w0 H0=>?_
 rw [Zhd] at h
 refine Zo2 9 ?_;dsimp only [go_sem];refine An ?_;obtain ⟨x2,ex2,h⟩:=Bs h;refine Z33 trivial (k_colour_Run x1 _ ex2) (h:=?_);refine Zo2 14 ?_;dsimp only [go_sem];refine An ?_;refine Zj4 h rfl (fun _ h=>?_) fun _ h=>?_
 ·refine Zo2 7 ?_;dsimp only [go_sem];refine An ?_;exact Zr4 (res:=fun (r:(Scene×Int))=>.tup [.agg (Scene.row r.1),.iv r.2]) ok20 h
 ·refine Zo2 5 ?_;dsimp only [go_sem];refine An ?_;obtain ⟨x3,ex3,h⟩:=Bs h;refine Z33 trivial (k_place_Table x1 x2.1 _ ex3) (h:=?_);refine Zo2 14 ?_;dsimp only [go_sem];refine An ?_;exact Zr4 (res:=fun (r:(Scene×Int))=>.tup [.agg (Scene.row r.1),.iv r.2]) ok20 h
theorem lsf_le (p:Nat→Bool):∀(f k j:Nat),p j=true→k≤j→j≤k+f→lsf p f k≤j
 | 0,k,j,_,h1,_=>h1
 | f+1,k,j,h,h1,h2=>by
   simp only [lsf]
   split
   ·exact h1
   ·rename_i hp
    have:k≠j:=by rintro rfl;exact hp h
    exact lsf_le p f (k+1) j h (by omega) (by omega)
theorem countP_lt {α:Type} (p q:α→Bool):∀(l:List α),(∀x∈l,p x=true→q x=true)→(∃x∈l,q x=true∧p x=false)→l.countP p<l.countP q
 | [],_,⟨x,hx,_⟩=>absurd hx (by simp)
 | y::l,h,⟨x,hx,h1,h2⟩=>by
   have hle:l.countP p≤l.countP q:=List.countP_mono_left fun z hz=>h z (List.mem_cons_of_mem _ hz)
   rw [List.countP_cons,List.countP_cons]
   rcases List.mem_cons.1 hx with rfl | hx
   ·rw [h1,h2];simp;omega
   ·have:=countP_lt p q l (fun z hz=>h z (List.mem_cons_of_mem _ hz)) ⟨x,hx,h1,h2⟩
    have hy:=h y (by simp)
    cases hp:p y with
    | false=>simp;omega
    | true=>rw [hy hp];simp;omega
def zeros (g:Graph) (c:List Int):Nat:=(List.range g.N.toNat).countP fun a:Nat=>decide (cg c (a:Int)=0)
theorem zeros_le (g:Graph) (c:List Int):zeros g c≤g.N.toNat:=by
 have:=List.countP_le_length (p:=fun a:Nat=>decide (cg c (a:Int)=0)) (l:=List.range g.N.toNat)
 simpa [zeros] using this
structure ColN (g:Graph) (c:List Int) (n:Nat):Prop where
 len:(c.length:Int)=g.N
 lo:∀x∈c,0≤x
 hi:∀x∈c,x≤n
 ne:∀a b,b∈Zo9 g a→cg c a≠0→cg c b≠0→cg c a≠cg c b
theorem ColN.I {g:Graph} {c:List Int} {n:Nat} (h:ColN g c n) (hn:n≤100):ColI g c:=⟨h.len,h.lo,fun x hx=>by have:=h.hi x hx;omega⟩
theorem Zjd {g:Graph} {c:List Int} {a:Int} (h0:0≤a) (h:a<g.N):cg (Zed g c) a=newC g c a.toNat:=by
 unfold cg Zed
 rw [List.getElem?_map,List.getElem?_range (by omega)];rfl
theorem near_symm' {g:Graph} (hg:okG g=true) {a b:Int} (h:b∈Zo9 g a):a∈Zo9 g b:=by
 rw [Zr9 hg] at *;exact h.symm
theorem Zkd {c near:List Int} {a:Int}:Zdd c near a=true↔cg c a=0∧∀b∈near,cg c b=0→b≤a:=by
 unfold Zdd
 simp only [Bool.and_eq_true,decide_eq_true_eq,Bool.not_eq_true',List.any_eq_false,Bool.and_eq_true,decide_eq_true_eq,not_and]
 constructor
 ·rintro ⟨h1,h2⟩;exact ⟨h1,fun b hb h0=>by have:=h2 b hb h0;omega⟩
 ·rintro ⟨h1,h2⟩;exact ⟨h1,fun b hb h0=>by have:=h2 b hb h0;omega⟩
theorem freshC_le {g:Graph} {c:List Int} {n:Nat} (hc:ColN g c n) (hn:n≤100) (a:Int):Zcd c (Zo9 g a)≤n+1:=by
 refine lsf_le _ _ _ _ ?_ (by omega) (by omega)
 simp only [Bool.not_eq_true']
 unfold Zbd
 rw [List.any_eq_false]
 intro b hb
 simp only [decide_eq_true_eq]
 intro he
 by_cases h:0≤b∧b<c.length
 ·have:=hc.hi _ (cg_mem (c:=c) h.1 h.2)
  omega
 ·unfold cg at he
  have hb0:0≤b.toNat:=Nat.zero_le _
  cases hq:c[b.toNat]? with
  | none=>rw [hq] at he;simp at he;omega
  | some y=>
    rw [hq] at he
    have:=hc.hi y (List.mem_iff_getElem?.2 ⟨_,hq⟩)
    simp at he;omega
theorem Zld (g:Graph) (c:List Int) (a:Nat):(Zdd c (Zo9 g a) a=true∧newC g c a=(Zcd c (Zo9 g a):Int))∨(Zdd c (Zo9 g a) a=false∧newC g c a=cg c a):=by
 unfold newC
 cases Zdd c (Zo9 g a) a<;>simp
theorem ColN.round {g:Graph} (hg:okG g=true) {c:List Int} {n:Nat} (hc:ColN g c n) (hn:n≤100):ColN g (Zed g c) (n+1):=by
 obtain ⟨g1,g2,_,_,_⟩:=Zd7 hg
 have hI:=hc.I hn
 have hmem:∀x∈Zed g c,0≤x∧x≤n+1:=fun x hx=>by
  obtain ⟨a,ha,rfl⟩:=List.mem_map.1 hx
  have ha':=List.mem_range.1 ha
  have:=freshC_le hc hn a
  rcases Zld g c a with ⟨_,h2⟩ | ⟨_,h2⟩
  ·rw [h2];omega
  ·rw [h2]
   have hm:=cg_mem (c:=c) (a:=(a:Int)) (by omega) (by have:=hc.len;omega)
   have:=hc.lo _ hm
   have:=hc.hi _ hm
   omega
 refine ⟨by simp [Zed];omega,fun x hx=>(hmem x hx).1,fun x hx=>by have:=(hmem x hx).2;omega,fun a b hb ha0 hb0=>?_⟩
 obtain ⟨b1,b2,b3,a1,a2⟩:=Zs9 hg hb
 have hab:=near_symm' hg hb
 rw [Zjd a1 a2] at ha0 ⊢
 rw [Zjd b1 b2] at hb0 ⊢
 have ea:((a.toNat:Nat):Int)=a:=Int.toNat_of_nonneg a1
 have eb:((b.toNat:Nat):Int)=b:=Int.toNat_of_nonneg b1
 have ua:=(Zfd hg hI a).1
 have ub:=(Zfd hg hI b).1
 unfold Zbd at ua ub
 rw [List.any_eq_false] at ua ub
 have ua':=ua b hb
 have ub':=ub a hab
 simp only [decide_eq_true_eq] at ua' ub'
 rcases Zld g c a.toNat with ⟨h1,h2⟩ | ⟨h1,h2⟩<;>rcases Zld g c b.toNat with ⟨k1,k2⟩ | ⟨k1,k2⟩<;>rw [ea] at h1 h2<;>rw [eb] at k1 k2
 ·rw [Zkd] at h1 k1
  have:=h1.2 b hb k1.1
  have:=k1.2 a hab h1.1
  exact absurd (by omega) b3
 ·rw [h2,k2];exact fun e=>ua' e.symm
 ·rw [h2,k2];exact ub'
 ·rw [h2,k2]
  rw [h2] at ha0
  rw [k2] at hb0
  exact hc.ne a b hb ha0 hb0
theorem max_zero (p:Nat→Bool):∀n:Nat,(∃a,a<n∧p a=true)→∃a,a<n∧p a=true∧∀b,b<n→p b=true→b≤a
 | 0,⟨a,h,_⟩=>absurd h (by omega)
 | n+1,⟨a,h,hp⟩=>by
   cases hn:p n with
   | true=>exact ⟨n,by omega,hn,fun b hb _=>by omega⟩
   | false=>
     have:a≠n:=by rintro rfl;rw [hn] at hp;simp at hp
     obtain ⟨a',h1,h2,h3⟩:=max_zero p n ⟨a,by omega,hp⟩
     refine ⟨a',by omega,h2,fun b hb hpb=>?_⟩
     have:b≠n:=by rintro rfl;rw [hn] at hpb;simp at hpb
     exact h3 b (by omega) hpb
theorem Zmd {g:Graph} (hg:okG g=true) {c:List Int} {n:Nat} (hc:ColN g c n) (hn:n≤100) (h0:(0:Int)∈c):zeros g (Zed g c)<zeros g c:=by
 have hI:=hc.I hn
 have ex:∃a,a<g.N.toNat∧(fun a:Nat=>decide (cg c (a:Int)=0)) a=true:=by
  obtain ⟨k,hk⟩:=List.mem_iff_getElem?.1 h0
  have hlt:=(List.getElem?_eq_some_iff.1 hk).1
  have:=hc.len
  refine ⟨k,by omega,?_⟩
  simp [cg,hk]
 obtain ⟨a,h1,h2,h3⟩:=max_zero _ _ ex
 simp only [decide_eq_true_eq] at h2 h3
 refine countP_lt _ _ _ (fun b hb hz=>?_) ⟨a,List.mem_range.2 h1,by simpa using h2,?_⟩
 ·have hb':=List.mem_range.1 hb
  have hf:=(Zfd hg hI b).2.1
  simp only [decide_eq_true_eq] at hz ⊢
  rw [Zjd (by omega) (by omega),Int.toNat_natCast] at hz
  rcases Zld g c b with ⟨k1,k2⟩ | ⟨k1,k2⟩
  ·rw [Zkd] at k1;exact k1.1
  ·rw [←k2];exact hz
 ·have ht:Zdd c (Zo9 g a) a=true:=by
   rw [Zkd]
   refine ⟨h2,fun b hb hb0=>?_⟩
   obtain ⟨b1,b2,_⟩:=Zs9 hg hb
   have:=h3 b.toNat (by omega) (by rw [Int.toNat_of_nonneg b1];exact hb0)
   omega
  have hf:=(Zfd hg hI a).2.1
  simp only [decide_eq_false_iff_not]
  rw [Zjd (by omega) (by omega),Int.toNat_natCast]
  unfold newC
  rw [ht];simp;omega
def runL (g:Graph):Nat→List Int→Int→List Int×Int
 | 0,c,n=>(c,n)
 | f+1,c,n=>if (0:Int)∈c then runL g f (Zed g c) (n+1) else (c,n)
theorem zeros_pos {g:Graph} {c:List Int} {n:Nat} (hc:ColN g c n) (h0:(0:Int)∈c):0<zeros g c:=by
 obtain ⟨k,hk⟩:=List.mem_iff_getElem?.1 h0
 have hlt:=(List.getElem?_eq_some_iff.1 hk).1
 have:=hc.len
 refine List.countP_pos_iff.2 ⟨k,List.mem_range.2 (by omega),?_⟩
 simp [cg,hk]
theorem runL_right {g:Graph} (hg:okG g=true):∀(f:Nat) (c:List Int) (n:Nat),ColN g c n→zeros g c≤f→n+f≤100→Z69 g (runL g f c n).1=true∧(runL g f c n).1.length≤64:=by
 obtain ⟨g1,g2,g3,g4,g5⟩:=Zd7 hg
 have done:∀(c:List Int) (n:Nat),ColN g c n→(0:Int)∉c→Z69 g c=true∧c.length≤64:=fun c n hc h0=>by
  have hl:=hc.len
  refine ⟨?_,by omega⟩
  unfold Z69
  rw [decide_eq_true hl,Bool.true_and,Bool.and_eq_true,List.all_eq_true,List.all_eq_true]
  have nz:∀a:Int,0≤a→a<g.N→cg c a≠0:=fun a h1 h2 h=>h0 (h ▸ cg_mem (c:=c) h1 (by omega))
  refine ⟨fun x hx=>?_,fun e he=>?_⟩
  ·have:=hc.lo x hx
   have:x≠0:=by rintro rfl;exact h0 hx
   simp;omega
  ·obtain ⟨e1,e2,e3⟩:=g4 e he
   have:=hc.ne e.A e.B ((Zr9 hg).2 (.inl he)) (nz _ e1 (by omega)) (nz _ (by omega) e3)
   simpa using this
 intro f
 induction f with
 | zero=>
   intro c n hc hz _
   have h0:(0:Int)∉c:=fun h=>by have:=zeros_pos hc h;omega
   exact done c n hc h0
 | succ f ih=>
   intro c n hc hz hn
   simp only [runL]
   split
   ·rename_i h0
    have:=Zmd hg hc (by omega) h0
    have k:=ih (Zed g c) (n+1) (hc.round hg (by omega)) (by omega) (by omega)
    rwa [show ((n+1:Nat):Int)=(n:Int)+1 from rfl] at k
   ·rename_i h0
    exact done c n hc h0
theorem run_loop {g:Graph} (hg:okG g=true):∀(f:Nat) (c:List Int) (n:Nat),ColN g c n→zeros g c≤f→n+f≤100→loop (Z9d g) (c,(n:Int))=some ((runL g f c n).1,(runL g f c n).2,0):=by
 obtain ⟨g1,g2,g3,g4,g5⟩:=Zd7 hg
 have stop:∀(c:List Int) (n:Nat),ColN g c n→(0:Int)∉c→loop (Z9d g) (c,(n:Int))=some (c,(n:Int),0):=fun c n hc h0=>by
  have hl:=hc.len
  rw [Zf4]
  dsimp only [Z9d]
  rw [Zgd c 0 (by omega),Option.bind_some,decide_eq_false h0,Zv5]
  rfl
 intro f
 induction f with
 | zero=>
   intro c n hc hz _
   have h0:(0:Int)∉c:=fun h=>by have:=zeros_pos hc h;omega
   exact stop c n hc h0
 | succ f ih=>
   intro c n hc hz hn
   have hl:=hc.len
   simp only [runL]
   by_cases h0:(0:Int)∈c
   ·rw [if_pos h0,Zf4]
    dsimp only [Z9d]
    rw [Zgd c 0 (by omega),Option.bind_some,decide_eq_true h0,Zu5,s_Round g hg c (hc.I (by omega)),Option.bind_some,Z26 (by omega)]
    have:=Zmd hg hc (by omega) h0
    exact ih (Zed g c) (n+1) (hc.round hg (by omega)) (by omega) (by omega)
   ·rw [if_neg h0];exact stop c n hc h0
def c0 (g:Graph):List Int:=List.replicate g.N.toNat 0
def Znd (g:Graph):List Int:=(runL g 64 (c0 g) 0).1
theorem cg_c0 (g:Graph) (a:Int):cg (c0 g) a=0:=by
 unfold cg c0
 rw [List.getElem?_replicate]
 split<;>rfl
theorem c0_ok {g:Graph} (hg:okG g=true):ColN g (c0 g) 0:=by
 obtain ⟨g1,_⟩:=Zd7 hg
 refine ⟨by simp [c0];omega,fun x hx=>?_,fun x hx=>?_,fun a b _ h _=>absurd (cg_c0 g a) h⟩
 ·have:=List.eq_of_mem_replicate hx;omega
 ·have:=List.eq_of_mem_replicate hx;omega
theorem zeros64 {g:Graph} (hg:okG g=true) (c:List Int):zeros g c≤64:=by
 have:=zeros_le g c
 have:=(Zd7 hg).2.1
 omega
theorem Zod {g:Graph} (hg:okG g=true):Z69 g (Znd g)=true∧(Znd g).length≤64:=by
 have:=runL_right hg 64 (c0 g) 0 (c0_ok hg) (zeros64 hg _) (by omega)
 exact this
theorem s_Run (g:Graph) (hg:okG g=true):Zad g=some (Znd g,(runL g 64 (c0 g) 0).2,0):=by
 obtain ⟨g1,g2,_⟩:=Zd7 hg
 simp only [Zad,Zc7,hg,if_true,Option.bind_some,decide_true,Bool.not_true,Zv5]
 have e:mk_ 8 g.N 0=some (c0 g):=by
  unfold mk_
  rw [if_pos ⟨by omega,by omega⟩];rfl
 rw [e,Option.bind_some]
 exact run_loop hg 64 (c0 g) 0 (c0_ok hg) (zeros64 hg _) (by omega)
def Zpd (g:Graph):Scene:=⟨Zv9 g (Znd g),[]⟩
theorem s_New (g:Graph):Zhd g=some (if okG g then (Zpd g,0) else (⟨[],[]⟩,30)):=by
 cases hg:okG g with
 | false=>
   have:Zad g=some ([],0,30):=by
    simp only [Zad,Zc7,hg,Option.bind_some];rfl
   simp only [Zhd,this,Option.bind_some];rfl
 | true=>
   obtain ⟨h1,h2⟩:=Zod hg
   simp only [Zhd,s_Run g hg,Option.bind_some,decide_true,Bool.not_true,Zv5,s_Table g _ (show (Znd g).length≤1000000 by omega),hg,h1,if_true]
   rfl
theorem Zqd (id:Int):∀(l:List Side) (q:Int),l.Pairwise (fun x y=>x.Peer<y.Peer)→(∀x∈l,q<x.Peer∧x.Peer≠id∧x.Epoch=1∧x.State=0∧(x.Dirty=true→x.Fork=true))→Zla id q l=true
 | [],_,_,_=>rfl
 | x::l,q,h,hb=>by
   rw [List.pairwise_cons] at h
   obtain ⟨b1,b2,b3,b4,b5⟩:=hb x (by simp)
   have ih:=Zqd id l x.Peer h.2 fun y hy=>by
    have:=hb y (by simp [hy])
    exact ⟨h.1 y hy,this.2⟩
   simp only [Zla,ih,Bool.and_true,sideD,decide_eq_true b1,decide_eq_false b2,b3,b4]
   cases hd:x.Dirty with
   | false=>rfl
   | true=>rw [b5 hd];rfl
theorem LocD.ok {g:Graph} (hg:okG g=true) (hN:g.N≤60) {a:Nat} {d:Diner} (h:LocD d) (hid:d.ID=a) (hp:d.Sides.map (·.Peer)=Zo9 g a):okD d=true:=by
 have hlen:d.Sides.length=(Zo9 g a).length:=by rw [←hp];simp
 have hfew:=near_few hg (a:Int)
 have hpw:d.Sides.Pairwise fun x y=>x.Peer<y.Peer:=by
  have:=Zp9 hg (a:Int)
  rw [←hp,List.pairwise_map] at this
  exact this
 unfold okD
 rw [decide_eq_true (show 0≤d.ID by omega),decide_eq_true h.lo,decide_eq_true h.hi,decide_eq_true (show d.Sides.length<64 by omega),Zqd d.ID d.Sides (-1) hpw fun x hx=>?_]
 ·rfl
 ·have hm:x.Peer∈Zo9 g a:=by rw [←hp];exact List.mem_map_of_mem hx
  obtain ⟨n1,n2,n3,_⟩:=Zs9 hg hm
  exact ⟨by omega,by omega,h.side x hx⟩
theorem Inv.okd {g:Graph} {s:Scene} (hg:okG g=true) (hN:g.N≤60) (h:Inv g s) {d:Diner} (hd:d∈s.Diners):okD d=true:=by
 obtain ⟨k,hk⟩:=List.mem_iff_getElem?.1 hd
 obtain ⟨h1,h2⟩:=h.shp k d hk
 exact (h.loc d hd).ok hg hN h1 h2
theorem Inv.few {g:Graph} {s:Scene} (hg:okG g=true) (h:Inv g s):Zv7 s.Diners:=by
 have:=(Zd7 hg).2.1
 refine ⟨by have:=h.len;omega,fun d hd=>?_⟩
 obtain ⟨k,hk⟩:=List.mem_iff_getElem?.1 hd
 have h2:=(h.shp k d hk).2
 have:d.Sides.length=(Zo9 g k).length:=by rw [←h2];simp
 have:=near_few hg (k:Int)
 omega
theorem Inv.graph {g:Graph} {s:Scene} (hg:okG g=true) (h:Inv g s):Zd8 s.Diners=(g,true):=by
 rw [←graphP_T hg []]
 refine graphP_key (List.ext_getElem? fun k=>?_)
 have hl:=Zy9 hg []
 have hl2:=h.len
 rw [List.getElem?_map,List.getElem?_map]
 by_cases hk:k<s.Diners.length
 ·have e:=Zx9 (g:=g) (c:=[]) (a:=(k:Int)) (by omega) (by omega)
  have hx:s.Diners[k]?=some s.Diners[k]:=List.getElem?_eq_getElem hk
  obtain ⟨h1,h2⟩:=h.shp k _ hx
  rw [Int.toNat_natCast] at e
  rw [hx,e]
  simp only [Option.map_some,key,h1,h2,Zu9,List.map_map]
  congr 2
  exact (List.map_id _).symm
 ·rw [List.getElem?_eq_none (by omega),List.getElem?_eq_none (by omega)]
theorem mailG_ok {g:Graph} (hg:okG g=true) {n:Nat} (hn:(n:Int)=g.N) {m:Mail} (h:mailG g m):Zgc n m=true:=by
 obtain ⟨n1,n2,n3,n4,n5⟩:=Zs9 hg h.2.2.2
 unfold Zgc
 rw [decide_eq_false (by omega),decide_eq_false (by omega),decide_eq_false (by omega)];rfl
theorem Inv.ok {g:Graph} {s:Scene} (hg:okG g=true) (hN:g.N≤60) (h:Inv g s):okS s=true:=by
 unfold okS
 rw [h.graph hg,Bool.true_and,Bool.and_eq_true,List.all_eq_true,List.all_eq_true]
 exact ⟨fun d hd=>h.okd hg hN hd,fun m hm=>mailG_ok hg h.len (h.mail m hm)⟩
theorem Inv.init {g:Graph} (hg:okG g=true) {c:List Int} (hr:Z69 g c=true):Inv g ⟨Zv9 g c,[]⟩:=by
 have get:∀(k:Nat) d,(Zv9 g c)[k]?=some d→(k:Int)<g.N∧d=Zu9 g c k:=fun k d hd=>by
  have hk:=(List.getElem?_eq_some_iff.1 hd).1
  have hl:=Zy9 hg c
  have e:=Zx9 (g:=g) (c:=c) (a:=(k:Int)) (by omega) (by omega)
  rw [Int.toNat_natCast,hd] at e
  exact ⟨by omega,by simpa using e⟩
 refine ⟨Zy9 hg c,fun k d hd=>?_,fun d hd=>?_,by simp,fun a b da db ha hb hab k hk=>?_⟩
 ·obtain ⟨_,rfl⟩:=get k d hd
  refine ⟨rfl,?_⟩
  simp only [Zu9,List.map_map]
  exact List.map_id _
 ·obtain ⟨k,hk⟩:=List.mem_iff_getElem?.1 hd
  obtain ⟨_,rfl⟩:=get k d hk
  refine ⟨Int.le_refl _,by show (0:Int)≤2;omega,fun x hx=>?_,fun h=>absurd h (by show ¬(0:Int)=2;omega)⟩
  obtain ⟨b,_,rfl⟩:=List.mem_map.1 hx
  exact ⟨rfl,rfl,fun h=>h⟩
 ·obtain ⟨_,rfl⟩:=get a da ha
  obtain ⟨_,rfl⟩:=get b db hb
  have hne:=rightB_ne hg hr hab
  have hba:=Zz9 hg hab
  unfold hasD cnt
  rw [sideO_T,if_pos hab,sideO_T,if_pos hba]
  have hlt:decide (cg c a<cg c b)=!decide (cg c b<cg c a):=by
   rw [←decide_not,decide_eq_decide];omega
  simp only [Zt9,has,hlt,bn]
  by_cases hh:cg c b<cg c a<;>rcases hk with rfl | rfl<;>simp [hh]
theorem Zrd {l:List Diner} (hid:∀(k:Nat) x,l[k]?=some x→x.ID=k) (a:Nat) (y:Diner):(l.map fun x=>if x.ID=(a:Int) then y else x)=l.set a y:=by
 refine List.ext_getElem? fun k=>?_
 rw [List.getElem?_map,List.getElem?_set]
 by_cases hk:k<l.length
 ·have hx:l[k]?=some l[k]:=List.getElem?_eq_getElem hk
  have:=hid k _ hx
  rw [hx,Option.map_some]
  by_cases he:a=k
  ·subst he;simp [this,hk]
  ·rw [if_neg (by omega),if_neg he]
 ·rw [List.getElem?_eq_none (by omega)]
  split
  ·rename_i he;subst he;simp;omega
  ·rfl
theorem Inv.ids {g:Graph} {s:Scene} (h:Inv g s) (k:Nat) (x:Diner) (hx:s.Diners[k]?=some x):x.ID=k:=(h.shp k x hx).1
theorem Zsd {l:List Diner} {a:Nat} {d d':Diner} (hd:l[a]?=some d):(l.set a d')[a]?=some d':=by
 have hlt:=(List.getElem?_eq_some_iff.1 hd).1
 rw [List.getElem?_set];simp [hlt]
theorem Inv.act {g:Graph} {s s1:Scene} (hg:okG g=true) (hN:g.N≤60) {a:Nat} {d:Diner} (h:Inv g s1) (hd:s1.Diners[a]?=some d) (he:s1.Diners=s.Diners.set a d) (hm:s1.Mail=s.Mail) (hs:∀(k:Nat) x,s.Diners[k]?=some x→x.ID=k):
  okD d=true∧Inv g (actS s a d):=by
 refine ⟨h.okd hg hN (List.mem_iff_getElem?.2 ⟨_,hd⟩),?_⟩
 have:=h.fire hg hd
 unfold actS
 rw [Zrd hs a]
 rw [he,List.set_set,hm] at this
 exact this
theorem Inv.phase {g:Graph} {s:Scene} (hg:okG g=true) (h:Inv g s) {a:Nat} {d:Diner} (hd:s.Diners[a]?=some d) {p:Int} (h0:0≤p) (h1:p<2):Inv g ⟨s.Diners.set a ⟨d.ID,p,d.Sides⟩,s.Mail⟩:=by
 have hl:=h.loc d (List.mem_iff_getElem?.2 ⟨_,hd⟩)
 exact h.set (d':=⟨d.ID,p,d.Sides⟩) hg hd rfl rfl ⟨h0,by show p≤2;omega,hl.side,fun e=>absurd e (by show ¬p=2;omega)⟩ h.mail (fun _ _ _ _ _=>rfl) (fun _ _ _ _=>rfl)
theorem Ztd {s:Scene} {a:Int}:Zhc s a=true↔0≤a∧a<s.Diners.length:=by simp [Zhc]
def fineE (e:Int):Bool:=decide (e=0)||(decide (e=134)||(decide (e=141)||decide (e=140)))
theorem turnS_inv {g:Graph} {s:Scene} (hg:okG g=true) (hN:g.N≤60) (h:Inv g s) (a p q:Int) (h0:0≤q) (h1:q<2):fineE (Zic s a fun d=>Zsa d p q).2=true∧((Zic s a fun d=>Zsa d p q).2=0→Inv g (Zic s a fun d=>Zsa d p q).1):=by
 unfold Zic
 rw [h.ok hg hN,if_pos rfl]
 cases ht:Zhc s a with
 | false=>exact ⟨rfl,fun e=>absurd e (by show ¬(140:Int)=0;omega)⟩
 | true=>
   obtain ⟨a0,_⟩:=Ztd.1 ht
   obtain ⟨d,hd1,hd⟩:=Zjc ht
   have hok:=h.okd hg hN (List.mem_iff_getElem?.2 ⟨_,hd⟩)
   rw [if_pos rfl,hd1]
   dsimp only
   unfold Zsa
   rw [hok,if_pos rfl]
   by_cases hp:d.Phase=p
   ·rw [if_pos hp]
    have h2:=h.phase hg hd (p:=q) h0 h1
    obtain ⟨k1,k2⟩:=Inv.act (s:=s) hg hN h2 (Zsd hd) rfl rfl h.ids
    rw [Int.toNat_of_nonneg a0] at k2
    unfold actP
    rw [if_pos rfl,if_pos k1]
    exact ⟨rfl,fun _=>k2⟩
   ·rw [if_neg hp]
    exact ⟨rfl,fun e=>absurd e (by show ¬(134:Int)=0;omega)⟩
theorem Zud {α:Type} {p q:α→Bool}:∀ {l:List α},(∀x∈l,p x=q x)→l.find? p=l.find? q
 | [],_=>rfl
 | x::l,h=>by
   rw [List.find?_cons,List.find?_cons,h x (by simp),Zud fun y hy=>h y (by simp [hy])]
theorem cnt_erase {M:List Mail} {i:Nat} {m:Mail} (hm:M[i]?=some m) (x:Mail):(M.take i++M.drop (i+1)).count x+(if m=x then 1 else 0)=M.count x:=by
 have hlt:=(List.getElem?_eq_some_iff.1 hm).1
 have e:M=M.take i++m::M.drop (i+1):=by
  have h1:=List.take_append_drop i M
  rw [List.drop_eq_getElem_cons hlt] at h1
  have h2:M[i]=m:=by rw [List.getElem?_eq_getElem hlt] at hm;simpa using hm
  rw [h2] at h1
  exact h1.symm
 have e2:M.count x=(M.take i++m::M.drop (i+1)).count x:=by rw [←e]
 rw [e2,List.count_append,List.count_append,List.count_cons]
 by_cases h:m=x
 ·simp [h];omega
 ·simp [h]
def Zvd (x:Side) (k:Int):Side:=if k=1 then {x with Fork:=true} else {x with Token:=true}
theorem Inv.recv {g:Graph} {s:Scene} (hg:okG g=true) (hN:g.N≤60) (h:Inv g s) {a b:Int} {m:Mail} (hmm:m∈s.Mail) (q1:m.From=a) (q2:m.To=b) {M':List Mail} (hsub:∀y∈M',y∈s.Mail) (hct:∀x,M'.count x+(if m=x then 1 else 0)=s.Mail.count x)
  {db:Diner} (hdb:s.Diners[b.toNat]?=some db):
  ∃x j,db.Sides.findIdx? (fun y=>decide (y.Peer=a)&&decide (y.Epoch=m.Msg.Epoch))=some j∧db.Sides[j]?=some x∧Zw7 db a=some x∧(m.Msg.Kind=1∨m.Msg.Kind=2)∧
   (∀z:Int,Zw7 ⟨db.ID,db.Phase,db.Sides.set j (Zvd x m.Msg.Kind)⟩ z=if z=a then some (Zvd x m.Msg.Kind) else Zw7 db z)∧
   Inv g ⟨s.Diners.set b.toNat ⟨db.ID,db.Phase,db.Sides.set j (Zvd x m.Msg.Kind)⟩,M'⟩∧getD' db a m.Msg=(⟨db.ID,db.Phase,db.Sides.set j (Zvd x m.Msg.Kind)⟩,0):=by
 obtain ⟨m1,m2,m3,m4⟩:=h.mail m hmm
 rw [q1,q2] at m4
 have nab:=Zz9 hg m4
 obtain ⟨b0,b1,_,a0,a1⟩:=Zs9 hg m4
 have hlen:=h.len
 have hda:s.Diners[a.toNat]?=some s.Diners[a.toNat]:=List.getElem?_eq_getElem (by omega)
 obtain ⟨hid,hsh⟩:=h.shp _ _ hdb
 have hok:=h.okd hg hN (List.mem_iff_getElem?.2 ⟨_,hdb⟩)
 have hloc:=h.loc db (List.mem_iff_getElem?.2 ⟨_,hdb⟩)
 have hpw:=h.pw hg hdb
 have hsome:(Zw7 db a).isSome=true:=by
  rw [Z0b,hsh,Int.toNat_of_nonneg b0];exact decide_eq_true nab
 obtain ⟨x,hx⟩:=Option.isSome_iff_exists.1 hsome
 obtain ⟨xm,xp⟩:=Zcb hx
 have hidx:=Zx7 (fun x:Side=>decide (x.Peer=a)&&decide (x.Epoch=m.Msg.Epoch)) db.Sides
 have efun:∀y∈db.Sides,(decide (y.Peer=a)&&decide (y.Epoch=m.Msg.Epoch))=decide (y.Peer=a):=fun y hy=>by
  rw [m2,(hloc.side y hy).1];simp
 have efind:db.Sides.find? (fun y=>decide (y.Peer=a)&&decide (y.Epoch=m.Msg.Epoch))=some x:=by
  rw [←hx];unfold Zw7
  exact Zud efun
 cases hj:db.Sides.findIdx? (fun y=>decide (y.Peer=a)&&decide (y.Epoch=m.Msg.Epoch)) with
 | none=>rw [hj] at hidx;rw [efind] at hidx;exact absurd hidx (by simp)
 | some j=>
   rw [hj] at hidx
   obtain ⟨x',hx1,hx2⟩:=hidx
   rw [efind] at hx2
   have:x'=x:=by simpa using hx2.symm
   subst this
   have hk:m.Msg.Kind=1∨m.Msg.Kind=2:=m1
   have hme:m=⟨a,b,⟨m.Msg.Kind,1,0⟩⟩:=by
    obtain ⟨f,t,⟨k,e,n⟩⟩:=m
    dsimp only at q1 q2 m2 m3 ⊢
    rw [q1,q2,m2,m3]
   have hcnt:1≤cnt s.Mail m.Msg.Kind a b:=by
    unfold cnt
    have:=List.count_pos_iff.2 hmm
    rw [←hme];omega
   have hone:=h.one b.toNat a.toNat db _ hdb hda (by rw [Int.toNat_of_nonneg b0,Int.toNat_of_nonneg a0];exact nab) m.Msg.Kind hk
   rw [Int.toNat_of_nonneg b0,Int.toNat_of_nonneg a0] at hone
   have hhas:has x' m.Msg.Kind=false:=by
    cases hh:has x' m.Msg.Kind with
    | false=>rfl
    | true=>
      have:hasD db m.Msg.Kind a=1:=by unfold hasD;rw [hx];simp only [hh,bn];rfl
      omega
   have hgp:(Zvd x' m.Msg.Kind).Peer=x'.Peer:=by unfold Zvd;split<;>rfl
   have hjlt:=(List.getElem?_eq_some_iff.1 hx1).1
   have es:∀z:Int,Zw7 ⟨db.ID,db.Phase,db.Sides.set j (Zvd x' m.Msg.Kind)⟩ z=if z=a then some (Zvd x' m.Msg.Kind) else Zw7 db z:=fun z=>by
    have hsplit:db.Sides=db.Sides.take j++x'::db.Sides.drop (j+1):=by
     have h1:=List.take_append_drop j db.Sides
     rw [List.drop_eq_getElem_cons hjlt] at h1
     have h2:db.Sides[j]=x':=by rw [List.getElem?_eq_getElem hjlt] at hx1;simpa using hx1
     rw [h2] at h1;exact h1.symm
    have hjl:(db.Sides.take j).length=j:=by simp;omega
    have hset2:db.Sides.set j (Zvd x' m.Msg.Kind)=db.Sides.take j++Zvd x' m.Msg.Kind::db.Sides.drop (j+1):=by
     have:=Zq7 (db.Sides.take j) (db.Sides.drop (j+1)) x' (Zvd x' m.Msg.Kind)
     rw [←hsplit,hjl,Int.toNat_natCast] at this
     exact this
    unfold Zw7
    dsimp only
    rw [hset2]
    have hpw2:=hpw
    rw [hsplit,List.pairwise_append,List.pairwise_cons] at hpw2
    have before:∀y∈db.Sides.take j,y.Peer≠a:=fun y hy=>by
     have:=hpw2.2.2 y hy x' (by simp);omega
    rw [List.find?_append,List.find?_cons,hgp]
    by_cases hz:z=a
    ·subst hz
     rw [decide_eq_true xp,if_pos rfl]
     have:(db.Sides.take j).find? (fun y=>decide (y.Peer=z))=none:=by
      rw [List.find?_eq_none];intro y hy;simpa using before y hy
     rw [this];rfl
    ·rw [if_neg hz]
     have e3:db.Sides.find? (fun y=>decide (y.Peer=z))=(db.Sides.take j++x'::db.Sides.drop (j+1)).find? (fun y=>decide (y.Peer=z)):=by rw [←hsplit]
     rw [e3,List.find?_append,List.find?_cons,decide_eq_false (show ¬x'.Peer=z by omega)]
   have hset:Inv g ⟨s.Diners.set b.toNat ⟨db.ID,db.Phase,db.Sides.set j (Zvd x' m.Msg.Kind)⟩,M'⟩:=by
    have smem:∀y∈db.Sides.set j (Zvd x' m.Msg.Kind),y=Zvd x' m.Msg.Kind∨y∈db.Sides:=fun y hy=>by
     rcases List.mem_or_eq_of_mem_set hy with h1 | h1
     ·exact .inr h1
     ·exact .inl h1
    have gloc:=hloc.side x' xm
    have gside:(Zvd x' m.Msg.Kind).Epoch=1∧(Zvd x' m.Msg.Kind).State=0∧((Zvd x' m.Msg.Kind).Dirty=true→(Zvd x' m.Msg.Kind).Fork=true):=by
     unfold Zvd;split
     ·exact ⟨gloc.1,gloc.2.1,fun _=>rfl⟩
     ·exact gloc
    refine h.set (d':=⟨db.ID,db.Phase,db.Sides.set j (Zvd x' m.Msg.Kind)⟩) hg hdb rfl ?_ ⟨hloc.lo,hloc.hi,fun y hy=>?_,fun h2 y hy=>?_⟩ (fun y hy=>?_) (fun k p q hp hq=>?_) (fun c hc k hk'=>?_)
    ·dsimp only
     rw [List.map_set,hgp]
     refine List.ext_getElem? fun n=>?_
     rw [List.getElem?_set]
     split
     ·rename_i hn;subst hn
      rw [List.getElem?_map,hx1];simp [hjlt]
     ·rfl
    ·rcases smem y hy with rfl | hy
     ·exact gside
     ·exact hloc.side y hy
    ·rcases smem y hy with rfl | hy
     ·have:=hloc.eat h2 x' xm
      unfold Zvd;split
      ·exact ⟨rfl,this.2⟩
      ·exact this
     ·exact hloc.eat h2 y hy
    ·exact h.mail y (hsub y hy)
    ·have:=hct ⟨p,q,⟨k,1,0⟩⟩
     rw [if_neg (by rw [hme];simp only [Mail.mk.injEq];omega)] at this
     exact this
    ·rw [Int.toNat_of_nonneg b0] at hc ⊢
     have e1:=hct ⟨b,c,⟨k,1,0⟩⟩
     have e2:=hct ⟨c,b,⟨k,1,0⟩⟩
     have hnab:a≠b:=fun e=>(Zs9 hg m4).2.2.1 e.symm
     rw [if_neg (by rw [hme];simp only [Mail.mk.injEq];omega)] at e1
     unfold hasD
     rw [es]
     by_cases hca:c=a
     ·subst hca
      rw [if_pos rfl,hx]
      dsimp only
      by_cases hkk:k=m.Msg.Kind
      ·subst hkk
       have h1:has (Zvd x' m.Msg.Kind) m.Msg.Kind=true:=by
        unfold has Zvd
        rcases hk with h1 | h1<;>rw [h1]<;>rfl
       rw [if_pos hme] at e2
       rw [h1,hhas]
       unfold cnt
       simp only [bn,if_true,Bool.false_eq_true,if_false]
       omega
      ·have h1:has (Zvd x' m.Msg.Kind) k=has x' k:=by
        unfold has Zvd
        rcases hk with h2 | h2<;>rcases hk' with h3 | h3<;>rw [h2,h3]
        ·exact absurd (h3.trans h2.symm) hkk
        ·rfl
        ·rfl
        ·exact absurd (h3.trans h2.symm) hkk
       rw [if_neg (by rw [hme];simp only [Mail.mk.injEq,Msg.mk.injEq];omega)] at e2
       rw [h1]
       unfold cnt
       omega
     ·rw [if_neg hca]
      rw [if_neg (by rw [hme];simp only [Mail.mk.injEq];omega)] at e2
      unfold cnt
      omega
   refine ⟨x',j,rfl,hx1,hx,hk,es,hset,?_⟩
   have hres:(if (decide (m.Msg.Kind=1)&&decide (m.Msg.Num=0))=true then (if x'.Fork=true then (Zra,132) else (⟨db.ID,db.Phase,db.Sides.set j {x' with Fork:=true}⟩,0))
    else if (decide (m.Msg.Kind=2)&&decide (m.Msg.Num=0))=true then (if x'.Token=true then (Zra,132) else (⟨db.ID,db.Phase,db.Sides.set j {x' with Token:=true}⟩,0))
    else ((Zra,133):Diner×Int))=(⟨db.ID,db.Phase,db.Sides.set j (Zvd x' m.Msg.Kind)⟩,0):=by
    unfold has at hhas
    unfold Zvd
    rcases hk with h1 | h1
    ·rw [h1] at hhas ⊢
     rw [m3]
     simp at hhas
     simp [hhas]
    ·rw [h1] at hhas ⊢
     rw [m3]
     simp at hhas
     simp [hhas]
   unfold getD'
   rw [hok,if_pos rfl,hj]
   dsimp only
   rw [hx1]
   dsimp only
   rw [hres]
theorem delivS_eq {g:Graph} {s:Scene} (hg:okG g=true) (hN:g.N≤60) (h:Inv g s) {a b:Int} (ht:Zhc s a=true) (ht':Zhc s b=true) {i:Nat} (hf:Zkc s a b=some i):
  ∃m db x d1,s.Mail[i]?=some m∧m.From=a∧m.To=b∧s.Diners[b.toNat]?=some db∧Zw7 db a=some x∧(m.Msg.Kind=1∨m.Msg.Kind=2)∧d1.ID=db.ID∧d1.Phase=db.Phase∧(∀z:Int,Zw7 d1 z=if z=a then some (Zvd x m.Msg.Kind) else Zw7 db z)∧
   Inv g ⟨s.Diners.set b.toNat d1,s.Mail.take i++s.Mail.drop (i+1)⟩∧Zlc s a b=(actS ⟨s.Diners,s.Mail.take i++s.Mail.drop (i+1)⟩ b d1,0)∧Inv g (actS ⟨s.Diners,s.Mail.take i++s.Mail.drop (i+1)⟩ b d1):=by
 obtain ⟨a0,a1⟩:=Ztd.1 ht
 obtain ⟨b0,b1⟩:=Ztd.1 ht'
 obtain ⟨db,hdb1,hdb⟩:=Zjc ht'
 obtain ⟨da,_,hda⟩:=Zjc ht
 have hf0:=hf
 unfold Zkc at hf
 have hfi:=Zx7 (fun m:Mail=>decide (m.From=a)&&decide (m.To=b)) s.Mail
 rw [hf] at hfi
 obtain ⟨m,hm,hq⟩:=hfi
 have hq':=List.find?_some hq
 simp only [Bool.and_eq_true,decide_eq_true_eq] at hq'
 obtain ⟨q1,q2⟩:=hq'
 have hmm:m∈s.Mail:=List.mem_iff_getElem?.2 ⟨_,hm⟩
 obtain ⟨x,j,_,_,hx,hk,es,hset,hgd⟩:=h.recv hg hN hmm q1 q2 (M':=s.Mail.take i++s.Mail.drop (i+1)) (fun y hy=>by
  rcases List.mem_append.1 hy with hy | hy
  ·exact List.mem_of_mem_take hy
  ·exact List.mem_of_mem_drop hy) (cnt_erase hm) hdb
 obtain ⟨k1,k2⟩:=Inv.act (s:=⟨s.Diners,s.Mail.take i++s.Mail.drop (i+1)⟩) hg hN hset (Zsd hdb) rfl rfl h.ids
 rw [Int.toNat_of_nonneg b0] at k2
 refine ⟨m,db,x,⟨db.ID,db.Phase,db.Sides.set j (Zvd x m.Msg.Kind)⟩,hm,q1,q2,hdb,hx,hk,rfl,rfl,es,hset,?_,k2⟩
 unfold Zlc
 rw [h.ok hg hN,if_pos rfl,ht,ht',Bool.true_and,if_pos rfl,hf0]
 dsimp only
 rw [hm,hdb1]
 dsimp only
 rw [hgd]
 unfold actP
 dsimp only
 rw [if_pos rfl,if_pos k1]
theorem delivS_inv {g:Graph} {s:Scene} (hg:okG g=true) (hN:g.N≤60) (h:Inv g s) (a b:Int):fineE (Zlc s a b).2=true∧((Zlc s a b).2=0→Inv g (Zlc s a b).1):=by
 cases ht:Zhc s a with
 | false=>
   unfold Zlc
   rw [h.ok hg hN,if_pos rfl,ht]
   exact ⟨rfl,fun e=>absurd e (by show ¬(140:Int)=0;omega)⟩
 | true=>
   cases ht':Zhc s b with
   | false=>
     unfold Zlc
     rw [h.ok hg hN,if_pos rfl,ht,ht']
     exact ⟨rfl,fun e=>absurd e (by show ¬(140:Int)=0;omega)⟩
   | true=>
     cases hf:Zkc s a b with
     | none=>
       unfold Zlc
       rw [h.ok hg hN,if_pos rfl,ht,ht',Bool.true_and,if_pos rfl,hf]
       exact ⟨rfl,fun e=>absurd e (by show ¬(141:Int)=0;omega)⟩
     | some i=>
       obtain ⟨m,db,x,d1,_,_,_,_,_,_,_,_,_,_,e,k⟩:=delivS_eq hg hN h ht ht' hf
       rw [e]
       exact ⟨rfl,fun _=>k⟩
theorem actA_inv {g:Graph} {s:Scene} (hg:okG g=true) (hN:g.N≤60) (h:Inv g s) (k a b:Int):fineE (Zmc s k a b).2=true∧((Zmc s k a b).2=0→Inv g (Zmc s k a b).1):=by
 unfold Zmc
 split
 ·exact turnS_inv hg hN h a 0 1 (by omega) (by omega)
 ·split
  ·exact turnS_inv hg hN h a 2 0 (by omega) (by omega)
  ·exact delivS_inv hg hN h a b
set_option maxRecDepth 100000
set_option maxHeartbeats 4000000
@[go_sem] def e50:EC:=.seq (.reg [(Qx 1 65 8 0),(Qa 2 (.mv (.c .ff)))]) (.seq (.reg [(Qf 3 3 1),(Ql 4 3),(Qm 2 4)]) (.ret))
theorem ok50:FnOK Tryz.prog 50 Tryz.f50 e50 [.t 2] 1 4:=⟨by kernel_rfl,⟨_,rfl,by kernel_rfl⟩,by kernel_rfl,by kernel_rfl⟩
noncomputable def Zwd (x1:Side):Option Bool:=
 some x1.Fork
theorem Zxd (x1:Side) (r:Bool) (h:Zwd x1=some r):Zu2 Tryz.prog 50 [.agg (Side.row x1)] (.bv r):=by
 refine Zy2 ok50 rfl rfl fun w0 H0=>?_
 rw [Zwd] at h
 refine Zo2 11 ?_;dsimp only [go_sem];refine An ?_;exact Zr4 (res:=fun (r:Bool)=>.bv r) ok50 h
set_option maxRecDepth 100000
set_option maxHeartbeats 4000000
@[go_sem] def e51:EC:=.seq (.reg [(Qx 1 65 8 0),(Qa 2 (.mv (.c .ff)))]) (.seq (.reg [(Qf 3 5 1),(Ql 4 3),(Qm 2 4)]) (.ret))
theorem ok51:FnOK Tryz.prog 51 Tryz.f51 e51 [.t 2] 1 4:=⟨by kernel_rfl,⟨_,rfl,by kernel_rfl⟩,by kernel_rfl,by kernel_rfl⟩
noncomputable def Zyd (x1:Side):Option Bool:=
 some x1.Token
theorem Zzd (x1:Side) (r:Bool) (h:Zyd x1=some r):Zu2 Tryz.prog 51 [.agg (Side.row x1)] (.bv r):=by
 refine Zy2 ok51 rfl rfl fun w0 H0=>?_
 rw [Zyd] at h
 refine Zo2 11 ?_;dsimp only [go_sem];refine An ?_;exact Zr4 (res:=fun (r:Bool)=>.bv r) ok51 h
set_option maxRecDepth 100000
set_option maxHeartbeats 4000000
@[go_sem] def e14_L1:EC:=.seq (.reg [(Qa 89 (.bin .lss (.t 88) (.t 87)))]) (.seq (.ite (.t 89) (.skip) (.exit 3)) (.seq (.blk 4 (.seq (.reg [(Qk 90 5 86 88),(Qe 91 5 90),(Qa 16 (.alloc 78 [.iv 0,.iv 0,.iv 0,.iv 0,.iv 0])),(Qs 5 16 91)]) (.seq (.reg [(Qf 92 2 16),(Qf 93 0 92),(Ql 94 93),(Qm 95 2),(Qa 96 (.bin .eql (.t 94) (.t 95))),(Qm 97 96),(Qh 98 97 true 2 16),(Qh 99 97 true 1 98),(Qn 100 97 true 99),(Qh 101 97 true 1 7),(Qn 102 97 true 101),(Qg 103 97 true (.bin .eql (.t 100) (.t 102))),(Qp 104 97 103),(Qm 105 104),(Qh 106 105 true 0 16),(Qn 107 105 true 106),(Qh 108 105 true 1 16),(Qn 109 105 true 108),(Qg 110 105 true (.mm false [(.t 107),(.t 109)])),(Qh 111 105 true 0 4),(Qn 112 105 true 111),(Qh 113 105 true 1 4),(Qn 114 105 true 113),(Qg 115 105 true (.mm false [(.t 112),(.t 114)])),(Qg 116 105 true (.bin .eql (.t 110) (.t 115))),(Qp 117 105 116),(Qm 118 117),(Qh 119 118 true 0 16),(Qn 120 118 true 119),(Qh 121 118 true 1 16),(Qn 122 118 true 121),(Qg 123 118 true (.mm true [(.t 120),(.t 122)])),(Qh 124 118 true 0 4),(Qn 125 118 true 124),(Qh 126 118 true 1 4),(Qn 127 118 true 126),(Qg 128 118 true (.mm true [(.t 125),(.t 127)])),(Qg 129 118 true (.bin .eql (.t 123) (.t 128))),(Qp 130 118 129)]) (.ite (.t 130) (.reg [(Qm 131 12),(Qv 132 131 1),(Qm 12 132)]) (.skip))))) (.reg [(Qv 133 88 1),(Qm 88 133)])))
@[go_sem] def e14_L0:EC:=.seq (.reg [(Qa 76 (.bin .lss (.t 75) (.t 74)))]) (.seq (.ite (.t 76) (.skip) (.exit 1)) (.seq (.blk 2 (.seq (.reg [(Qk 77 8 73 75),(Qe 78 8 77),(Qa 14 (.alloc 65 [.iv 0,.iv 0,.iv 0,.ff,.ff,.ff,.ff,.ff])),(Qs 8 14 78)]) (.seq (.reg [(Qm 79 11),(Qe 80 8 14),(Qa 81 (.callv (.t 79) [(.t 80)]))]) (.ite (.t 81) (.reg [(Qm 82 12),(Qv 83 82 1),(Qm 12 83)]) (.skip))))) (.reg [(Qv 84 75 1),(Qm 75 84)])))
@[go_sem] def e14:EC:=.seq (.reg [(Qx 3 25 2 0),(Qx 4 29 2 1),(Qi 6 0)]) (.seq (.seq (.reg [(Qe 17 2 3),(Qf 18 0 4),(Ql 19 18),(Qa 20 (.call 49 [(.t 17),(.t 19)])),(Qa 21 (.not (.t 20))),(Qm 22 21),(Qg 23 22 false (.loadA 2 (.t 3))),(Qh 24 22 false 1 4),(Qn 25 22 false 24),(Qg 26 22 false (.call 49 [(.t 23),(.t 25)])),(Qg 27 22 false (.not (.t 26))),(Qq 28 22 27)]) (.ite (.t 28) (.seq (.reg [(Qi 6 0)]) (.ret)) (.skip))) (.seq (.drw [(Qf 30 0 3),(Ql 31 30),(Qf 32 0 4),(Ql 33 32),(Qk 34 3 31 33),(Qe 35 3 34),(Qf 36 1 4),(Ql 37 36),(Qa 38 (.call 31 [(.t 35),(.t 37)])),(Qm 29 38),(Qa 39 (.ext (.t 29) 0)),(Qa 40 (.ext (.t 29) 1)),(Qa 7 (.alloc 65 [.iv 0,.iv 0,.iv 0,.ff,.ff,.ff,.ff,.ff])),(Qs 8 7 39),(Qm 8 40)] [[],[0],[],[2],[1,3],[4],[],[6],[5,7],[8],[9],[9],[],[12,10,8,0,1,2,3,4,5,6,7,8,9,10,12],[11,13,0,1,2,3,4,5,6,7,8,9,10,11,12,13]] [[1],[0,4],[3],[2,4],[1,3,5],[4,8],[7],[6,8],[5,7,9],[8,10,11],[9,13],[9,14],[13],[10,12],[11]]) (.seq (.drw [(Qf 42 0 3),(Ql 43 42),(Qf 44 1 4),(Ql 45 44),(Qk 46 3 43 45),(Qe 47 3 46),(Qf 48 0 4),(Ql 49 48),(Qa 50 (.call 31 [(.t 47),(.t 49)])),(Qm 41 50),(Qa 51 (.ext (.t 41) 0)),(Qa 52 (.ext (.t 41) 1)),(Qa 9 (.alloc 65 [.iv 0,.iv 0,.iv 0,.ff,.ff,.ff,.ff,.ff])),(Qs 8 9 51),(Qm 10 52)] [[],[0],[],[2],[1,3],[4],[],[6],[5,7],[8],[9],[9],[],[12,10,8,0,1,2,3,4,5,6,7,8,9,10,12],[11,13,0,1,2,3,4,5,6,7,8,9,10,11,12,13]] [[1],[0,4],[3],[2,4],[1,3,5],[4,8],[7],[6,8],[5,7,9],[8,10,11],[9,13],[9,14],[13],[10,12],[11]]) (.seq (.seq (.reg [(Qm 53 8),(Qa 54 (.not (.t 53))),(Qm 55 54),(Qg 56 55 false (.mv (.t 10))),(Qg 57 55 false (.not (.t 56))),(Qq 58 55 57),(Qm 59 58),(Qh 60 59 false 1 7),(Qn 61 59 false 60),(Qh 62 59 false 1 9),(Qn 63 59 false 62),(Qg 64 59 false (.bin .neq (.t 61) (.t 63))),(Qq 65 59 64)]) (.ite (.t 65) (.seq (.reg [(Qi 6 0)]) (.ret)) (.skip))) (.seq (.reg [(Qa 11 (.mv (.c .any)))]) (.seq (.seq (.reg [(Qm 66 2)]) (.blk 0 (.seq (.reg [(Qa 68 (.bin .eql (.t 66) (.c (.iv 1)))),(Qm 67 68)]) (.ite (.t 67) (.reg [(Qa 11 (.mv (.c (.clo 50 []))))]) (.seq (.reg [(Qa 70 (.bin .eql (.t 66) (.c (.iv 2)))),(Qm 69 70)]) (.ite (.t 69) (.reg [(Qa 11 (.mv (.c (.clo 51 []))))]) (.seq (.reg [(Qi 6 0)]) (.ret)))))))) (.seq (.reg [(Qi 12 0)]) (.seq (.seq (.reg [(Qe 71 8 7),(Qe 72 8 9),(Qa 73 (.bsl 65 8 2 [.iv 0,.iv 0,.iv 0,.ff,.ff,.ff,.ff,.ff] [(0,(.t 71)),(1,(.t 72))])),(Qa 74 (.len (.t 73))),(Qi 75 0)]) (.blk 1 (.loop e14_L0))) (.seq (.seq (.reg [(Qf 85 1 3),(Ql 86 85),(Qa 87 (.len (.t 86))),(Qi 88 0)]) (.blk 3 (.loop e14_L1))) (.seq (.reg [(Qm 134 12),(Qm 6 134)]) (.ret)))))))))))
theorem ok14:FnOK Tryz.prog 14 Tryz.f14 e14 [.t 6] 3 132:=⟨by kernel_rfl,⟨_,rfl,by kernel_rfl⟩,by kernel_rfl,by kernel_rfl⟩
noncomputable def Z0e:Int→Option Int
| x58=>
 some x58
noncomputable def Z1e (x45:Int):Int→Option ((Int×Int) ⊕ Int)
| x48=>
 some (.inl (x48,wr (x45+1)))
noncomputable def Z2e (x44:Int) (x45:Int):Bool→Option ((Int×Int) ⊕ Int)
| x47=>
 ifb x47 (
 (Z1e x45) (wr (x44+1))) (
 (Z1e x45) x44)
noncomputable def Z3e (x1:Scene) (x2:Edge) (x3:Int) (x11:Side):(Int×Int)→Option ((Int×Int) ⊕ Int)
| (x44,x45)=>
 ifb (decide (x45<(ln Mail.row x1.Mail))) (
 (at_ x1.Mail x45).bind fun x46=>
 ifb (decide (x46.Msg.Kind=x3)) (
 ifb (decide (x46.Msg.Epoch=x11.Epoch)) (
 ifb (decide (((min x46.From x46.To))=((min x2.A x2.B)))) (
 (Z2e x44 x45) (decide (((max x46.From x46.To))=((max x2.A x2.B))))) (
 (Z2e x44 x45) false)) (
 (Z2e x44 x45) false)) (
 (Z2e x44 x45) false)) (
 Option.map Sum.inr (Z0e x44))
noncomputable def Z4e (x1:Scene) (x2:Edge) (x3:Int) (x11:Side):Int→Option Int
| x38=>
 loop (Z3e x1 x2 x3 x11) (x38,0)
noncomputable def Z5e (x24:Int):Int→Option ((Int×Int) ⊕ Int)
| x27=>
 some (.inl (x27,wr (x24+1)))
noncomputable def Z6e (x1:Scene) (x2:Edge) (x3:Int) (x11:Side) (x16:Side):(Int×Int)→Option ((Int×Int) ⊕ Int)
| (x23,x24)=>
 ifb (decide (x24<(ln Side.row ([x11,x16])))) (
 (at_ ([x11,x16]) x24).bind fun x25=>
 (Zwd x25).bind fun x26=>
 ifb x26 (
 (Z5e x24) (wr (x23+1))) (
 (Z5e x24) x23)) (
 Option.map Sum.inr ((Z4e x1 x2 x3 x11) x23))
noncomputable def Z7e:Int→Option Int
| x99=>
 some x99
noncomputable def Z8e (x86:Int):Int→Option ((Int×Int) ⊕ Int)
| x89=>
 some (.inl (x89,wr (x86+1)))
noncomputable def Z9e (x85:Int) (x86:Int):Bool→Option ((Int×Int) ⊕ Int)
| x88=>
 ifb x88 (
 (Z8e x86) (wr (x85+1))) (
 (Z8e x86) x85)
noncomputable def Zae (x1:Scene) (x2:Edge) (x3:Int) (x11:Side):(Int×Int)→Option ((Int×Int) ⊕ Int)
| (x85,x86)=>
 ifb (decide (x86<(ln Mail.row x1.Mail))) (
 (at_ x1.Mail x86).bind fun x87=>
 ifb (decide (x87.Msg.Kind=x3)) (
 ifb (decide (x87.Msg.Epoch=x11.Epoch)) (
 ifb (decide (((min x87.From x87.To))=((min x2.A x2.B)))) (
 (Z9e x85 x86) (decide (((max x87.From x87.To))=((max x2.A x2.B))))) (
 (Z9e x85 x86) false)) (
 (Z9e x85 x86) false)) (
 (Z9e x85 x86) false)) (
 Option.map Sum.inr (Z7e x85))
noncomputable def Zbe (x1:Scene) (x2:Edge) (x3:Int) (x11:Side):Int→Option Int
| x79=>
 loop (Zae x1 x2 x3 x11) (x79,0)
noncomputable def Zce (x65:Int):Int→Option ((Int×Int) ⊕ Int)
| x68=>
 some (.inl (x68,wr (x65+1)))
noncomputable def Zde (x1:Scene) (x2:Edge) (x3:Int) (x11:Side) (x16:Side):(Int×Int)→Option ((Int×Int) ⊕ Int)
| (x64,x65)=>
 ifb (decide (x65<(ln Side.row ([x11,x16])))) (
 (at_ ([x11,x16]) x65).bind fun x66=>
 (Zyd x66).bind fun x67=>
 ifb x67 (
 (Zce x65) (wr (x64+1))) (
 (Zce x65) x64)) (
 Option.map Sum.inr ((Zbe x1 x2 x3 x11) x64))
noncomputable def Zee (x1:Scene) (x2:Edge) (x3:Int) (x11:Side) (x16:Side):Bool→Option Int
| x17=>
 ifb x17 (
 some 0) (
 ifb (decide (x3=1)) (
 loop (Z6e x1 x2 x3 x11 x16) (0,0)) (
 ifb (decide (x3=2)) (
 loop (Zde x1 x2 x3 x11 x16) (0,0)) (
 some 0)))
noncomputable def Zfe (x1:Scene) (x2:Edge) (x3:Int) (x10:Bool) (x11:Side):(Bool×Side)→Option Int
| (x15,x16)=>
 ifb (!x10) (
 (Zee x1 x2 x3 x11 x16) true) (
 ifb (!x15) (
 (Zee x1 x2 x3 x11 x16) true) (
 (Zee x1 x2 x3 x11 x16) (!decide (x11.Epoch=x16.Epoch))))
noncomputable def Zge (x1:Scene) (x2:Edge) (x3:Int):(Bool×Side)→Option Int
| (x10,x11)=>
 (at_ x1.Diners x2.B).bind fun x12=>
 (Zh7 x12 x2.A).bind fun x13=>
 (Zfe x1 x2 x3 x10 x11) (x13.2,x13.1)
noncomputable def Zhe (x1:Scene) (x2:Edge) (x3:Int):Bool→Option Int
| x6=>
 ifb x6 (
 some 0) (
 (at_ x1.Diners x2.A).bind fun x7=>
 (Zh7 x7 x2.B).bind fun x8=>
 (Zge x1 x2 x3) (x8.2,x8.1))
noncomputable def Zie (x1:Scene) (x2:Edge) (x3:Int):Option Int:=
 (Zeb x1 x2.A).bind fun x4=>
 ifb (!x4) (
 (Zhe x1 x2 x3) true) (
 (Zeb x1 x2.B).bind fun x5=>
 (Zhe x1 x2 x3) (!x5))
theorem k_table_Count (x1:Scene) (x2:Edge) (x3:Int) (r:Int) (h:Zie x1 x2 x3=some r):Zu2 Tryz.prog 14 [.agg (Scene.row x1),.agg (Edge.row x2),.iv x3] (.iv r):=by
 refine Zy2 ok14 rfl rfl fun w0 H0=>?_
 rw [Zie] at h
 refine Zo2 12 ?_;dsimp only [go_sem];refine An ?_;obtain ⟨x4,ex4,h⟩:=Bs h;refine Z33 trivial (Zfb x1 x2.A _ ex4) (h:=?_);refine Zo2 2 ?_;dsimp only [go_sem];refine An ?_;refine Zh4 (fun (x6:Bool)=>(⟨(.any :: .any :: .iv x3 :: .ptr 0 0 :: .ptr 1 0::an 23 (.bv x6::an 106 [])),[some ⟨25,[.sl 3 (List.map Diner.row x1.Diners),.sl 5 (List.map Mail.row x1.Mail)]⟩,some ⟨29,[.iv x2.A,.iv x2.B]⟩],[]⟩:St)) (Zhe x1 x2 x3) r ?_ fun J1=>?_
 ·intro x6 h;rw [Zhe] at h;(try dsimp only);refine Zj4 h rfl (fun _ h=>?_) fun _ h=>?_
  ·refine Zo2 4 ?_;dsimp only [go_sem];refine An ?_;exact Zr4 (res:=fun (r:Int)=>.iv r) ok14 h
  ·refine Zo2 2 ?_;dsimp only [go_sem];refine An ?_;refine Zh4 (fun ((x10,x11):(Bool×Side))=>(⟨(.any :: .any :: .iv x3 :: .ptr 0 0 :: .ptr 1 0 :: .any :: .any :: .ptr 2 0 :: .bv x10::an 126 []),[some ⟨25,[.sl 3 (List.map Diner.row x1.Diners),.sl 5 (List.map Mail.row x1.Mail)]⟩,some ⟨29,[.iv x2.A,.iv x2.B]⟩,some ⟨65,[.iv x11.Peer,.iv x11.Epoch,.iv x11.State,.bv x11.Fork,.bv x11.Dirty,.bv x11.Token,.bv x11.Bottle,.bv x11.Ask]⟩],[]⟩:St)) (Zge x1 x2 x3) r ?_ fun J2=>?_
   ·rintro ⟨x10,x11⟩ h;rw [Zge] at h;(try dsimp only);refine Zo2 1 ?_;dsimp only [go_sem];refine An ?_
    refine Zh4 (fun ((x15,x16):(Bool×Side))=>(⟨(.any :: .any :: .iv x3 :: .ptr 0 0 :: .ptr 1 0 :: .any :: .any :: .ptr 2 0 :: .bv x10 :: .ptr 3 0 :: .bv x15::an 124 []),[some ⟨25,[.sl 3 (List.map Diner.row x1.Diners),.sl 5 (List.map Mail.row x1.Mail)]⟩,some ⟨29,[.iv x2.A,.iv x2.B]⟩,some ⟨65,[.iv x11.Peer,.iv x11.Epoch,.iv x11.State,.bv x11.Fork,.bv x11.Dirty,.bv x11.Token,.bv x11.Bottle,.bv x11.Ask]⟩,some ⟨65,[.iv x16.Peer,.iv x16.Epoch,.iv x16.State,.bv x16.Fork,.bv x16.Dirty,.bv x16.Token,.bv x16.Bottle,.bv x16.Ask]⟩],[]⟩:St)) (Zfe x1 x2 x3 x10 x11) r ?_ fun J3=>?_
    ·rintro ⟨x15,x16⟩ h;rw [Zfe] at h;(try dsimp only);refine Zo2 6 ?_;dsimp only [go_sem];refine An ?_
     refine Zh4 (fun (x17:Bool)=>(⟨(.any :: .any :: .iv x3 :: .ptr 0 0 :: .ptr 1 0 :: .any :: .any :: .ptr 2 0 :: .any :: .ptr 3 0::an 55 (.bv x17::an 69 [])),[some ⟨25,[.sl 3 (List.map Diner.row x1.Diners),.sl 5 (List.map Mail.row x1.Mail)]⟩,some ⟨29,[.iv x2.A,.iv x2.B]⟩,some ⟨65,[.iv x11.Peer,.iv x11.Epoch,.iv x11.State,.bv x11.Fork,.bv x11.Dirty,.bv x11.Token,.bv x11.Bottle,.bv x11.Ask]⟩,some ⟨65,[.iv x16.Peer,.iv x16.Epoch,.iv x16.State,.bv x16.Fork,.bv x16.Dirty,.bv x16.Token,.bv x16.Bottle,.bv x16.Ask]⟩],[]⟩:St)) (Zee x1 x2 x3 x11 x16) r ?_ fun J4=>?_
     ·intro x17 h;rw [Zee] at h;(try dsimp only);refine Zj4 h rfl (fun _ h=>?_) fun _ h=>?_
      ·refine Zo2 4 ?_;dsimp only [go_sem];refine An ?_;exact Zr4 (res:=fun (r:Int)=>.iv r) ok14 h
      ·refine Zo2 16 ?_;dsimp only [go_sem];refine An ?_;refine Zj4 h rfl (fun _ h=>?_) fun _ h=>?_
       ·refine Zo2 17 ?_;dsimp only [go_sem];refine An ?_;refine Zh4 (fun (x38:Int)=>(⟨(.any :: .any :: .iv x3 :: .ptr 0 0 :: .ptr 1 0 :: .any :: .any :: .ptr 2 0::an 4 (.iv x38::an 122 [])),[some ⟨25,[.sl 3 (List.map Diner.row x1.Diners),.sl 5 (List.map Mail.row x1.Mail)]⟩,some ⟨29,[.iv x2.A,.iv x2.B]⟩,some ⟨65,[.iv x11.Peer,.iv x11.Epoch,.iv x11.State,.bv x11.Fork,.bv x11.Dirty,.bv x11.Token,.bv x11.Bottle,.bv x11.Ask]⟩],[]⟩:St)) (Z4e x1 x2 x3 x11) r ?_ fun J5=>?_
        ·intro x38 h;rw [Z4e] at h;(try dsimp only);refine Zo2 8 ?_;dsimp only [go_sem];refine An ?_;refine Zh4 (fun (x58:Int)=>(⟨(an 12 (.iv x58::an 122 [])),[],[]⟩:St)) Z0e r ?_ fun J7=>?_
         ·intro x58 h;rw [Z0e] at h;(try dsimp only);refine Zo2 5 ?_;dsimp only [go_sem];refine An ?_;exact Zr4 (res:=fun (r:Int)=>.iv r) ok14 h
         ·refine Zo2 1 ?_;dsimp only [go_sem];refine An ?_;refine Zi4 h (fun ((x44,x45):(Int×Int))=>(⟨(.any :: .any :: .iv x3 :: .any :: .ptr 1 0 :: .any :: .any :: .ptr 2 0::an 4 (.iv x44::an 73 (.sl 5 (List.map Mail.row x1.Mail) :: .iv (ln Mail.row x1.Mail) :: .iv x45::an 46 []))),[none,some ⟨29,[.iv x2.A,.iv x2.B]⟩,some ⟨65,[.iv x11.Peer,.iv x11.Epoch,.iv x11.State,.bv x11.Fork,.bv x11.Dirty,.bv x11.Token,.bv x11.Bottle,.bv x11.Ask]⟩],[]⟩:St)) (by simp [go_sem]) (by rintro ⟨x44,x45⟩;first | rfl | simp [go_sem]) ?_
          rintro n1 ⟨x44,x45⟩ y1 h hin1 hout1;rw [Z3e] at h;(try dsimp only);refine Zo2 5 ?_;dsimp only [go_sem];refine An ?_;refine Zj4 h rfl (fun _ h=>?_) fun _ h=>?_
          ·refine Zo2 5 ?_;dsimp only [go_sem];refine An ?_;obtain ⟨x46,ex46,h⟩:=Bs h;refine Zm4 Mail.row ex46 trivial rfl rfl rfl ?_;refine Zo2 12 ?_;dsimp only [go_sem];refine An ?_
           refine Zh4 (fun (x47:Bool)=>(⟨(.any :: .any :: .iv x3 :: .any :: .ptr 1 0 :: .any :: .any :: .ptr 2 0::an 4 (.iv x44::an 73 (.sl 5 (List.map Mail.row x1.Mail) :: .iv (ln Mail.row x1.Mail) :: .iv x45::an 41 (.bv x47::an 4 [])))),[none,some ⟨29,[.iv x2.A,.iv x2.B]⟩,some ⟨65,[.iv x11.Peer,.iv x11.Epoch,.iv x11.State,.bv x11.Fork,.bv x11.Dirty,.bv x11.Token,.bv x11.Bottle,.bv x11.Ask]⟩],[]⟩:St)) (Z2e x44 x45) y1 ?_ fun J8=>?_
           ·intro x47 h;rw [Z2e] at h;(try dsimp only);refine Zh4 (fun (x48:Int)=>(⟨(.any :: .any :: .iv x3 :: .any :: .ptr 1 0 :: .any :: .any :: .ptr 2 0::an 4 (.iv x48::an 73 (.sl 5 (List.map Mail.row x1.Mail) :: .iv (ln Mail.row x1.Mail) :: .iv x45::an 46 []))),[none,some ⟨29,[.iv x2.A,.iv x2.B]⟩,some ⟨65,[.iv x11.Peer,.iv x11.Epoch,.iv x11.State,.bv x11.Fork,.bv x11.Dirty,.bv x11.Token,.bv x11.Bottle,.bv x11.Ask]⟩],[]⟩:St)) (Z1e x45) y1 ?_ fun J9=>?_
            ·intro x48 h;rw [Z1e] at h;(try dsimp only);refine Zo2 5 ?_;dsimp only [go_sem];refine An ?_;exact Zs4 h hin1
            ·refine Zj4 h rfl (fun _ h=>?_) fun _ h=>?_
             ·refine Zo2 5 ?_;dsimp only [go_sem];refine An ?_;exact Zt4 J9 (s:=wr (x44+1)) h
             ·refine Zo2 1 ?_;dsimp only [go_sem];refine An ?_;exact Zt4 J9 (s:=x44) h
           ·refine Zq4 97 h rfl (fun _ h=>?_) fun _ h=>?_
            ·dsimp only [go_sem];refine Zo2 8 ?_;dsimp only [go_sem];refine An ?_;refine Zq4 105 h rfl (fun _ h=>?_) fun _ h=>?_
             ·dsimp only [go_sem];refine Zo2 13 ?_;dsimp only [go_sem];refine An ?_;refine Zq4 118 h rfl (fun _ h=>?_) fun _ h=>?_
              ·dsimp only [go_sem];refine Zo2 13 ?_;dsimp only [go_sem];refine An ?_;exact Zt4 J8 (s:=decide (((max x46.From x46.To))=((max x2.A x2.B)))) h
              ·dsimp only [go_sem];refine Zo2 13 ?_;dsimp only [go_sem];refine An ?_;exact Zt4 J8 (s:=false) h
             ·dsimp only [go_sem];refine Zo2 26 ?_;dsimp only [go_sem];refine An ?_;exact Zt4 J8 (s:=false) h
            ·dsimp only [go_sem];refine Zo2 34 ?_;dsimp only [go_sem];refine An ?_;exact Zt4 J8 (s:=false) h
          ·refine Zo2 1 ?_;dsimp only [go_sem];refine An ?_;exact Zt4 J7 (s:=x44) (Zg4 h hout1)
        ·refine Zo2 1 ?_;dsimp only [go_sem];refine An ?_
         refine Zi4 h (fun ((x23,x24):(Int×Int))=>(⟨(.any :: .any :: .iv x3 :: .ptr 0 0 :: .ptr 1 0 :: .any :: .any :: .ptr 2 0::an 3 (.clo 50 [] :: .iv x23::an 60 (.osl 0 :: .iv (ln Side.row ([x11,x16])) :: .iv x24::an 59 []))),[some ⟨25,[.sl 3 (List.map Diner.row x1.Diners),.sl 5 (List.map Mail.row x1.Mail)]⟩,some ⟨29,[.iv x2.A,.iv x2.B]⟩,some ⟨65,[.iv x11.Peer,.iv x11.Epoch,.iv x11.State,.bv x11.Fork,.bv x11.Dirty,.bv x11.Token,.bv x11.Bottle,.bv x11.Ask]⟩],[some ⟨65,8,List.map Side.row ([x11,x16])⟩]⟩:St)) (by simp [go_sem]) (by rintro ⟨x23,x24⟩;first | rfl | simp [go_sem]) ?_
         rintro n1 ⟨x23,x24⟩ y1 h hin1 hout1;rw [Z6e] at h;(try dsimp only);refine Zo2 5 ?_;dsimp only [go_sem];refine An ?_;refine Zj4 h rfl (fun _ h=>?_) fun _ h=>?_
         ·refine Zo2 5 ?_;dsimp only [go_sem];refine An ?_;obtain ⟨x25,ex25,h⟩:=Bs h;refine Za5 Side.row ex25 trivial rfl rfl rfl ?_;refine V_loadAO Side.row ex25 trivial rfl rfl rfl ?_;refine Zo2 7 ?_;dsimp only [go_sem];refine An ?_;obtain ⟨x26,ex26,h⟩:=Bs h;refine V_callv trivial rfl (Zxd x25 _ ex26) (by kernel_rfl) (h:=?_);refine Zo2 1 ?_;dsimp only [go_sem];refine An ?_
          refine Zh4 (fun (x27:Int)=>(⟨(.any :: .any :: .iv x3 :: .ptr 0 0 :: .ptr 1 0 :: .any :: .any :: .ptr 2 0::an 3 (.clo 50 [] :: .iv x27::an 60 (.osl 0 :: .iv (ln Side.row ([x11,x16])) :: .iv x24::an 59 []))),[some ⟨25,[.sl 3 (List.map Diner.row x1.Diners),.sl 5 (List.map Mail.row x1.Mail)]⟩,some ⟨29,[.iv x2.A,.iv x2.B]⟩,some ⟨65,[.iv x11.Peer,.iv x11.Epoch,.iv x11.State,.bv x11.Fork,.bv x11.Dirty,.bv x11.Token,.bv x11.Bottle,.bv x11.Ask]⟩],[some ⟨65,8,List.map Side.row ([x11,x16])⟩]⟩:St)) (Z5e x24) y1 ?_ fun J6=>?_
          ·intro x27 h;rw [Z5e] at h;(try dsimp only);refine Zo2 5 ?_;dsimp only [go_sem];refine An ?_;exact Zs4 h hin1
          ·refine Zj4 h rfl (fun _ h=>?_) fun _ h=>?_
           ·refine Zo2 5 ?_;dsimp only [go_sem];refine An ?_;exact Zt4 J6 (s:=wr (x23+1)) h
           ·refine Zo2 1 ?_;dsimp only [go_sem];refine An ?_;exact Zt4 J6 (s:=x23) h
         ·refine Zo2 1 ?_;dsimp only [go_sem];refine An ?_;exact Zt4 J5 (s:=x23) (Zg4 h hout1)
       ·refine Zo2 5 ?_;dsimp only [go_sem];refine An ?_;refine Zj4 h rfl (fun _ h=>?_) fun _ h=>?_
        ·refine Zo2 17 ?_;dsimp only [go_sem];refine An ?_;refine Zh4 (fun (x79:Int)=>(⟨(.any :: .any :: .iv x3 :: .ptr 0 0 :: .ptr 1 0 :: .any :: .any :: .ptr 2 0::an 4 (.iv x79::an 122 [])),[some ⟨25,[.sl 3 (List.map Diner.row x1.Diners),.sl 5 (List.map Mail.row x1.Mail)]⟩,some ⟨29,[.iv x2.A,.iv x2.B]⟩,some ⟨65,[.iv x11.Peer,.iv x11.Epoch,.iv x11.State,.bv x11.Fork,.bv x11.Dirty,.bv x11.Token,.bv x11.Bottle,.bv x11.Ask]⟩],[]⟩:St)) (Zbe x1 x2 x3 x11) r ?_ fun J10=>?_
         ·intro x79 h;rw [Zbe] at h;(try dsimp only);refine Zo2 8 ?_;dsimp only [go_sem];refine An ?_;refine Zh4 (fun (x99:Int)=>(⟨(an 12 (.iv x99::an 122 [])),[],[]⟩:St)) Z7e r ?_ fun J12=>?_
          ·intro x99 h;rw [Z7e] at h;(try dsimp only);refine Zo2 5 ?_;dsimp only [go_sem];refine An ?_;exact Zr4 (res:=fun (r:Int)=>.iv r) ok14 h
          ·refine Zo2 1 ?_;dsimp only [go_sem];refine An ?_;refine Zi4 h (fun ((x85,x86):(Int×Int))=>(⟨(.any :: .any :: .iv x3 :: .any :: .ptr 1 0 :: .any :: .any :: .ptr 2 0::an 4 (.iv x85::an 73 (.sl 5 (List.map Mail.row x1.Mail) :: .iv (ln Mail.row x1.Mail) :: .iv x86::an 46 []))),[none,some ⟨29,[.iv x2.A,.iv x2.B]⟩,some ⟨65,[.iv x11.Peer,.iv x11.Epoch,.iv x11.State,.bv x11.Fork,.bv x11.Dirty,.bv x11.Token,.bv x11.Bottle,.bv x11.Ask]⟩],[]⟩:St)) (by simp [go_sem]) (by rintro ⟨x85,x86⟩;first | rfl | simp [go_sem]) ?_
           rintro n1 ⟨x85,x86⟩ y1 h hin1 hout1;rw [Zae] at h;(try dsimp only);refine Zo2 5 ?_;dsimp only [go_sem];refine An ?_;refine Zj4 h rfl (fun _ h=>?_) fun _ h=>?_
           ·refine Zo2 5 ?_;dsimp only [go_sem];refine An ?_;obtain ⟨x87,ex87,h⟩:=Bs h;refine Zm4 Mail.row ex87 trivial rfl rfl rfl ?_;refine Zo2 12 ?_;dsimp only [go_sem];refine An ?_
            refine Zh4 (fun (x88:Bool)=>(⟨(.any :: .any :: .iv x3 :: .any :: .ptr 1 0 :: .any :: .any :: .ptr 2 0::an 4 (.iv x85::an 73 (.sl 5 (List.map Mail.row x1.Mail) :: .iv (ln Mail.row x1.Mail) :: .iv x86::an 41 (.bv x88::an 4 [])))),[none,some ⟨29,[.iv x2.A,.iv x2.B]⟩,some ⟨65,[.iv x11.Peer,.iv x11.Epoch,.iv x11.State,.bv x11.Fork,.bv x11.Dirty,.bv x11.Token,.bv x11.Bottle,.bv x11.Ask]⟩],[]⟩:St)) (Z9e x85 x86) y1 ?_ fun J13=>?_
            ·intro x88 h;rw [Z9e] at h;(try dsimp only);refine Zh4 (fun (x89:Int)=>(⟨(.any :: .any :: .iv x3 :: .any :: .ptr 1 0 :: .any :: .any :: .ptr 2 0::an 4 (.iv x89::an 73 (.sl 5 (List.map Mail.row x1.Mail) :: .iv (ln Mail.row x1.Mail) :: .iv x86::an 46 []))),[none,some ⟨29,[.iv x2.A,.iv x2.B]⟩,some ⟨65,[.iv x11.Peer,.iv x11.Epoch,.iv x11.State,.bv x11.Fork,.bv x11.Dirty,.bv x11.Token,.bv x11.Bottle,.bv x11.Ask]⟩],[]⟩:St)) (Z8e x86) y1 ?_ fun J14=>?_
             ·intro x89 h;rw [Z8e] at h;(try dsimp only);refine Zo2 5 ?_;dsimp only [go_sem];refine An ?_;exact Zs4 h hin1
             ·refine Zj4 h rfl (fun _ h=>?_) fun _ h=>?_
              ·refine Zo2 5 ?_;dsimp only [go_sem];refine An ?_;exact Zt4 J14 (s:=wr (x85+1)) h
              ·refine Zo2 1 ?_;dsimp only [go_sem];refine An ?_;exact Zt4 J14 (s:=x85) h
            ·refine Zq4 97 h rfl (fun _ h=>?_) fun _ h=>?_
             ·dsimp only [go_sem];refine Zo2 8 ?_;dsimp only [go_sem];refine An ?_;refine Zq4 105 h rfl (fun _ h=>?_) fun _ h=>?_
              ·dsimp only [go_sem];refine Zo2 13 ?_;dsimp only [go_sem];refine An ?_;refine Zq4 118 h rfl (fun _ h=>?_) fun _ h=>?_
               ·dsimp only [go_sem];refine Zo2 13 ?_;dsimp only [go_sem];refine An ?_;exact Zt4 J13 (s:=decide (((max x87.From x87.To))=((max x2.A x2.B)))) h
               ·dsimp only [go_sem];refine Zo2 13 ?_;dsimp only [go_sem];refine An ?_;exact Zt4 J13 (s:=false) h
              ·dsimp only [go_sem];refine Zo2 26 ?_;dsimp only [go_sem];refine An ?_;exact Zt4 J13 (s:=false) h
             ·dsimp only [go_sem];refine Zo2 34 ?_;dsimp only [go_sem];refine An ?_;exact Zt4 J13 (s:=false) h
           ·refine Zo2 1 ?_;dsimp only [go_sem];refine An ?_;exact Zt4 J12 (s:=x85) (Zg4 h hout1)
         ·refine Zo2 1 ?_;dsimp only [go_sem];refine An ?_
          refine Zi4 h (fun ((x64,x65):(Int×Int))=>(⟨(.any :: .any :: .iv x3 :: .ptr 0 0 :: .ptr 1 0 :: .any :: .any :: .ptr 2 0::an 3 (.clo 51 [] :: .iv x64::an 60 (.osl 0 :: .iv (ln Side.row ([x11,x16])) :: .iv x65::an 59 []))),[some ⟨25,[.sl 3 (List.map Diner.row x1.Diners),.sl 5 (List.map Mail.row x1.Mail)]⟩,some ⟨29,[.iv x2.A,.iv x2.B]⟩,some ⟨65,[.iv x11.Peer,.iv x11.Epoch,.iv x11.State,.bv x11.Fork,.bv x11.Dirty,.bv x11.Token,.bv x11.Bottle,.bv x11.Ask]⟩],[some ⟨65,8,List.map Side.row ([x11,x16])⟩]⟩:St)) (by simp [go_sem]) (by rintro ⟨x64,x65⟩;first | rfl | simp [go_sem]) ?_
          rintro n1 ⟨x64,x65⟩ y1 h hin1 hout1;rw [Zde] at h;(try dsimp only);refine Zo2 5 ?_;dsimp only [go_sem];refine An ?_;refine Zj4 h rfl (fun _ h=>?_) fun _ h=>?_
          ·refine Zo2 5 ?_;dsimp only [go_sem];refine An ?_;obtain ⟨x66,ex66,h⟩:=Bs h;refine Za5 Side.row ex66 trivial rfl rfl rfl ?_;refine V_loadAO Side.row ex66 trivial rfl rfl rfl ?_;refine Zo2 7 ?_;dsimp only [go_sem];refine An ?_;obtain ⟨x67,ex67,h⟩:=Bs h;refine V_callv trivial rfl (Zzd x66 _ ex67) (by kernel_rfl) (h:=?_);refine Zo2 1 ?_;dsimp only [go_sem];refine An ?_
           refine Zh4 (fun (x68:Int)=>(⟨(.any :: .any :: .iv x3 :: .ptr 0 0 :: .ptr 1 0 :: .any :: .any :: .ptr 2 0::an 3 (.clo 51 [] :: .iv x68::an 60 (.osl 0 :: .iv (ln Side.row ([x11,x16])) :: .iv x65::an 59 []))),[some ⟨25,[.sl 3 (List.map Diner.row x1.Diners),.sl 5 (List.map Mail.row x1.Mail)]⟩,some ⟨29,[.iv x2.A,.iv x2.B]⟩,some ⟨65,[.iv x11.Peer,.iv x11.Epoch,.iv x11.State,.bv x11.Fork,.bv x11.Dirty,.bv x11.Token,.bv x11.Bottle,.bv x11.Ask]⟩],[some ⟨65,8,List.map Side.row ([x11,x16])⟩]⟩:St)) (Zce x65) y1 ?_ fun J11=>?_
           ·intro x68 h;rw [Zce] at h;(try dsimp only);refine Zo2 5 ?_;dsimp only [go_sem];refine An ?_;exact Zs4 h hin1
           ·refine Zj4 h rfl (fun _ h=>?_) fun _ h=>?_
            ·refine Zo2 5 ?_;dsimp only [go_sem];refine An ?_;exact Zt4 J11 (s:=wr (x64+1)) h
            ·refine Zo2 1 ?_;dsimp only [go_sem];refine An ?_;exact Zt4 J11 (s:=x64) h
          ·refine Zo2 1 ?_;dsimp only [go_sem];refine An ?_;exact Zt4 J10 (s:=x64) (Zg4 h hout1)
        ·refine Zo2 4 ?_;dsimp only [go_sem];refine An ?_;exact Zr4 (res:=fun (r:Int)=>.iv r) ok14 h
     ·refine Zq4 55 h rfl (fun _ h=>?_) fun _ h=>?_
      ·dsimp only [go_sem];refine Zo2 11 ?_;dsimp only [go_sem];refine An ?_;exact Zt4 J4 (s:=true) h
      ·dsimp only [go_sem];refine Zo2 4 ?_;dsimp only [go_sem];refine An ?_;refine Zq4 59 h rfl (fun _ h=>?_) fun _ h=>?_
       ·dsimp only [go_sem];refine Zo2 7 ?_;dsimp only [go_sem];refine An ?_;exact Zt4 J4 (s:=true) h
       ·dsimp only [go_sem];refine Zo2 7 ?_;dsimp only [go_sem];refine An ?_;exact Zt4 J4 (s:=!decide (x11.Epoch=x16.Epoch)) h
    ·refine Zj3 (by kernel_rfl) fun all hall hs hnap haf=>?_;dsimp only [go_sem];refine Z85 hall hs haf hnap 6 9 [4,2,2,7] [(42,[.ptr 0 0,.sl 3 (List.map Diner.row x1.Diners),.ptr 1 1,.iv x2.B]),(2,[.ptr 1 0,.iv x2.A])] (by kernel_rfl) ?_;dsimp only [go_sem];obtain ⟨x12,ex12,h⟩:=Bs h;refine Zn4 hall hs haf hnap 4 Diner.row ex12 rfl rfl trivial rfl rfl rfl rfl ?_;refine Z75 hall hs haf hnap 1 7 ?_;dsimp only [go_sem];refine An ?_;obtain ⟨x13,ex13,h⟩:=Bs h;refine Zv3 8 12 rfl ?_ ?_
     ·refine Z04 hall rfl trivial (Zi7 x12 x2.A _ ex13) (h:=?_);dsimp only [go_sem];refine Z75 hall hs haf hnap 3 3 ?_;dsimp only [go_sem];refine An ?_;refine Zu3 12 rfl ?_;refine Zz3 hall rfl trivial ?_;dsimp only [go_sem];refine Zu3 13 rfl ?_;refine Zz3 hall rfl trivial ?_;dsimp only [go_sem];refine Z75 hall hs haf hnap 1 0 ?_;dsimp only [go_sem];refine An ?_;refine Zt3 rfl ?_ _;exact Zt4 J3 (s:=(x13.2,x13.1)) h
     ·refine Zz3 hall rfl trivial ?_;dsimp only [go_sem];refine Zu3 8 rfl ?_;refine Z04 hall rfl trivial (Zi7 x12 x2.A _ ex13) (h:=?_);dsimp only [go_sem];refine Z75 hall hs haf hnap 3 2 ?_;dsimp only [go_sem];refine An ?_;refine Zu3 13 rfl ?_;refine Zz3 hall rfl trivial ?_;dsimp only [go_sem];refine Z75 hall hs haf hnap 1 0 ?_;dsimp only [go_sem];refine An ?_;refine Zt3 rfl ?_ _;exact Zt4 J3 (s:=(x13.2,x13.1)) h
   ·refine Zj3 (by kernel_rfl) fun all hall hs hnap haf=>?_;dsimp only [go_sem];refine Z85 hall hs haf hnap 6 9 [4,2,2,7] [(30,[.ptr 0 0,.sl 3 (List.map Diner.row x1.Diners),.ptr 1 0,.iv x2.A]),(2,[.ptr 1 1,.iv x2.B])] (by kernel_rfl) ?_;dsimp only [go_sem];obtain ⟨x7,ex7,h⟩:=Bs h;refine Zn4 hall hs haf hnap 4 Diner.row ex7 rfl rfl trivial rfl rfl rfl rfl ?_;refine Z75 hall hs haf hnap 1 7 ?_;dsimp only [go_sem];refine An ?_;obtain ⟨x8,ex8,h⟩:=Bs h;refine Zv3 8 12 rfl ?_ ?_
    ·refine Z04 hall rfl trivial (Zi7 x7 x2.B _ ex8) (h:=?_);dsimp only [go_sem];refine Z75 hall hs haf hnap 3 3 ?_;dsimp only [go_sem];refine An ?_;refine Zu3 12 rfl ?_;refine Zz3 hall rfl trivial ?_;dsimp only [go_sem];refine Zu3 13 rfl ?_;refine Zz3 hall rfl trivial ?_;dsimp only [go_sem];refine Z75 hall hs haf hnap 1 0 ?_;dsimp only [go_sem];refine An ?_;refine Zt3 rfl ?_ _;exact Zt4 J2 (s:=(x8.2,x8.1)) h
    ·refine Zz3 hall rfl trivial ?_;dsimp only [go_sem];refine Zu3 8 rfl ?_;refine Z04 hall rfl trivial (Zi7 x7 x2.B _ ex8) (h:=?_);dsimp only [go_sem];refine Z75 hall hs haf hnap 3 2 ?_;dsimp only [go_sem];refine An ?_;refine Zu3 13 rfl ?_;refine Zz3 hall rfl trivial ?_;dsimp only [go_sem];refine Z75 hall hs haf hnap 1 0 ?_;dsimp only [go_sem];refine An ?_;refine Zt3 rfl ?_ _;exact Zt4 J2 (s:=(x8.2,x8.1)) h
 ·refine Zq4 22 h rfl (fun _ h=>?_) fun _ h=>?_
  ·dsimp only [go_sem];refine Zo2 7 ?_;dsimp only [go_sem];refine An ?_;exact Zt4 J1 (s:=true) h
  ·dsimp only [go_sem];refine Zo2 3 ?_;dsimp only [go_sem];refine An ?_;obtain ⟨x5,ex5,h⟩:=Bs h;refine Z33 trivial (Zfb x1 x2.B _ ex5) (h:=?_);refine Zo2 3 ?_;dsimp only [go_sem];refine An ?_;exact Zt4 J1 (s:=!x5) h
set_option maxRecDepth 100000
set_option maxHeartbeats 4000000
@[go_sem] def e24:EC:=.seq (.reg [(Qx 1 48 2 0),(Qa 2 (.mv (.c .ff)))]) (.seq (.reg [(Qf 3 0 1),(Ql 4 3),(Qa 5 (.bin .leq (.t 4) (.c (.iv 10)))),(Qm 6 5),(Qg 7 6 true (.loadA 2 (.t 1))),(Qg 8 6 true (.call 22 [(.t 7)])),(Qp 9 6 8),(Qm 2 9)]) (.ret))
theorem ok24:FnOK Tryz.prog 24 Tryz.f24 e24 [.t 2] 1 9:=⟨by kernel_rfl,⟨_,rfl,by kernel_rfl⟩,by kernel_rfl,by kernel_rfl⟩
noncomputable def Zje:Bool→Option Bool
| x3=>
 some x3
noncomputable def Zke (x1:Graph):Option Bool:=
 ifb (decide (x1.N≤10)) (
 (Z09 x1).bind fun x2=>
 Zje x2) (
 Zje false)
theorem Zle (x1:Graph) (r:Bool) (h:Zke x1=some r):Zu2 Tryz.prog 24 [.agg (Graph.row x1)] (.bv r):=by
 refine Zy2 ok24 rfl rfl fun w0 H0=>?_
 rw [Zke] at h
 refine Zo2 11 ?_;dsimp only [go_sem];refine An ?_;refine Zh4 (fun (x3:Bool)=>(⟨(.any :: .any :: .bv x3::an 7 []),[],[]⟩:St)) Zje r ?_ fun J1=>?_
 ·intro x3 h;rw [Zje] at h;(try dsimp only);exact Zr4 (res:=fun (r:Bool)=>.bv r) ok24 h
 ·refine Zq4 6 h rfl (fun _ h=>?_) fun _ h=>?_
  ·dsimp only [go_sem];refine Zo2 1 ?_;dsimp only [go_sem];refine An ?_;obtain ⟨x2,ex2,h⟩:=Bs h;refine Z33 trivial (Z19 x1 _ ex2) (h:=?_);refine Zo2 3 ?_;dsimp only [go_sem];refine An ?_;exact Zt4 J1 (s:=x2) h
  ·dsimp only [go_sem];refine Zo2 5 ?_;dsimp only [go_sem];refine An ?_;exact Zt4 J1 (s:=false) h
def mailB (e:Edge) (k ep:Int) (m:Mail):Bool:=decide (m.Msg.Kind=k)&&(decide (m.Msg.Epoch=ep)&&(decide (min m.From m.To=min e.A e.B)&&decide (max m.From m.To=max e.A e.B)))
def Zme (M:List Mail) (e:Edge) (k ep:Int):Nat:=M.countP (mailB e k ep)
theorem Zne (M:List Mail) (m:Mail) (e:Edge) (k ep:Int):Zme (M++[m]) e k ep=Zme M e k ep+bn (mailB e k ep m):=by
 unfold Zme
 rw [List.countP_append,List.countP_cons]
 cases mailB e k ep m<;>simp [bn]
theorem countM_le (M:List Mail) (e:Edge) (k ep:Int):Zme M e k ep≤M.length:=List.countP_le_length
theorem s_countL2 (s:Scene) (e:Edge) (k:Int) (x:Side) (n:Nat) (hn:n≤2) (hM:s.Mail.length≤900000):loop (Z3e s e k x) ((n:Int),0)=some ((n+Zme s.Mail e k x.Epoch:Nat):Int):=by
 have key:=Zm7 s.Mail (Z3e s e k x) (fun pre=>(((n+Zme pre e k x.Epoch:Nat):Int),(pre.length:Int))) ((n+Zme s.Mail e k x.Epoch:Nat):Int) (fun pre m post h=>?_) ?_
 ·exact key
 ·have hx:=Zn7 h
  have hm:=Zo7 h
  have hc:=countM_le pre e k x.Epoch
  dsimp only [Z3e]
  rw [Z06 hx,Zu5,Zy5 hx,Option.bind_some,Zne,Zr7]
  have step:∀z,Z2e ((n+Zme pre e k x.Epoch:Nat):Int) (pre.length:Int) z=some (.inl (((n+(Zme pre e k x.Epoch+bn z):Nat):Int),((pre.length+1:Nat):Int))):=fun z=>by
   cases z with
   | true=>dsimp only [Z2e,Z1e];rw [Zu5,Z26 (by omega),Z26 (by omega)];rfl
   | false=>dsimp only [Z2e,Z1e];rw [Zv5,Z26 (by omega)];rfl
  unfold mailB
  cases h1:decide (m.Msg.Kind=k) with
  | false=>rw [Zv5,step,Bool.false_and]
  | true=>
    cases h2:decide (m.Msg.Epoch=x.Epoch) with
    | false=>rw [Zu5,Zv5,step,Bool.true_and,Bool.false_and]
    | true=>
      cases h3:decide (min m.From m.To=min e.A e.B) with
      | false=>rw [Zu5,Zu5,Zv5,step,Bool.true_and,Bool.true_and,Bool.false_and]
      | true=>rw [Zu5,Zu5,Zu5,step,Bool.true_and,Bool.true_and,Bool.true_and]
 ·dsimp only [Z3e]
  rw [Z16,Zv5];rfl
theorem s_countL4 (s:Scene) (e:Edge) (k:Int) (x:Side) (n:Nat) (hn:n≤2) (hM:s.Mail.length≤900000):loop (Zae s e k x) ((n:Int),0)=some ((n+Zme s.Mail e k x.Epoch:Nat):Int):=by
 have key:=Zm7 s.Mail (Zae s e k x) (fun pre=>(((n+Zme pre e k x.Epoch:Nat):Int),(pre.length:Int))) ((n+Zme s.Mail e k x.Epoch:Nat):Int) (fun pre m post h=>?_) ?_
 ·exact key
 ·have hx:=Zn7 h
  have hm:=Zo7 h
  have hc:=countM_le pre e k x.Epoch
  dsimp only [Zae]
  rw [Z06 hx,Zu5,Zy5 hx,Option.bind_some,Zne,Zr7]
  have step:∀z,Z9e ((n+Zme pre e k x.Epoch:Nat):Int) (pre.length:Int) z=some (.inl (((n+(Zme pre e k x.Epoch+bn z):Nat):Int),((pre.length+1:Nat):Int))):=fun z=>by
   cases z with
   | true=>dsimp only [Z9e,Z8e];rw [Zu5,Z26 (by omega),Z26 (by omega)];rfl
   | false=>dsimp only [Z9e,Z8e];rw [Zv5,Z26 (by omega)];rfl
  unfold mailB
  cases h1:decide (m.Msg.Kind=k) with
  | false=>rw [Zv5,step,Bool.false_and]
  | true=>
    cases h2:decide (m.Msg.Epoch=x.Epoch) with
    | false=>rw [Zu5,Zv5,step,Bool.true_and,Bool.false_and]
    | true=>
      cases h3:decide (min m.From m.To=min e.A e.B) with
      | false=>rw [Zu5,Zu5,Zv5,step,Bool.true_and,Bool.true_and,Bool.false_and]
      | true=>rw [Zu5,Zu5,Zu5,step,Bool.true_and,Bool.true_and,Bool.true_and]
 ·dsimp only [Zae]
  rw [Z16,Zv5];rfl
theorem s_countS1 (s:Scene) (e:Edge) (k:Int) (x y:Side):loop (Z6e s e k x y) (0,0)=Z4e s e k x ((bn x.Fork+bn y.Fork:Nat):Int):=by
 have ef:(([x,y].countP (·.Fork):Nat):Int)=((bn x.Fork+bn y.Fork:Nat):Int):=by
  rw [List.countP_cons,List.countP_cons,List.countP_nil]
  cases x.Fork<;>cases y.Fork<;>rfl
 rw [←ef]
 refine Zl7 [x,y] (Z6e s e k x y) (fun pre=>(((pre.countP (·.Fork):Nat):Int),(pre.length:Int))) (fun _ _=>Z4e s e k x (([x,y].countP (·.Fork):Nat):Int)) (fun pre z post h=>.inl ⟨?_,rfl⟩) ?_
 ·have hx:=Zn7 h
  have hm:=Zo7 h
  have h2:pre.length<2:=hm
  have hc:pre.countP (·.Fork)≤pre.length:=List.countP_le_length
  dsimp only [Z6e,Zwd,Z5e]
  rw [Z06 hx,Zu5,Zy5 hx,Option.bind_some,Option.bind_some,Zr7,List.countP_append,List.countP_cons,List.countP_nil,Z26 (by omega),Z26 (by omega)]
  cases z.Fork<;>rfl
 ·dsimp only [Z6e]
  rw [Z16,Zv5]
theorem s_countS3 (s:Scene) (e:Edge) (k:Int) (x y:Side):loop (Zde s e k x y) (0,0)=Zbe s e k x ((bn x.Token+bn y.Token:Nat):Int):=by
 have ef:(([x,y].countP (·.Token):Nat):Int)=((bn x.Token+bn y.Token:Nat):Int):=by
  rw [List.countP_cons,List.countP_cons,List.countP_nil]
  cases x.Token<;>cases y.Token<;>rfl
 rw [←ef]
 refine Zl7 [x,y] (Zde s e k x y) (fun pre=>(((pre.countP (·.Token):Nat):Int),(pre.length:Int))) (fun _ _=>Zbe s e k x (([x,y].countP (·.Token):Nat):Int)) (fun pre z post h=>.inl ⟨?_,rfl⟩) ?_
 ·have hx:=Zn7 h
  have hm:=Zo7 h
  have h2:pre.length<2:=hm
  have hc:pre.countP (·.Token)≤pre.length:=List.countP_le_length
  dsimp only [Zde,Zyd,Zce]
  rw [Z06 hx,Zu5,Zy5 hx,Option.bind_some,Option.bind_some,Zr7,List.countP_append,List.countP_cons,List.countP_nil,Z26 (by omega),Z26 (by omega)]
  cases z.Token<;>rfl
 ·dsimp only [Zde]
  rw [Z16,Zv5]
def countS (s:Scene) (e:Edge) (k:Int):Nat:=
 if Zhc s e.A&&Zhc s e.B then
  match s.Diners[e.A.toNat]?,s.Diners[e.B.toNat]? with
  | some da,some db=>match Zw7 da e.B,Zw7 db e.A with
    | some x,some y=>if decide (x.Epoch=y.Epoch)&&(decide (k=1)||decide (k=2)) then bn (has x k)+bn (has y k)+Zme s.Mail e k x.Epoch else 0
    | _,_=>0
  | _,_=>0
 else 0
theorem s_Count (s:Scene) (e:Edge) (k:Int) (hD:Zv7 s.Diners) (hM:s.Mail.length≤900000):Zie s e k=some (countS s e k:Int):=by
 simp only [Zie,s_there,Option.bind_some]
 unfold countS
 cases ha:Zhc s e.A with
 | false=>rfl
 | true=>
   cases hb:Zhc s e.B with
   | false=>rfl
   | true=>
     obtain ⟨da,a1,a2⟩:=Zjc ha
     obtain ⟨db,b1,b2⟩:=Zjc hb
     have la:=hD.2 da (List.mem_iff_getElem?.2 ⟨_,a2⟩)
     have lb:=hD.2 db (List.mem_iff_getElem?.2 ⟨_,b2⟩)
     simp only [Bool.not_true,Zv5,Zhe,a1,a2,b1,b2,Option.bind_some,Zge,Zy7 da e.B (by omega),Zy7 db e.A (by omega),Bool.and_self,if_true,Zfe]
     cases hx:Zw7 da e.B with
     | none=>rfl
     | some x=>
       cases hy:Zw7 db e.A with
       | none=>rfl
       | some y=>
         simp only [sideP,Bool.not_true,Zv5,Zee]
         by_cases he:x.Epoch=y.Epoch
         ·by_cases h1:k=1
          ·subst h1
           have n2:bn x.Fork+bn y.Fork≤2:=by cases x.Fork<;>cases y.Fork<;>decide
           simp only [decide_true,Zu5,s_countS1,Z4e,s_countL2 s e 1 x _ n2 hM]
           simp [he,has]
          ·by_cases h2:k=2
           ·subst h2
            have n2:bn x.Token+bn y.Token≤2:=by cases x.Token<;>cases y.Token<;>decide
            simp only [Zv5,show decide ((2:Int)=1)=false from rfl,decide_true,Zu5,s_countS3,Zbe,s_countL4 s e 2 x _ n2 hM]
            simp [he,has]
           ·simp [he,h1,h2]
         ·simp [he]
def Zoe (l:List Diner) (p:Int):List Int:=(l.filter fun d=>decide (d.Phase=p)).map (·.ID)
theorem fireMs_small {d:Diner} (h:okD d=true):(Zya d).length≤128:=by
 have h1:=Zqa h
 have h2:=Zza d.Sides d.ID d.Phase
 unfold Zya
 omega
theorem actP_mail {s:Scene} {a:Int} {r:Diner×Int} (h:(actP s a r).2=0):(actP s a r).1.Mail.length≤s.Mail.length+128:=by
 unfold actP at h ⊢
 split at h
 ·rename_i h1
  split at h
  ·rename_i h2
   rw [if_pos h1,if_pos h2]
   have:=fireMs_small h2
   simp only [actS,List.length_append];omega
  ·simp at h
 ·exact absurd h (by assumption)
theorem Zpe {s:Scene} {a:Int} {q:Diner→Diner×Int} (h:(Zic s a q).2=0):(Zic s a q).1.Mail.length≤s.Mail.length+128:=by
 unfold Zic at h ⊢
 cases hk:okS s with
 | false=>rw [hk] at h;simp at h
 | true=>
   rw [hk] at h
   simp only [if_true] at h ⊢
   cases ht:Zhc s a with
   | false=>rw [ht] at h;simp at h
   | true=>
     rw [ht] at h
     simp only [if_true] at h ⊢
     obtain ⟨d,hd,_⟩:=Zjc ht
     rw [hd] at h ⊢
     exact actP_mail h
theorem delivS_mail {s:Scene} {a b:Int} (h:(Zlc s a b).2=0):(Zlc s a b).1.Mail.length≤s.Mail.length+128:=by
 unfold Zlc at h ⊢
 cases hk:okS s with
 | false=>rw [hk] at h;simp at h
 | true=>
   rw [hk] at h
   simp only [if_true] at h ⊢
   cases ht:(Zhc s a&&Zhc s b) with
   | false=>rw [ht] at h;simp at h
   | true=>
     rw [ht] at h
     simp only [if_true] at h ⊢
     cases hi:Zkc s a b with
     | none=>rw [hi] at h;simp at h
     | some i=>
       rw [hi] at h
       simp only at h ⊢
       split at h
       ·rename_i m d hm hd
        have:=actP_mail h
        simp only [List.length_append,List.length_take,List.length_drop] at this
        refine Nat.le_trans this ?_
        omega
       ·simp at h
theorem actA_mail {s:Scene} {k a b:Int} (h:(Zmc s k a b).2=0):(Zmc s k a b).1.Mail.length≤s.Mail.length+128:=by
 unfold Zmc at h ⊢
 split at h
 ·rename_i h1;rw [if_pos h1];exact Zpe h
 ·rename_i h1
  rw [if_neg h1]
  split at h
  ·rename_i h2;rw [if_pos h2];exact Zpe h
  ·rename_i h2;rw [if_neg h2];exact delivS_mail h
theorem Inv.first {g:Graph} (hg:okG g=true):Inv g (Zpd g):=Inv.init hg (Zod hg).1
theorem s_Small (g:Graph):Zke g=some (decide (g.N≤10)&&okG g):=by
 simp only [Zke,s_r03Check,Option.bind_some,Zje]
 cases decide (g.N≤10)<;>rfl
theorem Inv.get {g:Graph} {s:Scene} (h:Inv g s) {a:Int} (h0:0≤a) (h1:a<g.N):∃d,s.Diners[a.toNat]?=some d:=by
 have:=h.len
 exact ⟨_,List.getElem?_eq_getElem (by omega)⟩
theorem Inv.sided {g:Graph} {s:Scene} (h:Inv g s) {a:Int} (h0:0≤a) {d:Diner} (hd:s.Diners[a.toNat]?=some d) {b:Int} (hb:b∈Zo9 g a):∃x,Zw7 d b=some x∧x∈d.Sides:=by
 have h1:=(h.shp _ _ hd).2
 rw [Int.toNat_of_nonneg h0] at h1
 have:(Zw7 d b).isSome=true:=by rw [Z0b,h1];exact decide_eq_true hb
 obtain ⟨x,hx⟩:=Option.isSome_iff_exists.1 this
 exact ⟨x,hx,(Zcb hx).1⟩
theorem mem_phases {g:Graph} {s:Scene} (h:Inv g s) {p a:Int} (ha:a∈Zoe s.Diners p):∃d,s.Diners[a.toNat]?=some d∧0≤a∧d.ID=a∧d.Phase=p:=by
 unfold Zoe at ha
 obtain ⟨d,hd,rfl⟩:=List.mem_map.1 ha
 rw [List.mem_filter,decide_eq_true_eq] at hd
 obtain ⟨k,hk⟩:=List.mem_iff_getElem?.1 hd.1
 have:=h.ids k d hk
 refine ⟨d,?_,by omega,rfl,hd.2⟩
 rw [this,Int.toNat_natCast];exact hk
theorem phasesL_len (l:List Diner) (p:Int):(Zoe l p).length≤l.length:=by
 unfold Zoe;rw [List.length_map];exact List.length_filter_le _ _
def Own (x y:Side) (pa pb:Int) (cab cba:List Int) (ra rb:Int):Prop:=
 cab=[]∧y.Fork=false∧(y.Token=false→pb=1)∧((x.Fork&&x.Dirty)=true→ra<rb)∧((x.Fork&&x.Dirty)=false→rb<ra)∧
 ((x.Fork=true∧(x.Dirty=false→pa=1)∧((x.Token=true∧y.Token=false∧cba=[])∨(x.Token=false∧y.Token=true∧cba=[])∨(x.Token=false∧y.Token=false∧cba=[2])))∨
  (x.Fork=false∧x.Token=false∧pa=1∧((y.Token=true∧cba=[1])∨(y.Token=false∧cba=[1,2]))))
def Zqe (x y:Side) (pa pb:Int) (cab cba:List Int) (ra rb:Int):Prop:=Own x y pa pb cab cba ra rb∨Own y x pb pa cba cab rb ra
theorem Zqe.symm {x y:Side} {pa pb:Int} {cab cba:List Int} {ra rb:Int} (h:Zqe x y pa pb cab cba ra rb):Zqe y x pb pa cba cab rb ra:=Or.symm h
theorem Zqe.phase {x y:Side} {pa pb:Int} {cab cba:List Int} {ra rb:Int} (h:Zqe x y pa pb cab cba ra rb) (hp:pa≠1) (p:Int):Zqe x y p pb cab cba ra rb:=by
 rcases h with ⟨h1,h2,h3,h4,h5,h6⟩ | ⟨h1,h2,h3,h4,h5,h6⟩
 ·left
  rcases h6 with ⟨k1,k2,k3⟩ | ⟨k1,k2,k3,k4⟩
  ·exact ⟨h1,h2,h3,h4,h5,.inl ⟨k1,fun e=>absurd (k2 e) hp,k3⟩⟩
  ·exact absurd k3 hp
 ·exact .inr ⟨h1,h2,fun e=>absurd (h3 e) hp,h4,h5,h6⟩
theorem Zqe.fire {x y:Side} {pa pb:Int} {cab cba:List Int} {ra rb:Int} (id:Int) (h:Zqe x y pa pb cab cba ra rb):Zqe (Zua pa x) y pa pb (cab++(Zva id pa x).map (·.Msg.Kind)) cba ra rb:=by
 obtain ⟨p,e,st,f,d,t,bo,ak⟩:=x
 obtain ⟨p',e',st',f',d',t',bo',ak'⟩:=y
 unfold Zqe Own at h ⊢
 unfold Zua Zva Zta
 by_cases q1:pa=1
 ·subst q1
  cases f<;>cases d<;>cases t<;>simp_all
  all_goals rcases h.2.2.2 with h | h<;>simp_all
 ·by_cases q2:pa=2
  ·subst q2
   cases f<;>cases d<;>cases t<;>simp_all
  ·cases f<;>cases d<;>cases t<;>simp_all
theorem Zqe.eat {x y:Side} {pb:Int} {cab cba:List Int} {ra rb:Int} (h:Zqe x y 1 pb cab cba ra rb) (hf:x.Fork=true) {r:Int} (hr:r<rb):Zqe (Zwa x) y 2 pb cab cba r rb:=by
 obtain ⟨p,e,st,f,d,t,bo,ak⟩:=x
 dsimp only at hf
 subst hf
 rcases h with ⟨h1,h2,h3,h4,h5,h6⟩ | ⟨h1,h2,h3,h4,h5,h6⟩
 ·refine .inl ⟨h1,h2,h3,fun _=>hr,fun e=>absurd e (by simp [Zwa]),?_⟩
  rcases h6 with ⟨k1,k2,k3⟩ | ⟨k1,k2,k3,k4⟩
  ·exact .inl ⟨rfl,fun e=>absurd e (by simp [Zwa]),k3⟩
  ·exact absurd k1 (by simp)
 ·exact absurd h2 (by simp)
theorem Zqe.getF {x y:Side} {pa pb:Int} {cab cba:List Int} {ra rb:Int} (h:Zqe x y pa pb cab (1::cba) ra rb) (hd:x.Dirty=true→x.Fork=true):Zqe {x with Fork:=true} y pa pb cab cba ra rb∧x.Fork=false∧x.Dirty=false:=by
 rcases h with ⟨h1,h2,h3,h4,h5,h6⟩ | ⟨h1,h2,h3,h4,h5,h6⟩
 ·rcases h6 with ⟨k1,k2,k3 | k3 | k3⟩ | ⟨k1,k2,k3,k4⟩
  ·exact absurd k3.2.2 (by simp)
  ·exact absurd k3.2.2 (by simp)
  ·exact absurd k3.2.2 (by simp)
  ·have hx:x.Dirty=false:=by
    cases hh:x.Dirty with
    | false=>rfl
    | true=>exact absurd (hd hh) (by simp [k1])
   refine ⟨.inl ⟨h1,h2,h3,fun e=>absurd e (by simp [hx]),fun _=>h5 (by simp [hx]),.inl ⟨rfl,fun _=>k3,?_⟩⟩,k1,hx⟩
   rcases k4 with ⟨k5,k6⟩ | ⟨k5,k6⟩
   ·exact .inr (.inl ⟨k2,k5,by simpa using k6⟩)
   ·exact .inr (.inr ⟨k2,k5,by simpa using k6⟩)
 ·exact absurd h1 (by simp)
theorem Zqe.getT {x y:Side} {pa pb:Int} {cab cba:List Int} {ra rb:Int} (h:Zqe x y pa pb cab (2::cba) ra rb):Zqe {x with Token:=true} y pa pb cab cba ra rb∧x.Fork=true:=by
 rcases h with ⟨h1,h2,h3,h4,h5,h6⟩ | ⟨h1,h2,h3,h4,h5,h6⟩
 ·rcases h6 with ⟨k1,k2,k3 | k3 | k3⟩ | ⟨k1,k2,k3,k4⟩
  ·exact absurd k3.2.2 (by simp)
  ·exact absurd k3.2.2 (by simp)
  ·refine ⟨.inl ⟨h1,h2,h3,h4,h5,.inl ⟨k1,k2,.inl ⟨rfl,k3.2.1,by simpa using k3.2.2⟩⟩⟩,k1⟩
  ·rcases k4 with ⟨k5,k6⟩ | ⟨k5,k6⟩<;>exact absurd k6 (by simp)
 ·exact absurd h1 (by simp)
theorem Zqe.few {x y:Side} {pa pb:Int} {cab cba:List Int} {ra rb:Int} (h:Zqe x y pa pb cab cba ra rb):cab.length+cba.length≤2:=by
 rcases h with ⟨h1,h2,h3,h4,h5,h6⟩ | ⟨h1,h2,h3,h4,h5,h6⟩<;>rcases h6 with ⟨k1,k2,k3 | k3 | k3⟩ | ⟨k1,k2,k3,k4 | k4⟩<;>simp_all
def ch (M:List Mail) (a b:Int):List Int:=(M.filter fun m=>decide (m.From=a)&&decide (m.To=b)).map (·.Msg.Kind)
theorem Zre (M N:List Mail) (a b:Int):ch (M++N) a b=ch M a b++ch N a b:=by simp [ch]
theorem ch_nil {M:List Mail} {a b:Int} (h:∀m∈M,¬(m.From=a∧m.To=b)):ch M a b=[]:=by
 unfold ch
 rw [List.map_eq_nil_iff,List.filter_eq_nil_iff]
 intro m hm
 simpa using h m hm
theorem Zse {d:Diner} {p q:Int} (hp:p≠d.ID):ch (Zya d) p q=[]:=by
 refine ch_nil fun m hm=>?_
 obtain ⟨x,_,hx⟩:=List.mem_flatMap.1 hm
 exact fun e=>hp (e.1.symm.trans (Z4b hx).1)
theorem ch_fires (id ph b:Int):∀(l:List Side),l.Pairwise (fun x y=>x.Peer<y.Peer)→ch (l.flatMap (Zva id ph)) id b=match l.find? (fun x=>decide (x.Peer=b)) with | some x=>(Zva id ph x).map (·.Msg.Kind) | none=>[]
 | [],_=>rfl
 | x::l,h=>by
   rw [List.pairwise_cons] at h
   rw [List.flatMap_cons,Zre,ch_fires id ph b l h.2,List.find?_cons]
   by_cases hx:x.Peer=b
   ·have:l.find? (fun x=>decide (x.Peer=b))=none:=by
     rw [List.find?_eq_none]
     intro y hy
     have:=h.1 y hy
     simp;omega
    rw [this,decide_eq_true hx]
    have:(Zva id ph x).filter (fun m=>decide (m.From=id)&&decide (m.To=b))=Zva id ph x:=by
     rw [List.filter_eq_self]
     intro m hm
     have:=Z4b hm
     simp [this.1,this.2.1,hx]
    simp [ch,this]
   ·rw [decide_eq_false hx,ch_nil (M:=Zva id ph x) (fun m hm e=>hx ((Z4b hm).2.1.symm.trans e.2))];rfl
theorem ch_fire {d:Diner} {b:Int} {x:Side} (hp:d.Sides.Pairwise fun x y=>x.Peer<y.Peer) (hx:Zw7 d b=some x):ch (Zya d) d.ID b=(Zva d.ID d.Phase x).map (·.Msg.Kind):=by
 unfold Zya
 rw [ch_fires d.ID d.Phase b d.Sides hp]
 unfold Zw7 at hx
 rw [hx]
theorem ch_take {M:List Mail} {a b:Int} {i:Nat} {m:Mail} (hi:M.findIdx? (fun m=>decide (m.From=a)&&decide (m.To=b))=some i) (hm:M[i]?=some m):
  ch M a b=m.Msg.Kind::ch (M.take i++M.drop (i+1)) a b∧∀p q:Int,¬(p=a∧q=b)→ch (M.take i++M.drop (i+1)) p q=ch M p q:=by
 have hlt:=(List.getElem?_eq_some_iff.1 hm).1
 have e:M=M.take i++m::M.drop (i+1):=by
  have h1:=List.take_append_drop i M
  rw [List.drop_eq_getElem_cons hlt] at h1
  have h2:M[i]=m:=by rw [List.getElem?_eq_getElem hlt] at hm;simpa using hm
  rw [h2] at h1
  exact h1.symm
 obtain ⟨hlt',h1,h2⟩:=List.findIdx?_eq_some_iff_getElem.1 hi
 have hmi:M[i]=m:=by rw [List.getElem?_eq_getElem hlt] at hm;simpa using hm
 rw [hmi] at h1
 simp only [Bool.and_eq_true,decide_eq_true_eq] at h1
 have h3:ch (M.take i) a b=[]:=ch_nil fun x hx=>by
  obtain ⟨k,hk⟩:=List.mem_iff_getElem?.1 hx
  have hki:k<i:=by
   have:=(List.getElem?_eq_some_iff.1 hk).1
   simp at this;omega
  have h4:=h2 k hki
  rw [List.getElem?_take_of_lt hki,List.getElem?_eq_getElem (by omega)] at hk
  have:M[k]=x:=by simpa using hk
  rw [this] at h4
  simpa using h4
 have cons:∀p q:Int,ch (m::M.drop (i+1)) p q=if m.From=p∧m.To=q then m.Msg.Kind::ch (M.drop (i+1)) p q else ch (M.drop (i+1)) p q:=fun p q=>by
  unfold ch
  rw [List.filter_cons]
  by_cases hh:m.From=p∧m.To=q
  ·simp [hh.1,hh.2]
  ·rw [if_neg hh,if_neg (by simpa using hh)]
 refine ⟨?_,fun p q hpq=>?_⟩
 ·have e2:ch M a b=ch (M.take i++m::M.drop (i+1)) a b:=by rw [←e]
  rw [e2,Zre,Zre,h3,cons,if_pos h1];rfl
 ·have e2:ch M p q=ch (M.take i++m::M.drop (i+1)) p q:=by rw [←e]
  rw [e2,Zre,Zre,cons,if_neg (by rw [h1.1,h1.2];exact fun e=>hpq ⟨e.1.symm,e.2.symm⟩)]
def Zte (r:Nat→Int) (s:Scene):Prop:=∀(a b:Nat) da db x y,s.Diners[a]?=some da→s.Diners[b]?=some db→Zw7 da b=some x→Zw7 db a=some y→Zqe x y da.Phase db.Phase (ch s.Mail a b) (ch s.Mail b a) (r a) (r b)
theorem Zte.set {r r':Nat→Int} {s:Scene} (h:Zte r s) {a:Nat} {d:Diner} (hs:Zw7 d a=none) {M:List Mail} (hr:∀k,k≠a→r' k=r k) (hc:∀p q:Nat,p≠a→q≠a→ch M p q=ch s.Mail p q)
  (hn:∀(b:Nat) db x y,b≠a→s.Diners[b]?=some db→Zw7 d b=some x→Zw7 db a=some y→Zqe x y d.Phase db.Phase (ch M a b) (ch M b a) (r' a) (r b)):Zte r' ⟨s.Diners.set a d,M⟩:=by
 have get:∀(k:Nat) e,(s.Diners.set a d)[k]?=some e→(k=a∧e=d)∨(k≠a∧s.Diners[k]?=some e):=fun k e he=>by
  rw [List.getElem?_set] at he
  split at he
  ·rename_i hk
   simp at he
   exact .inl ⟨hk.symm,he.2.symm⟩
  ·rename_i hk
   exact .inr ⟨fun e=>hk e.symm,he⟩
 intro p q dp dq x y hp hq hx hy
 dsimp only at hp hq ⊢
 rcases get p dp hp with ⟨rfl,rfl⟩ | ⟨p1,hp'⟩<;>rcases get q dq hq with ⟨rfl,rfl⟩ | ⟨q1,hq'⟩
 ·rw [hs] at hx;simp at hx
 ·rw [hr q q1];exact hn q dq x y q1 hq' hx hy
 ·rw [hr p p1];exact (hn p dp y x p1 hp' hy hx).symm
 ·rw [hr p p1,hr q q1,hc p q p1 q1,hc q p q1 p1];exact h p q dp dq x y hp' hq' hx hy
def SetS (ph:Int) (x:Side):Prop:=(x.Fork=true→x.Dirty=true→x.Token=true→ph=2)∧(ph=1→x.Token=true→x.Fork=true)
structure SetD (d:Diner):Prop where
 side:∀x∈d.Sides,SetS d.Phase x
 lack:d.Phase=1→∃x∈d.Sides,x.Fork=false
theorem fire2_set (ph:Int) (x:Side):SetS ph (Zua ph x):=by
 obtain ⟨p,e,st,f,d,t,bo,ak⟩:=x
 unfold SetS Zua Zta
 by_cases q1:ph=1
 ·subst q1
  cases f<;>cases d<;>cases t<;>simp
 ·by_cases q2:ph=2
  ·subst q2
   cases f<;>cases d<;>cases t<;>simp
  ·cases f<;>cases d<;>cases t<;>simp_all
theorem SetS.fire {ph:Int} {x:Side} (h:SetS ph x) (id:Int):Zua ph x=x∧Zva id ph x=[]:=by
 obtain ⟨p,e,st,f,d,t,bo,ak⟩:=x
 obtain ⟨h1,h2⟩:=h
 unfold Zva Zua Zta
 by_cases q1:ph=1
 ·subst q1
  cases f<;>cases d<;>cases t<;>simp_all
 ·by_cases q2:ph=2
  ·subst q2
   cases f<;>cases d<;>cases t<;>simp
  ·cases f<;>cases d<;>cases t<;>simp_all
theorem fireD_set (d:Diner):SetD (Zxa d):=by
 unfold Zxa
 split
 ·exact ⟨fun x _=>⟨fun _ _ _=>rfl,fun e=>absurd e (by show ¬(2:Int)=1;omega)⟩,fun e=>absurd e (by show ¬(2:Int)=1;omega)⟩
 ·rename_i h
  refine ⟨fun x hx=>?_,fun e=>?_⟩
  ·obtain ⟨y,_,rfl⟩:=List.mem_map.1 hx
   exact fire2_set _ _
  ·dsimp only at e ⊢
   rw [decide_eq_true e,Bool.true_and,Bool.not_eq_true,List.all_eq_false] at h
   obtain ⟨x,hx,hf⟩:=h
   exact ⟨x,hx,by simpa using hf⟩
theorem low (r:Nat→Int):∀n:Nat,∃m:Int,∀k,k<n→m<r k
 | 0=>⟨0,fun k hk=>absurd hk (by omega)⟩
 | n+1=>by
   obtain ⟨m,hm⟩:=low r n
   refine ⟨min m (r n-1),fun k hk=>?_⟩
   by_cases h:k=n
   ·subst h;omega
   ·have:=hm k (by omega);omega
theorem Inv.self {g:Graph} {s:Scene} (hg:okG g=true) (h:Inv g s) {a:Nat} {d:Diner} (hd:s.Diners[a]?=some d):Zw7 d a=none:=by
 cases hx:Zw7 d (a:Int) with
 | none=>rfl
 | some x=>
   obtain ⟨x1,x2⟩:=Zcb hx
   have hm:x.Peer∈Zo9 g a:=by rw [←(h.shp a d hd).2];exact List.mem_map_of_mem x1
   exact absurd x2 (Zs9 hg hm).2.2.1
theorem edge_fireD {g:Graph} {s:Scene} (hg:okG g=true) (h:Inv g s) {a:Nat} {d:Diner} (hd:s.Diners[a]?=some d) {r:Nat→Int} (he:Zte r s):∃r',Zte r' ⟨s.Diners.set a (Zxa d),s.Mail++Zya d⟩:=by
 obtain ⟨hid,hsh⟩:=h.shp a d hd
 have hpw:=h.pw hg hd
 have hself:Zw7 (Zxa d) a=none:=by rw [Zbb,h.self hg hd];rfl
 have hc:∀p q:Nat,p≠a→q≠a→ch (s.Mail++Zya d) p q=ch s.Mail p q:=fun p q hp _=>by
  rw [Zre,Zse (by rw [hid];omega),List.append_nil]
 have hin:∀(b:Nat) db x y,b≠a→s.Diners[b]?=some db→Zw7 d b=some x→Zw7 db a=some y→Zqe (Zua d.Phase x) y d.Phase db.Phase (ch (s.Mail++Zya d) a b) (ch (s.Mail++Zya d) b a) (r a) (r b):=fun b db x y hb hdb hx hy=>by
  have h1:=(he a b d db x y hd hdb hx hy).fire d.ID
  rw [←ch_fire hpw hx,hid,←Zre] at h1
  rw [Zre _ _ (b:Int) (a:Int),Zse (by rw [hid];omega),List.append_nil]
  exact h1
 cases hq:decide (d.Phase=1)&&(d.Sides.map (Zua d.Phase)).all (·.Fork) with
 | false=>
   refine ⟨r,he.set hself (fun _ _=>rfl) hc fun b db x y hb hdb hx hy=>?_⟩
   rw [Zbb,Option.map_eq_some_iff] at hx
   obtain ⟨x0,hx0,rfl⟩:=hx
   have e1:Z8b d x0=Zua d.Phase x0:=by unfold Z8b;rw [hq];rfl
   have e2:(Zxa d).Phase=d.Phase:=by unfold Zxa;rw [hq];rfl
   rw [e1,e2]
   exact hin b db x0 y hb hdb hx0 hy
 | true=>
   obtain ⟨m,hm⟩:=low r s.Diners.length
   refine ⟨fun k=>if k=a then m else r k,he.set hself (fun k hk=>by rw [if_neg hk]) hc fun b db x y hb hdb hx hy=>?_⟩
   rw [Zbb,Option.map_eq_some_iff] at hx
   obtain ⟨x0,hx0,rfl⟩:=hx
   have e1:Z8b d x0=Zwa (Zua d.Phase x0):=by unfold Z8b;rw [hq];rfl
   have e2:(Zxa d).Phase=2:=by unfold Zxa;rw [hq];rfl
   rw [Bool.and_eq_true,decide_eq_true_eq,List.all_eq_true] at hq
   have h2:=hin b db x0 y hb hdb hx0 hy
   rw [e1,e2,if_pos rfl]
   rw [hq.1] at h2 ⊢
   refine h2.eat ?_ (hm b (List.getElem?_eq_some_iff.1 hdb).1)
   have:=hq.2 _ (List.mem_map_of_mem (Zcb hx0).1)
   rwa [hq.1] at this
structure Fair (g:Graph) (s:Scene):Prop where
 inv:Inv g s
 set:∀d∈s.Diners,SetD d
 edge:∃r:Nat→Int,Zte r s
theorem Fair.fire {g:Graph} {s:Scene} (hg:okG g=true) (hset:∀d∈s.Diners,SetD d) {a:Nat} {d:Diner} {M:List Mail} (hlt:a<s.Diners.length) (hi:Inv g ⟨s.Diners.set a d,M⟩) {r:Nat→Int} (he:Zte r ⟨s.Diners.set a d,M⟩):
  Fair g ⟨s.Diners.set a (Zxa d),M++Zya d⟩:=by
 have hd:(s.Diners.set a d)[a]?=some d:=by rw [List.getElem?_set];simp [hlt]
 have h1:=hi.fire hg hd
 have h2:=edge_fireD hg hi hd he
 dsimp only at h1 h2
 rw [List.set_set] at h1 h2
 refine ⟨h1,fun e hm=>?_,h2⟩
 rcases List.mem_or_eq_of_mem_set hm with hm | rfl
 ·exact hset e hm
 ·exact fireD_set d
theorem edge_first {g:Graph} (hg:okG g=true):Zte (fun k=> -cg (Znd g) k) (Zpd g):=fun a b da db x y ha hb hx hy=>by
 have hr:=(Zod hg).1
 have get:∀(k:Nat) d,(Zv9 g (Znd g))[k]?=some d→d=Zu9 g (Znd g) k:=fun k d hd=>by
  have hk:=(List.getElem?_eq_some_iff.1 hd).1
  have hl:=Zy9 hg (Znd g)
  have e:=Zx9 (g:=g) (c:=Znd g) (a:=(k:Int)) (by omega) (by omega)
  rw [Int.toNat_natCast,hd] at e
  simpa using e
 have:=get a da ha
 subst this
 have:=get b db hb
 subst this
 rw [sideO_T] at hx hy
 split at hx
 ·rename_i hab
  rw [if_pos (Zz9 hg hab)] at hy
  have hne:=rightB_ne hg hr hab
  simp only [Option.some.injEq] at hx hy
  subst hx;subst hy
  have hlt:decide (cg (Znd g) a<cg (Znd g) b)=!decide (cg (Znd g) b<cg (Znd g) a):=by
   rw [←decide_not,decide_eq_decide];omega
  have e0:∀p q:Int,ch (Zpd g).Mail p q=[]:=fun _ _=>rfl
  rw [e0,e0]
  unfold Zqe Own
  by_cases hh:cg (Znd g) b<cg (Znd g) a
  ·left
   simp [Zt9,hlt,hh]
  ·right
   simp [Zt9,hlt,hh]
   omega
 ·simp at hx
theorem Fair.first {g:Graph} (hg:okG g=true):Fair g (Zpd g):=by
 have hI:=Inv.first hg
 have get:∀(k:Nat) d,(Zv9 g (Znd g))[k]?=some d→d=Zu9 g (Znd g) k:=fun k d hd=>by
  have hk:=(List.getElem?_eq_some_iff.1 hd).1
  have hl:=Zy9 hg (Znd g)
  have e:=Zx9 (g:=g) (c:=Znd g) (a:=(k:Int)) (by omega) (by omega)
  rw [Int.toNat_natCast,hd] at e
  simpa using e
 refine ⟨hI,fun d hd=>?_,fun k=> -cg (Znd g) k,edge_first hg⟩
 obtain ⟨k,hk⟩:=List.mem_iff_getElem?.1 hd
 have:=get k d hk
 subst this
 refine ⟨fun x hx=>?_,fun e=>absurd e (by show ¬(0:Int)=1;omega)⟩
 obtain ⟨b,_,rfl⟩:=List.mem_map.1 hx
 refine ⟨fun e1 _ e3=>?_,fun e=>absurd e (by show ¬(0:Int)=1;omega)⟩
 simp only [Zt9] at e1 e3
 rw [e1] at e3
 exact absurd e3 (by simp)
set_option maxRecDepth 100000
set_option maxHeartbeats 4000000
set_option maxRecDepth 100000
set_option maxHeartbeats 4000000
@[go_sem] def e60:EC:=.seq (.reg [(Qx 2 65 8 0),(Qx 3 65 8 1),(Qa 4 (.mv (.c .ff)))]) (.seq (.reg [(Qf 5 3 2),(Ql 6 5),(Qm 7 6),(Qh 8 7 true 4 2),(Qn 9 7 true 8),(Qg 10 7 true (.not (.t 9))),(Qp 11 7 10),(Qm 12 11),(Qh 13 12 false 3 2),(Qn 14 12 false 13),(Qg 15 12 false (.not (.t 14))),(Qg 16 12 false (.mv (.t 15))),(Qh 17 16 true 3 3),(Qn 18 16 true 17),(Qg 19 12 false (.pick (.t 16) (.t 18) (.c .ff))),(Qg 20 12 false (.mv (.t 19))),(Qh 21 20 true 4 3),(Qn 22 20 true 21),(Qg 23 12 false (.pick (.t 20) (.t 22) (.c .ff))),(Qq 24 12 23),(Qm 4 24)]) (.ret))
theorem ok60:FnOK Tryz.prog 60 Tryz.f60 e60 [.t 4] 2 23:=⟨by kernel_rfl,⟨_,rfl,by kernel_rfl⟩,by kernel_rfl,by kernel_rfl⟩
noncomputable def Zue:Bool→Option Bool
| x3=>
 some x3
noncomputable def Zve (x1:Side) (x2:Side):Option Bool:=
 ifb x1.Fork (
 ifb (!x1.Dirty) (
 Zue true) (
 ifb (!x1.Fork) (
 ifb x2.Fork (
 Zue x2.Dirty) (
 Zue false)) (
 Zue false))) (
 ifb (!x1.Fork) (
 ifb x2.Fork (
 Zue x2.Dirty) (
 Zue false)) (
 Zue false))
theorem Zwe (x1:Side) (x2:Side) (r:Bool) (h:Zve x1 x2=some r):Zu2 Tryz.prog 60 [.agg (Side.row x1),.agg (Side.row x2)] (.bv r):=by
 refine Zy2 ok60 rfl rfl fun w0 H0=>?_
 rw [Zve] at h
 refine Zo2 11 ?_;dsimp only [go_sem];refine An ?_;refine Zh4 (fun (x3:Bool)=>(⟨(an 4 (.bv x3::an 20 [])),[],[]⟩:St)) Zue r ?_ fun J1=>?_
 ·intro x3 h;rw [Zue] at h;(try dsimp only);exact Zr4 (res:=fun (r:Bool)=>.bv r) ok60 h
 ·refine Zq4 7 h rfl (fun _ h=>?_) fun _ h=>?_
  ·dsimp only [go_sem];refine Zo2 5 ?_;dsimp only [go_sem];refine An ?_;refine Zq4 12 h rfl (fun _ h=>?_) fun _ h=>?_
   ·dsimp only [go_sem];refine Zo2 14 ?_;dsimp only [go_sem];refine An ?_;exact Zt4 J1 (s:=true) h
   ·dsimp only [go_sem];refine Zo2 4 ?_;dsimp only [go_sem];refine An ?_;refine Zq4 16 h rfl (fun _ h=>?_) fun _ h=>?_
    ·dsimp only [go_sem];refine Zo2 4 ?_;dsimp only [go_sem];refine An ?_;refine Zq4 20 h rfl (fun _ h=>?_) fun _ h=>?_
     ·dsimp only [go_sem];refine Zo2 6 ?_;dsimp only [go_sem];refine An ?_;exact Zt4 J1 (s:=x2.Dirty) h
     ·dsimp only [go_sem];refine Zo2 6 ?_;dsimp only [go_sem];refine An ?_;exact Zt4 J1 (s:=false) h
    ·dsimp only [go_sem];refine Zo2 10 ?_;dsimp only [go_sem];refine An ?_;exact Zt4 J1 (s:=false) h
  ·dsimp only [go_sem];refine Zo2 9 ?_;dsimp only [go_sem];refine An ?_;refine Zq4 16 h rfl (fun _ h=>?_) fun _ h=>?_
   ·dsimp only [go_sem];refine Zo2 4 ?_;dsimp only [go_sem];refine An ?_;refine Zq4 20 h rfl (fun _ h=>?_) fun _ h=>?_
    ·dsimp only [go_sem];refine Zo2 6 ?_;dsimp only [go_sem];refine An ?_;exact Zt4 J1 (s:=x2.Dirty) h
    ·dsimp only [go_sem];refine Zo2 6 ?_;dsimp only [go_sem];refine An ?_;exact Zt4 J1 (s:=false) h
   ·dsimp only [go_sem];refine Zo2 10 ?_;dsimp only [go_sem];refine An ?_;exact Zt4 J1 (s:=false) h
set_option maxRecDepth 100000
set_option maxHeartbeats 4000000
@[go_sem] def e91_L0:EC:=.seq (.reg [(Qa 9 (.bin .lss (.t 8) (.t 7)))]) (.seq (.ite (.t 9) (.skip) (.exit 0)) (.seq (.blk 1 (.seq (.reg [(Qm 10 8),(Qm 5 10)]) (.seq (.drw [(Qe 11 5 3),(Qm 12 0),(Qm 13 5),(Qk 14 5 12 13),(Qe 15 5 14),(Qa 16 (.eqs false [true,true,true,true,true] (.t 11) (.t 15)))] [[],[],[],[1,2],[3],[0,4]] [[5],[3],[3],[1,2,4],[3,5],[0,4]]) (.ite (.t 16) (.seq (.reg [(Qm 17 5),(Qm 4 17)]) (.ret)) (.skip))))) (.reg [(Qv 18 8 1),(Qm 8 18)])))
@[go_sem] def e91:EC:=.seq (.reg [(Qx 3 78 5 1),(Qi 4 0)]) (.seq (.seq (.reg [(Qm 6 0),(Qa 7 (.len (.t 6))),(Qi 8 0)]) (.blk 0 (.loop e91_L0))) (.seq (.reg [(Qa 4 (.mv (.c (.iv (-1)))))]) (.ret)))
theorem ok91:FnOK Tryz.prog 91 Tryz.f91 e91 [.t 4] 2 17:=⟨by kernel_rfl,⟨_,rfl,by kernel_rfl⟩,by kernel_rfl,by kernel_rfl⟩
noncomputable def Zxe:Unit→Option Int
| ()=>
 some (-1)
noncomputable def Zye (x1:(List Mail)) (x2:Mail):Int→Option (Int ⊕ Int)
| x5=>
 ifb (decide (x5<(ln Mail.row x1))) (
 (at_ x1 x5).bind fun x6=>
 ifb (decide (x2.From=x6.From)&&(decide (x2.To=x6.To)&&(decide (x2.Msg.Kind=x6.Msg.Kind)&&(decide (x2.Msg.Epoch=x6.Msg.Epoch)&&(decide (x2.Msg.Num=x6.Msg.Num)&&true))))) (
 Option.map Sum.inr (some x5)) (
 some (.inl (wr (x5+1))))) (
 Option.map Sum.inr (Zxe ()))
noncomputable def Zze (x1:(List Mail)) (x2:Mail):Option Int:=
 loop (Zye x1 x2) 0
theorem Z0f (x1:(List Mail)) (x2:Mail) (r:Int) (h:Zze x1 x2=some r):Zu2 Tryz.prog 91 [.sl 5 (List.map Mail.row x1),.agg (Mail.row x2)] (.iv r):=by
 refine Zy2 ok91 rfl rfl fun w0 H0=>?_
 rw [Zze] at h
 refine Zo2 12 ?_;dsimp only [go_sem];refine An ?_;refine Zh4 (fun (_:Unit)=>(⟨(an 19 []),[],[]⟩:St)) Zxe r ?_ fun J1=>?_
 ·rintro ⟨⟩ h;rw [Zxe] at h;(try dsimp only);refine Zo2 4 ?_;dsimp only [go_sem];refine An ?_;exact Zr4 (res:=fun (r:Int)=>.iv r) ok91 h
 ·refine Zo2 1 ?_;dsimp only [go_sem];refine An ?_;refine Zi4 h (fun (x5:Int)=>(⟨(.sl 5 (List.map Mail.row x1) :: .any :: .any :: .ptr 0 0::an 3 (.iv (ln Mail.row x1) :: .iv x5::an 10 [])),[some ⟨78,[.iv x2.From,.iv x2.To,.iv x2.Msg.Kind,.iv x2.Msg.Epoch,.iv x2.Msg.Num]⟩],[]⟩:St)) (by simp [go_sem]) (by intro x5;first | rfl | simp [go_sem]) ?_;rintro n1 x5 y1 h hin1 hout1;rw [Zye] at h;(try dsimp only);refine Zo2 5 ?_;dsimp only [go_sem];refine An ?_;refine Zj4 h rfl (fun _ h=>?_) fun _ h=>?_
  ·refine Zo2 9 ?_;dsimp only [go_sem];refine An ?_;refine Zj3 (by kernel_rfl) fun all hall hs hnap haf=>?_;dsimp only [go_sem];refine Z75 hall hs haf hnap 3 3 ?_;dsimp only [go_sem];refine An ?_;obtain ⟨x6,ex6,h⟩:=Bs h;refine Zn4 hall hs haf hnap 3 Mail.row ex6 rfl rfl trivial rfl rfl rfl rfl ?_;refine Z75 hall hs haf hnap 2 0 ?_;dsimp only [go_sem];refine An ?_;refine Zt3 rfl ?_ _;refine Zj4 h rfl (fun _ h=>?_) fun _ h=>?_
   ·refine Zo2 5 ?_;dsimp only [go_sem];refine An ?_;exact Zr4 (res:=fun (r:Int)=>.iv r) ok91 (Zg4 h hout1)
   ·refine Zo2 6 ?_;dsimp only [go_sem];refine An ?_;exact Zs4 h hin1
  ·refine Zo2 1 ?_;dsimp only [go_sem];refine An ?_;exact Zt4 J1 (s:=()) (Zg4 h hout1)
set_option maxRecDepth 100000
set_option maxHeartbeats 4000000
@[go_sem] def e61:EC:=.seq (.reg [(Qx 3 78 5 1),(Qa 4 (.mv (.c .ff)))]) (.seq (.reg [(Qm 5 0),(Qe 6 5 3),(Qa 7 (.call 91 [(.t 5),(.t 6)])),(Qa 8 (.bin .geq (.t 7) (.c (.iv 0)))),(Qm 4 8)]) (.ret))
theorem ok61:FnOK Tryz.prog 61 Tryz.f61 e61 [.t 4] 2 7:=⟨by kernel_rfl,⟨_,rfl,by kernel_rfl⟩,by kernel_rfl,by kernel_rfl⟩
noncomputable def Z1f (x1:(List Mail)) (x2:Mail):Option Bool:=
 (Zze x1 x2).bind fun x3=>
 some (decide (0≤x3))
theorem Z2f (x1:(List Mail)) (x2:Mail) (r:Bool) (h:Z1f x1 x2=some r):Zu2 Tryz.prog 61 [.sl 5 (List.map Mail.row x1),.agg (Mail.row x2)] (.bv r):=by
 refine Zy2 ok61 rfl rfl fun w0 H0=>?_
 rw [Z1f] at h
 refine Zo2 9 ?_;dsimp only [go_sem];refine An ?_;obtain ⟨x3,ex3,h⟩:=Bs h;refine Z33 trivial (Z0f x1 x2 _ ex3) (h:=?_);refine Zo2 3 ?_;dsimp only [go_sem];refine An ?_;exact Zr4 (res:=fun (r:Bool)=>.bv r) ok61 h
set_option maxRecDepth 100000
set_option maxHeartbeats 4000000
@[go_sem] def e27_L1:EC:=.seq (.reg [(Qa 28 (.bin .lss (.t 27) (.t 26)))]) (.seq (.ite (.t 28) (.skip) (.exit 2)) (.seq (.blk 3 (.seq (.reg [(Qk 29 3 25 27),(Qe 30 3 29),(Qa 7 (.alloc 70 [.iv 0,.iv 0,.nl])),(Qs 3 7 30)]) (.seq (.reg [(Qe 32 3 5),(Qf 33 0 7),(Ql 34 33),(Qa 35 (.call 31 [(.t 32),(.t 34)])),(Qm 31 35),(Qa 36 (.ext (.t 31) 0)),(Qa 37 (.ext (.t 31) 1)),(Qa 8 (.alloc 65 [.iv 0,.iv 0,.iv 0,.ff,.ff,.ff,.ff,.ff])),(Qs 8 8 36),(Qm 9 37)]) (.seq (.reg [(Qe 39 3 7),(Qf 40 0 5),(Ql 41 40),(Qa 42 (.call 31 [(.t 39),(.t 41)])),(Qm 38 42),(Qa 43 (.ext (.t 38) 0)),(Qa 44 (.ext (.t 38) 1)),(Qa 10 (.alloc 65 [.iv 0,.iv 0,.iv 0,.ff,.ff,.ff,.ff,.ff])),(Qs 8 10 43),(Qm 11 44)]) (.seq (.seq (.reg [(Qm 45 9),(Qa 46 (.not (.t 45))),(Qm 47 46),(Qg 48 47 false (.mv (.t 11))),(Qg 49 47 false (.not (.t 48))),(Qq 50 47 49),(Qm 51 50),(Qh 52 51 false 1 8),(Qn 53 51 false 52),(Qh 54 51 false 1 10),(Qn 55 51 false 54),(Qg 56 51 false (.bin .neq (.t 53) (.t 55))),(Qq 57 51 56)]) (.ite (.t 57) (.exit 3) (.skip))) (.seq (.reg [(Qf 58 1 8),(Ql 59 58),(Qa 60 (.build [.iv 0,.iv 0,.iv 0] [(0,1,(.c (.iv 1))),(1,1,(.t 59))])),(Qa 12 (.alloc 76 [.iv 0,.iv 0,.iv 0])),(Qs 3 12 60)]) (.blk 4 (.seq (.seq (.reg [(Qe 62 8 8),(Qe 63 8 10),(Qa 64 (.call 60 [(.t 62),(.t 63)])),(Qm 61 64)]) (.ite (.t 61) (.skip) (.reg [(Qf 65 3 8),(Ql 66 65),(Qa 67 (.not (.t 66))),(Qm 68 67),(Qh 69 68 true 3 10),(Qn 70 68 true 69),(Qg 71 68 true (.not (.t 70))),(Qp 72 68 71),(Qm 73 72),(Qh 74 73 true 1 1),(Qn 75 73 true 74),(Qh 76 73 true 0 7),(Qn 77 73 true 76),(Qh 78 73 true 0 5),(Qn 79 73 true 78),(Qg 80 73 true (.loadA 3 (.t 12))),(Qg 81 73 true (.build [.iv 0,.iv 0,.iv 0,.iv 0,.iv 0] [(0,1,(.t 77)),(1,1,(.t 79)),(2,3,(.t 80))])),(Qg 82 73 true (.call 61 [(.t 75),(.t 81)])),(Qp 83 73 82),(Qm 61 83)]))) (.ite (.t 61) (.reg [(Qm 84 3),(Qf 85 0 5),(Ql 86 85),(Qf 87 0 7),(Ql 88 87),(Qa 89 (.build [.iv 0,.iv 0] [(0,1,(.t 86)),(1,1,(.t 88))])),(Qa 90 (.bsl 104 2 1 [.iv 0,.iv 0] [(0,(.t 89))])),(Qa 91 (.app 104 2 16 (.t 84) (.t 90))),(Qm 3 91)]) (.seq (.seq (.reg [(Qe 93 8 10),(Qe 94 8 8),(Qa 95 (.call 60 [(.t 93),(.t 94)])),(Qm 92 95)]) (.ite (.t 92) (.skip) (.reg [(Qf 96 3 8),(Ql 97 96),(Qa 98 (.not (.t 97))),(Qm 99 98),(Qh 100 99 true 3 10),(Qn 101 99 true 100),(Qg 102 99 true (.not (.t 101))),(Qp 103 99 102),(Qm 104 103),(Qh 105 104 true 1 1),(Qn 106 104 true 105),(Qh 107 104 true 0 5),(Qn 108 104 true 107),(Qh 109 104 true 0 7),(Qn 110 104 true 109),(Qg 111 104 true (.loadA 3 (.t 12))),(Qg 112 104 true (.build [.iv 0,.iv 0,.iv 0,.iv 0,.iv 0] [(0,1,(.t 108)),(1,1,(.t 110)),(2,3,(.t 111))])),(Qg 113 104 true (.call 61 [(.t 106),(.t 112)])),(Qp 114 104 113),(Qm 92 114)]))) (.ite (.t 92) (.reg [(Qm 115 3),(Qf 116 0 7),(Ql 117 116),(Qf 118 0 5),(Ql 119 118),(Qa 120 (.build [.iv 0,.iv 0] [(0,1,(.t 117)),(1,1,(.t 119))])),(Qa 121 (.bsl 104 2 1 [.iv 0,.iv 0] [(0,(.t 120))])),(Qa 122 (.app 104 2 16 (.t 115) (.t 121))),(Qm 3 122)]) (.skip)))))))))))) (.reg [(Qv 123 27 1),(Qm 27 123)])))
@[go_sem] def e27_L0:EC:=.seq (.reg [(Qa 17 (.bin .lss (.t 16) (.t 15)))]) (.seq (.ite (.t 17) (.skip) (.exit 0)) (.seq (.blk 1 (.seq (.reg [(Qm 18 16),(Qk 19 3 14 16),(Qe 20 3 19),(Qa 5 (.alloc 70 [.iv 0,.iv 0,.nl])),(Qm 4 18),(Qs 3 5 20)]) (.seq (.reg [(Qf 21 0 1),(Ql 22 21),(Qm 23 4),(Qv 24 23 1),(Qa 25 (.slice 3 (.t 22) (some (.t 24)) none)),(Qa 26 (.len (.t 25))),(Qi 27 0)]) (.blk 2 (.loop e27_L1))))) (.reg [(Qv 124 16 1),(Qm 16 124)])))
@[go_sem] def e27:EC:=.seq (.reg [(Qx 1 25 2 0),(Qa 2 (.mv (.c .nl)))]) (.seq (.reg [(Qa 3 (.mv (.c .nl)))]) (.seq (.seq (.reg [(Qf 13 0 1),(Ql 14 13),(Qa 15 (.len (.t 14))),(Qi 16 0)]) (.blk 0 (.loop e27_L0))) (.seq (.reg [(Qm 125 3),(Qm 2 125)]) (.ret))))
theorem ok27:FnOK Tryz.prog 27 Tryz.f27 e27 [.t 2] 1 125:=⟨by kernel_rfl,⟨_,rfl,by kernel_rfl⟩,by kernel_rfl,by kernel_rfl⟩
noncomputable def Z3f:(List Arc)→Option (List Arc)
| x100=>
 some x100
noncomputable def Z4f (x47:Int):(List Arc)→Option ((Int×(List Arc)) ⊕ (List Arc))
| x92=>
 some (.inl (wr (x47+1),x92))
noncomputable def Z5f (x66:Int):(List Arc)→Option ((Int×(List Arc)) ⊕ ((Int×(List Arc)) ⊕ (List Arc)))
| x80=>
 some (.inl (wr (x66+1),x80))
noncomputable def Z6f (x49:Diner) (x66:Int) (x67:(List Arc)) (x68:Diner):Bool→Option ((Int×(List Arc)) ⊕ ((Int×(List Arc)) ⊕ (List Arc)))
| x78=>
 ifb x78 (
 (Za4 16 x67 ([(Arc.mk x68.ID x49.ID)])).bind fun x79=>
 (Z5f x66) x79) (
 (Z5f x66) x67)
noncomputable def Z7f (x1:Scene) (x49:Diner) (x66:Int) (x67:(List Arc)) (x68:Diner) (x69:(Side×Bool)) (x70:(Side×Bool)):Bool→Option ((Int×(List Arc)) ⊕ ((Int×(List Arc)) ⊕ (List Arc)))
| x74=>
 ifb x74 (
 (Za4 16 x67 ([(Arc.mk x49.ID x68.ID)])).bind fun x75=>
 (Z5f x66) x75) (
 (Zve x70.1 x69.1).bind fun x76=>
 ifb x76 (
 (Z6f x49 x66 x67 x68) x76) (
 ifb (!x69.1.Fork) (
 ifb (!x70.1.Fork) (
 (Z1f x1.Mail ((Mail.mk x49.ID x68.ID ((Msg.mk 1 x69.1.Epoch 0))))).bind fun x77=>
 (Z6f x49 x66 x67 x68) x77) (
 (Z6f x49 x66 x67 x68) false)) (
 (Z6f x49 x66 x67 x68) false)))
noncomputable def Z8f (x1:Scene) (x49:Diner) (x66:Int) (x67:(List Arc)) (x68:Diner) (x69:(Side×Bool)) (x70:(Side×Bool)):Bool→Option ((Int×(List Arc)) ⊕ ((Int×(List Arc)) ⊕ (List Arc)))
| x71=>
 ifb x71 (
 (Z5f x66) x67) (
 (Zve x69.1 x70.1).bind fun x72=>
 ifb x72 (
 (Z7f x1 x49 x66 x67 x68 x69 x70) x72) (
 ifb (!x69.1.Fork) (
 ifb (!x70.1.Fork) (
 (Z1f x1.Mail ((Mail.mk x68.ID x49.ID ((Msg.mk 1 x69.1.Epoch 0))))).bind fun x73=>
 (Z7f x1 x49 x66 x67 x68 x69 x70) x73) (
 (Z7f x1 x49 x66 x67 x68 x69 x70) false)) (
 (Z7f x1 x49 x66 x67 x68 x69 x70) false)))
noncomputable def Z9f (x1:Scene) (x47:Int) (x49:Diner) (x50:(List Diner)):(Int×(List Arc))→Option ((Int×(List Arc)) ⊕ ((Int×(List Arc)) ⊕ (List Arc)))
| (x66,x67)=>
 ifb (decide (x66<(ln Diner.row x50))) (
 (at_ x50 x66).bind fun x68=>
 (Zh7 x49 x68.ID).bind fun x69=>
 (Zh7 x68 x49.ID).bind fun x70=>
 ifb (!x69.2) (
 (Z8f x1 x49 x66 x67 x68 x69 x70) true) (
 ifb (!x70.2) (
 (Z8f x1 x49 x66 x67 x68 x69 x70) true) (
 (Z8f x1 x49 x66 x67 x68 x69 x70) (!decide (x69.1.Epoch=x70.1.Epoch))))) (
 Option.map Sum.inr ((Z4f x47) x67))
noncomputable def Zaf (x1:Scene):(Int×(List Arc))→Option ((Int×(List Arc)) ⊕ (List Arc))
| (x47,x48)=>
 ifb (decide (x47<(ln Diner.row x1.Diners))) (
 (at_ x1.Diners x47).bind fun x49=>
 (Zb4 x1.Diners (wr (x47+1)) (ln Diner.row x1.Diners)).bind fun x50=>
 loop (Z9f x1 x47 x49 x50) (0,x48)) (
 Option.map Sum.inr (Z3f x48))
noncomputable def Zbf (x1:Scene):Option (List Arc):=
 loop (Zaf x1) (0,([]:List Arc))
theorem o_place_Arcs (x1:Scene) (r:(List Arc)) (h:Zbf x1=some r):FunO Tryz.prog 27 [.agg (Scene.row x1)] 104 2 (List.map Arc.row r):=by
 refine Z55 ok27 rfl fun w0 H0=>?_
 rw [Zbf] at h
 refine Zo2 17 ?_;dsimp only [go_sem];refine An ?_;refine Zh4 (fun (x100:(List Arc))=>(⟨(an 3 (.osl 0::an 122 [])),[],[some ⟨104,2,List.map Arc.row x100⟩]⟩:St)) Z3f r ?_ fun J1=>?_
 ·intro x100 h;rw [Z3f] at h;(try dsimp only);refine Zo2 5 ?_;dsimp only [go_sem];refine An ?_;exact Z95 Arc.row ok27 h rfl rfl
 ·refine Zo2 1 ?_;dsimp only [go_sem];refine An ?_;refine Z64 3 104 2 rfl rfl ?_;dsimp only [go_sem];refine Zi4 h (fun ((x47,x48):(Int×(List Arc)))=>(⟨(.any :: .ptr 0 0 :: .any :: .osl 0::an 10 (.sl 3 (List.map Diner.row x1.Diners) :: .iv (ln Diner.row x1.Diners) :: .iv x47::an 109 [])),[some ⟨25,[.sl 3 (List.map Diner.row x1.Diners),.sl 5 (List.map Mail.row x1.Mail)]⟩],[some ⟨104,2,List.map Arc.row x48⟩]⟩:St)) (by simp [go_sem]) (by rintro ⟨x47,x48⟩;first | rfl | simp [go_sem]) ?_;rintro n1 ⟨x47,x48⟩ y1 h hin1 hout1;rw [Zaf] at h;(try dsimp only)
  refine Zo2 5 ?_;dsimp only [go_sem];refine An ?_;refine Zj4 h rfl (fun _ h=>?_) fun _ h=>?_
  ·refine Zo2 6 ?_;dsimp only [go_sem];refine An ?_;obtain ⟨x49,ex49,h⟩:=Bs h;refine Zm4 Diner.row ex49 trivial rfl rfl rfl ?_;refine Zo2 11 ?_;dsimp only [go_sem];refine An ?_;obtain ⟨x50,ex50,h⟩:=Bs h;refine V_sliceM Diner.row ex50 trivial rfl rfl rfl rfl ?_;refine Zo2 3 ?_;dsimp only [go_sem];refine An ?_
   refine Zh4 (fun (x92:(List Arc))=>(⟨(.any :: .ptr 0 0 :: .any :: .osl 0::an 10 (.sl 3 (List.map Diner.row x1.Diners) :: .iv (ln Diner.row x1.Diners) :: .iv x47::an 109 [])),[some ⟨25,[.sl 3 (List.map Diner.row x1.Diners),.sl 5 (List.map Mail.row x1.Mail)]⟩],[some ⟨104,2,List.map Arc.row x92⟩]⟩:St)) (Z4f x47) y1 ?_ fun J2=>?_
   ·intro x92 h;rw [Z4f] at h;(try dsimp only);refine Zo2 5 ?_;dsimp only [go_sem];refine An ?_;exact Zs4 h hin1
   ·refine Zo2 1 ?_;dsimp only [go_sem];refine An ?_
    refine Zi4 h (fun ((x66,x67):(Int×(List Arc)))=>(⟨(.any :: .ptr 0 0 :: .any :: .osl 0 :: .any :: .ptr 1 0::an 8 (.sl 3 (List.map Diner.row x1.Diners) :: .iv (ln Diner.row x1.Diners) :: .iv x47::an 8 (.sl 3 (List.map Diner.row x50) :: .iv (ln Diner.row x50) :: .iv x66::an 98 []))),[some ⟨25,[.sl 3 (List.map Diner.row x1.Diners),.sl 5 (List.map Mail.row x1.Mail)]⟩,some ⟨70,[.iv x49.ID,.iv x49.Phase,.sl 8 (List.map Side.row x49.Sides)]⟩],[some ⟨104,2,List.map Arc.row x67⟩]⟩:St)) (by simp [go_sem]) (by rintro ⟨x66,x67⟩;first | rfl | simp [go_sem]) ?_
    rintro n2 ⟨x66,x67⟩ y2 h hin2 hout2;rw [Z9f] at h;(try dsimp only);refine Zo2 5 ?_;dsimp only [go_sem];refine An ?_;refine Zj4 h rfl (fun _ h=>?_) fun _ h=>?_
    ·refine Zo2 2 ?_;dsimp only [go_sem];refine An ?_;refine Zh4 (fun (x80:(List Arc))=>(⟨(.any :: .ptr 0 0 :: .any :: .osl 0 :: .any :: .ptr 1 0::an 8 (.sl 3 (List.map Diner.row x1.Diners) :: .iv (ln Diner.row x1.Diners) :: .iv x47::an 8 (.sl 3 (List.map Diner.row x50) :: .iv (ln Diner.row x50) :: .iv x66::an 98 []))),[some ⟨25,[.sl 3 (List.map Diner.row x1.Diners),.sl 5 (List.map Mail.row x1.Mail)]⟩,some ⟨70,[.iv x49.ID,.iv x49.Phase,.sl 8 (List.map Side.row x49.Sides)]⟩],[some ⟨104,2,List.map Arc.row x80⟩]⟩:St)) (Z5f x66) y2 ?_ fun J3=>?_
     ·intro x80 h;rw [Z5f] at h;(try dsimp only);refine Zo2 4 ?_;dsimp only [go_sem];refine An ?_;exact Zs4 h hin2
     ·refine Zo2 3 ?_;dsimp only [go_sem];refine An ?_;obtain ⟨x68,ex68,h⟩:=Bs h;refine Zm4 Diner.row ex68 trivial rfl rfl rfl ?_;refine Zo2 9 ?_;dsimp only [go_sem];refine An ?_;obtain ⟨x69,ex69,h⟩:=Bs h;refine Z33 trivial (Zi7 x49 x68.ID _ ex69) (h:=?_);refine Zo2 12 ?_;dsimp only [go_sem];refine An ?_;obtain ⟨x70,ex70,h⟩:=Bs h;refine Z33 trivial (Zi7 x68 x49.ID _ ex70) (h:=?_);refine Zo2 13 ?_;dsimp only [go_sem];refine An ?_
      refine Zh4 (fun (x71:Bool)=>(⟨(.any :: .ptr 0 0 :: .any :: .osl 0 :: .any :: .ptr 1 0 :: .any :: .ptr 2 0 :: .ptr 3 0 :: .any :: .ptr 4 0::an 3 (.sl 3 (List.map Diner.row x1.Diners) :: .iv (ln Diner.row x1.Diners) :: .iv x47::an 8 (.sl 3 (List.map Diner.row x50) :: .iv (ln Diner.row x50) :: .iv x66::an 29 (.bv x71::an 68 [])))),[some ⟨25,[.sl 3 (List.map Diner.row x1.Diners),.sl 5 (List.map Mail.row x1.Mail)]⟩,some ⟨70,[.iv x49.ID,.iv x49.Phase,.sl 8 (List.map Side.row x49.Sides)]⟩,some ⟨70,[.iv x68.ID,.iv x68.Phase,.sl 8 (List.map Side.row x68.Sides)]⟩,some ⟨65,[.iv x69.1.Peer,.iv x69.1.Epoch,.iv x69.1.State,.bv x69.1.Fork,.bv x69.1.Dirty,.bv x69.1.Token,.bv x69.1.Bottle,.bv x69.1.Ask]⟩,some ⟨65,[.iv x70.1.Peer,.iv x70.1.Epoch,.iv x70.1.State,.bv x70.1.Fork,.bv x70.1.Dirty,.bv x70.1.Token,.bv x70.1.Bottle,.bv x70.1.Ask]⟩],[some ⟨104,2,List.map Arc.row x67⟩]⟩:St)) (Z8f x1 x49 x66 x67 x68 x69 x70) y2 ?_ fun J4=>?_
      ·intro x71 h;rw [Z8f] at h;(try dsimp only);refine Zj4 h rfl (fun _ h=>?_) fun _ h=>?_
       ·refine Zo2 1 ?_;dsimp only [go_sem];refine An ?_;exact Zt4 J3 (s:=x67) h
       ·refine Zo2 15 ?_;dsimp only [go_sem];refine An ?_;obtain ⟨x72,ex72,h⟩:=Bs h;refine Z33 trivial (Zwe x69.1 x70.1 _ ex72) (h:=?_);refine Zo2 2 ?_;dsimp only [go_sem];refine An ?_
        refine Zh4 (fun (x74:Bool)=>(⟨(.any :: .ptr 0 0 :: .any :: .osl 0 :: .any :: .ptr 1 0 :: .any :: .ptr 2 0 :: .ptr 3 0 :: .any :: .ptr 4 0 :: .any :: .ptr 5 0 :: .any :: .sl 3 (List.map Diner.row x1.Diners) :: .iv (ln Diner.row x1.Diners) :: .iv x47::an 8 (.sl 3 (List.map Diner.row x50) :: .iv (ln Diner.row x50) :: .iv x66::an 33 (.bv x74::an 64 []))),[some ⟨25,[.sl 3 (List.map Diner.row x1.Diners),.sl 5 (List.map Mail.row x1.Mail)]⟩,some ⟨70,[.iv x49.ID,.iv x49.Phase,.sl 8 (List.map Side.row x49.Sides)]⟩,some ⟨70,[.iv x68.ID,.iv x68.Phase,.sl 8 (List.map Side.row x68.Sides)]⟩,some ⟨65,[.iv x69.1.Peer,.iv x69.1.Epoch,.iv x69.1.State,.bv x69.1.Fork,.bv x69.1.Dirty,.bv x69.1.Token,.bv x69.1.Bottle,.bv x69.1.Ask]⟩,some ⟨65,[.iv x70.1.Peer,.iv x70.1.Epoch,.iv x70.1.State,.bv x70.1.Fork,.bv x70.1.Dirty,.bv x70.1.Token,.bv x70.1.Bottle,.bv x70.1.Ask]⟩,some ⟨76,[.iv 1,.iv x69.1.Epoch,.iv 0]⟩],[some ⟨104,2,List.map Arc.row x67⟩]⟩:St)) (Z7f x1 x49 x66 x67 x68 x69 x70) y2 ?_ fun J5=>?_
        ·intro x74 h;rw [Z7f] at h;(try dsimp only);refine Zj4 h rfl (fun _ h=>?_) fun _ h=>?_
         ·refine Zo2 8 ?_;dsimp only [go_sem];refine An ?_;obtain ⟨x75,ex75,h⟩:=Bs h;refine Zo4 Arc.row ex75 trivial rfl rfl rfl ?_;refine Zo2 4 ?_;dsimp only [go_sem];refine An ?_;refine Z54 2 0 rfl rfl rfl ?_;dsimp only [go_sem];exact Zt4 J3 (s:=x75) h
         ·refine Zo2 5 ?_;dsimp only [go_sem];refine An ?_;obtain ⟨x76,ex76,h⟩:=Bs h;refine Z33 trivial (Zwe x70.1 x69.1 _ ex76) (h:=?_);refine Zo2 2 ?_;dsimp only [go_sem];refine An ?_
          refine Zh4 (fun (x78:Bool)=>(⟨(.any :: .ptr 0 0 :: .any :: .osl 0 :: .any :: .ptr 1 0 :: .any :: .ptr 2 0::an 6 (.sl 3 (List.map Diner.row x1.Diners) :: .iv (ln Diner.row x1.Diners) :: .iv x47::an 8 (.sl 3 (List.map Diner.row x50) :: .iv (ln Diner.row x50) :: .iv x66::an 64 (.bv x78::an 33 [])))),[some ⟨25,[.sl 3 (List.map Diner.row x1.Diners),.sl 5 (List.map Mail.row x1.Mail)]⟩,some ⟨70,[.iv x49.ID,.iv x49.Phase,.sl 8 (List.map Side.row x49.Sides)]⟩,some ⟨70,[.iv x68.ID,.iv x68.Phase,.sl 8 (List.map Side.row x68.Sides)]⟩],[some ⟨104,2,List.map Arc.row x67⟩]⟩:St)) (Z6f x49 x66 x67 x68) y2 ?_ fun J6=>?_
          ·intro x78 h;rw [Z6f] at h;(try dsimp only);refine Zj4 h rfl (fun _ h=>?_) fun _ h=>?_
           ·refine Zo2 8 ?_;dsimp only [go_sem];refine An ?_;obtain ⟨x79,ex79,h⟩:=Bs h;refine Zo4 Arc.row ex79 trivial rfl rfl rfl ?_;refine Zo2 4 ?_;dsimp only [go_sem];refine An ?_;refine Z54 2 0 rfl rfl rfl ?_;dsimp only [go_sem];exact Zt4 J3 (s:=x79) h
           ·refine Zo2 3 ?_;dsimp only [go_sem];refine An ?_;exact Zt4 J3 (s:=x67) h
          ·refine Zj4 h rfl (fun _ h=>?_) fun _ h=>?_
           ·refine Zo2 1 ?_;dsimp only [go_sem];refine An ?_;exact Zt4 J6 (s:=x76) h
           ·refine Zo2 5 ?_;dsimp only [go_sem];refine An ?_;refine Zq4 99 h rfl (fun _ h=>?_) fun _ h=>?_
            ·dsimp only [go_sem];refine Zo2 5 ?_;dsimp only [go_sem];refine An ?_;refine Zq4 104 h rfl (fun _ h=>?_) fun _ h=>?_
             ·dsimp only [go_sem];refine Zo2 8 ?_;dsimp only [go_sem];refine An ?_;obtain ⟨x77,ex77,h⟩:=Bs h;refine Z33 trivial (Z2f x1.Mail ((Mail.mk x49.ID x68.ID ((Msg.mk 1 x69.1.Epoch 0)))) _ ex77) (h:=?_);refine Zo2 3 ?_;dsimp only [go_sem];refine An ?_;exact Zt4 J6 (s:=x77) h
             ·dsimp only [go_sem];refine Zo2 12 ?_;dsimp only [go_sem];refine An ?_;exact Zt4 J6 (s:=false) h
            ·dsimp only [go_sem];refine Zo2 17 ?_;dsimp only [go_sem];refine An ?_;exact Zt4 J6 (s:=false) h
        ·refine Zj4 h rfl (fun _ h=>?_) fun _ h=>?_
         ·refine Zo2 1 ?_;dsimp only [go_sem];refine An ?_;exact Zt4 J5 (s:=x72) h
         ·refine Zo2 5 ?_;dsimp only [go_sem];refine An ?_;refine Zq4 68 h rfl (fun _ h=>?_) fun _ h=>?_
          ·dsimp only [go_sem];refine Zo2 5 ?_;dsimp only [go_sem];refine An ?_;refine Zq4 73 h rfl (fun _ h=>?_) fun _ h=>?_
           ·dsimp only [go_sem];refine Zo2 8 ?_;dsimp only [go_sem];refine An ?_;obtain ⟨x73,ex73,h⟩:=Bs h;refine Z33 trivial (Z2f x1.Mail ((Mail.mk x68.ID x49.ID ((Msg.mk 1 x69.1.Epoch 0)))) _ ex73) (h:=?_);refine Zo2 3 ?_;dsimp only [go_sem];refine An ?_;exact Zt4 J5 (s:=x73) h
           ·dsimp only [go_sem];refine Zo2 12 ?_;dsimp only [go_sem];refine An ?_;exact Zt4 J5 (s:=false) h
          ·dsimp only [go_sem];refine Zo2 17 ?_;dsimp only [go_sem];refine An ?_;exact Zt4 J5 (s:=false) h
      ·refine Zq4 47 h rfl (fun _ h=>?_) fun _ h=>?_
       ·dsimp only [go_sem];refine Zo2 11 ?_;dsimp only [go_sem];refine An ?_;exact Zt4 J4 (s:=true) h
       ·dsimp only [go_sem];refine Zo2 4 ?_;dsimp only [go_sem];refine An ?_;refine Zq4 51 h rfl (fun _ h=>?_) fun _ h=>?_
        ·dsimp only [go_sem];refine Zo2 7 ?_;dsimp only [go_sem];refine An ?_;exact Zt4 J4 (s:=true) h
        ·dsimp only [go_sem];refine Zo2 7 ?_;dsimp only [go_sem];refine An ?_;exact Zt4 J4 (s:=!decide (x69.1.Epoch=x70.1.Epoch)) h
    ·refine Zo2 1 ?_;dsimp only [go_sem];refine An ?_;exact Zt4 J2 (s:=x67) (Zg4 h hout2)
  ·refine Zo2 1 ?_;dsimp only [go_sem];refine An ?_;exact Zt4 J1 (s:=x48) (Zg4 h hout1)
theorem k_place_Arcs (x1:Scene) (r:(List Arc)) (h:Zbf x1=some r):Zu2 Tryz.prog 27 [.agg (Scene.row x1)] (.sl 2 (List.map Arc.row r)):=(o_place_Arcs x1 r h).sealed
theorem Zcf (l:List Mail) (x:Mail) (hl:l.length≤1000000):Z1f l x=some (decide (x∈l)):=by
 have h1:Zze l x=some (plc (l.findIdx? fun y=>decide (x=y))):=by
  unfold Zze
  refine Z76 l _ (fun y=>decide (x=y)) (by omega) (fun k y hy=>?_) ?_
  ·simp only [Zye,Z06 hy,Zu5,Zy5 hy,Option.bind_some,Mail_eqB,Z36 hy (show l.length≤4000000000000000000 by omega)]
   cases decide (x=y)<;>rfl
  ·simp only [Zye,Z16,Zv5,Zxe,Option.map_some]
 simp only [Z1f,h1,Option.bind_some,Z56,Z86]
 congr 1
 rw [Bool.eq_iff_iff,List.any_eq_true,decide_eq_true_iff]
 constructor
 ·rintro ⟨y,hy,h⟩
  have:x=y:=by simpa using h
  exact this ▸ hy
 ·intro h;exact ⟨x,h,by simp⟩
def Zdf (x y:Side):Bool:=(x.Fork&&!x.Dirty)||(!x.Fork&&(y.Fork&&y.Dirty))
theorem Zef (x y:Side):Zve x y=some (Zdf x y):=by
 unfold Zve Zue Zdf
 cases x.Fork<;>cases x.Dirty<;>cases y.Fork<;>cases y.Dirty<;>rfl
def Zff (a b:Diner) (e:Int):Mail:=⟨a.ID,b.ID,⟨1,e,0⟩⟩
def Zgf (mail:List Mail) (a b:Diner):List Arc:=
 match Zw7 a b.ID,Zw7 b a.ID with
 | some x,some y=>if decide (x.Epoch=y.Epoch) then
    (if Zdf x y||(!x.Fork&&(!y.Fork&&decide (Zff b a x.Epoch∈mail))) then [⟨a.ID,b.ID⟩] else
     if Zdf y x||(!x.Fork&&(!y.Fork&&decide (Zff a b x.Epoch∈mail))) then [⟨b.ID,a.ID⟩] else []) else []
 | _,_=>[]
theorem Zhf (mail:List Mail) (a b:Diner):(Zgf mail a b).length≤1:=by
 unfold Zgf
 split
 ·split
  ·split
   ·simp
   ·split<;>simp
  ·simp
 ·simp
theorem flat_len (mail:List Mail) (a:Diner) (l:List Diner):(l.flatMap (Zgf mail a)).length≤l.length:=by
 induction l with
 | nil=>simp
 | cons b l ih=>have:=Zhf mail a b;rw [List.flatMap_cons,List.length_append,List.length_cons];omega
def Zif (mail:List Mail) (l:List Diner):Nat→List Arc
 | 0=>[]
 | k+1=>Zif mail l k++(match l[k]? with | some a=>(l.drop (k+1)).flatMap (Zgf mail a) | none=>[])
def Zjf (s:Scene):List Arc:=Zif s.Mail s.Diners s.Diners.length
theorem arcsTo_len (mail:List Mail) (l:List Diner) (k:Nat):(Zif mail l k).length≤k*l.length:=by
 induction k with
 | zero=>simp [Zif]
 | succ k ih=>
   simp only [Zif,List.length_append,Nat.add_mul,Nat.one_mul]
   have:(match l[k]? with | some a=>(l.drop (k+1)).flatMap (Zgf mail a) | none=>[]).length≤l.length:=by
    split
    ·rename_i a _
     have:=flat_len mail a (l.drop (k+1))
     simp only [List.length_drop] at this
     omega
    ·simp
   omega
theorem arcs_small {s:Scene} (hl:Zv7 s.Diners) {k:Nat} (hk:k≤s.Diners.length):(Zif s.Mail s.Diners k).length≤25000000:=by
 have h1:=arcsTo_len s.Mail s.Diners k
 have h2:k*s.Diners.length≤5000*5000:=Nat.mul_le_mul (by have:=hl.1;omega) hl.1
 omega
theorem s_Arcs2 (s:Scene) (_:Zv7 s.Diners) (hm:s.Mail.length≤5000) (i:Nat) (a:Diner) (ha:a.Sides.length≤5000) (r:List Diner) (hr:∀d∈r,d.Sides.length≤5000) (hrl:r.length≤5000) (hi:i≤5000) (E:List Arc) (hE:E.length≤25000000):
  loop (Z9f s i a r) (0,E)=some (.inl (((i+1:Nat):Int),E++r.flatMap (Zgf s.Mail a))):=by
 have key:=Zm7 r (Z9f s i a r) (fun pre=>((pre.length:Int),E++pre.flatMap (Zgf s.Mail a))) (.inl (((i+1:Nat):Int),E++r.flatMap (Zgf s.Mail a))) ?_ ?_
 ·simpa using key
 ·intro pre b post h
  have hx:=Zn7 h
  have hml:=Zo7 h
  have hb:=hr b (Zp7 h)
  have hfl:=flat_len s.Mail a pre
  dsimp only [Z9f]
  rw [Z06 hx,Zu5,Zy5 hx,Option.bind_some,Zy7 a b.ID (by omega),Option.bind_some,Zy7 b a.ID (by omega),Option.bind_some,Zr7,List.flatMap_append,List.flatMap_singleton,←List.append_assoc]
  have hacc:(E++pre.flatMap (Zgf s.Mail a)).length≤25005000:=by rw [List.length_append];omega
  generalize E++pre.flatMap (Zgf s.Mail a)=acc at hacc ⊢
  have next:∀(q:List Arc),Z5f (pre.length:Int) q=some (.inl (((pre.length+1:Nat):Int),q)):=fun q=>by
   dsimp only [Z5f];rw [Z26 (by omega)]
  unfold Zgf
  cases h1:Zw7 a b.ID with
  | none=>simp only [sideP,Bool.not_false,Zu5,Z8f,next,List.append_nil]
  | some x=>
    cases h2:Zw7 b a.ID with
    | none=>simp only [sideP,Bool.not_false,Bool.not_true,Zv5,Zu5,Z8f,next,List.append_nil]
    | some y=>
      have p1:=Zcf s.Mail (Zff b a x.Epoch) (by omega)
      have p2:=Zcf s.Mail (Zff a b x.Epoch) (by omega)
      unfold Zff at p1 p2
      have ap:∀(z:Arc),Za4 16 acc [z]=some (acc++[z]):=fun z=>Zz5 _ _ (by omega) (by simp only [List.length_singleton];omega)
      unfold Zff
      by_cases h3:x.Epoch=y.Epoch
      ·simp only [sideP,Bool.not_true,Zv5,Z8f,h3,decide_true,Zef,Option.bind_some]
       rw [h3] at p1 p2
       have e6:∀z,Z6f a (pre.length:Int) acc b z=some (.inl (((pre.length+1:Nat):Int),acc++(if z then [⟨b.ID,a.ID⟩] else []))):=by
        intro z
        cases z
        ·simp only [Z6f,Zv5,next];simp
        ·simp only [Z6f,Zu5,ap,Option.bind_some,next];simp
       have e5:∀z,Z7f s a (pre.length:Int) acc b (x,true) (y,true) z=some (.inl (((pre.length+1:Nat):Int),acc++(if z then [⟨a.ID,b.ID⟩] else if Zdf y x||(!x.Fork&&(!y.Fork&&decide ((⟨a.ID,b.ID,⟨1,y.Epoch,0⟩⟩:Mail)∈s.Mail))) then [⟨b.ID,a.ID⟩] else []))):=by
        intro z
        cases z
        ·simp only [Z7f,Zv5,Zef,Option.bind_some,h3,p2,e6]
         cases Zdf y x<;>cases x.Fork<;>cases y.Fork<;>rfl
        ·simp only [Z7f,Zu5,ap,Option.bind_some,next];simp
       simp only [p1,Option.bind_some,e5,if_true]
       cases Zdf x y<;>cases x.Fork<;>cases y.Fork<;>rfl
      ·simp only [sideP,Bool.not_true,Zv5,Z8f,h3,decide_false,Bool.not_false,Zu5,next]
       simp
 ·dsimp only [Z9f]
  rw [Z16,Zv5,Z4f,Z26 (by omega)];rfl
theorem sub_rest {α:Type} {f:α→List AV} {l:List α} {i:Nat} (h:i<l.length) (hl:l.length≤5000):Zb4 l (wr ((i:Int)+1)) (ln f l)=some (l.drop (i+1)):=by
 rw [Z26 (by omega),Z05]
 unfold Zb4
 rw [if_pos ⟨by omega,by omega,by omega⟩]
 simp
theorem s_Arcs (s:Scene) (hl:Zv7 s.Diners) (hm:s.Mail.length≤5000):Zbf s=some (Zjf s):=by
 unfold Zbf
 have hll:=hl.1
 refine Zs7 s.Diners.length (Zaf s) (fun k=>((k:Int),Zif s.Mail s.Diners k)) (Zjf s) (fun k hk=>?_) ?_
 ·have hx:s.Diners[k]?=some s.Diners[k]:=List.getElem?_eq_getElem hk
  dsimp only [Zaf]
  rw [Z06 hx,Zu5,Zy5 hx,Option.bind_some,sub_rest hk hll,Option.bind_some,
   s_Arcs2 s hl hm k _ (hl.2 _ (List.getElem_mem hk)) _ (fun d hd=>hl.2 d (List.mem_of_mem_drop hd)) (by simp;omega) (by omega) _ (arcs_small hl (by omega))]
  simp only [Zif,hx]
 ·dsimp only [Zaf]
  rw [Z16,Zv5];rfl
def keyA (z:Arc):Edge:=⟨min z.From z.To,max z.From z.To⟩
theorem mem_drop {α:Type} {l:List α} {n:Nat} {b:α}:b∈l.drop n↔∃j,n≤j∧l[j]?=some b:=by
 rw [List.mem_iff_getElem?]
 constructor
 ·rintro ⟨i,hi⟩
  rw [List.getElem?_drop] at hi
  exact ⟨n+i,by omega,hi⟩
 ·rintro ⟨j,hj,h⟩
  exact ⟨j-n,by rw [List.getElem?_drop,show n+(j-n)=j by omega];exact h⟩
theorem Zkf {mail:List Mail} {l:List Diner} {z:Arc}:∀ {k:Nat},z∈Zif mail l k↔∃i j a b,i<k∧i<j∧l[i]?=some a∧l[j]?=some b∧z∈Zgf mail a b
 | 0=>by simp [Zif]
 | k+1=>by
   simp only [Zif,List.mem_append,Zkf (k:=k)]
   constructor
   ·rintro (⟨i,j,a,b,h1,h2,h3,h4,h5⟩ | h)
    ·exact ⟨i,j,a,b,by omega,h2,h3,h4,h5⟩
    ·split at h
     ·rename_i a ha
      obtain ⟨b,hb,hz⟩:=List.mem_flatMap.1 h
      obtain ⟨j,hj,hb⟩:=mem_drop.1 hb
      exact ⟨k,j,a,b,by omega,by omega,ha,hb,hz⟩
     ·simp at h
   ·rintro ⟨i,j,a,b,h1,h2,h3,h4,h5⟩
    by_cases hi:i=k
    ·subst hi
     right
     rw [h3]
     exact List.mem_flatMap.2 ⟨b,mem_drop.2 ⟨j,by omega,h4⟩,h5⟩
    ·exact .inl ⟨i,j,a,b,by omega,h2,h3,h4,h5⟩
theorem flat_pw {mail:List Mail} {a:Diner} {i:Int}:∀ {r:List Diner} {n:Int},(∀(m:Nat) b,r[m]?=some b→∀z∈Zgf mail a b,keyA z=⟨i,n+m⟩)→((r.flatMap (Zgf mail a)).map keyA).Pairwise fun x y=>x.lt y=true
 | [],_,_=>List.Pairwise.nil
 | b::r,n,h=>by
   rw [List.flatMap_cons,List.map_append,List.pairwise_append]
   have h0:=h 0 b (by simp)
   have hr:∀(m:Nat) c,r[m]?=some c→∀z∈Zgf mail a c,keyA z=⟨i,n+1+m⟩:=fun m c hc z hz=>by
    rw [h (m+1) c (by simpa using hc) z hz]
    congr 1
    omega
   refine ⟨?_,flat_pw hr,fun x hx y hy=>?_⟩
   ·have hl:=Zhf mail a b
    match hq:Zgf mail a b with
    | []=>exact List.Pairwise.nil
    | [z]=>simp
    | z::z'::w=>rw [hq] at hl;simp at hl
   ·obtain ⟨z,hz,rfl⟩:=List.mem_map.1 hx
    obtain ⟨z',hz',rfl⟩:=List.mem_map.1 hy
    obtain ⟨c,hc,hz'⟩:=List.mem_flatMap.1 hz'
    obtain ⟨m,hm⟩:=List.mem_iff_getElem?.1 hc
    rw [h0 z hz,hr m c hm z' hz']
    simp only [Edge.lt]
    have:(n+((0:Nat):Int))<n+1+(m:Int):=by omega
    rw [decide_eq_true this];simp
theorem arcsTo_pw {mail:List Mail} {l:List Diner} (h:∀(i j:Nat) a b,i<j→l[i]?=some a→l[j]?=some b→∀z∈Zgf mail a b,keyA z=⟨i,j⟩):∀k,((Zif mail l k).map keyA).Pairwise fun x y=>x.lt y=true
 | 0=>List.Pairwise.nil
 | k+1=>by
   rw [Zif,List.map_append,List.pairwise_append]
   refine ⟨arcsTo_pw h k,?_,fun x hx y hy=>?_⟩
   ·split
    ·rename_i a ha
     refine flat_pw (i:=k) (n:=((k+1:Nat):Int)) fun m b hb z hz=>?_
     rw [List.getElem?_drop] at hb
     rw [h k (k+1+m) a b (by omega) ha hb z hz]
     congr 1
    ·exact List.Pairwise.nil
   ·obtain ⟨z,hz,rfl⟩:=List.mem_map.1 hx
    obtain ⟨z',hz',rfl⟩:=List.mem_map.1 hy
    obtain ⟨i,j,a,b,h1,h2,h3,h4,h5⟩:=Zkf.1 hz
    split at hz'
    ·rename_i a' ha'
     obtain ⟨b',hb',hz'⟩:=List.mem_flatMap.1 hz'
     obtain ⟨j',hj',hb'⟩:=mem_drop.1 hb'
     rw [h i j a b h2 h3 h4 z h5,h k j' a' b' (by omega) ha' hb' z' hz']
     simp only [Edge.lt]
     have:(i:Int)<k:=by omega
     simp [this]
    ·simp at hz'
theorem ch_mem {M:List Mail} {a b k:Int} (h:k∈ch M a b):∃m∈M,m.From=a∧m.To=b∧m.Msg.Kind=k:=by
 unfold ch at h
 obtain ⟨m,hm,rfl⟩:=List.mem_map.1 h
 obtain ⟨h1,h2⟩:=List.mem_filter.1 hm
 simp only [Bool.and_eq_true,decide_eq_true_eq] at h2
 exact ⟨m,h1,h2.1,h2.2,rfl⟩
theorem mem_ch {M:List Mail} {m:Mail} (h:m∈M):m.Msg.Kind∈ch M m.From m.To:=by
 unfold ch
 exact List.mem_map_of_mem (List.mem_filter.2 ⟨h,by simp⟩)
theorem fork_mail {g:Graph} {s:Scene} (hi:Inv g s) (a b:Int):decide ((⟨a,b,⟨1,1,0⟩⟩:Mail)∈s.Mail)=decide ((1:Int)∈ch s.Mail a b):=by
 rw [decide_eq_decide]
 constructor
 ·intro h;exact mem_ch h
 ·intro h
  obtain ⟨m,hm,h1,h2,h3⟩:=ch_mem h
  obtain ⟨_,e1,e2,_⟩:=hi.mail m hm
  obtain ⟨p,q,k,e,n⟩:=m
  dsimp only at h1 h2 h3 e1 e2
  subst h1;subst h2;subst h3;subst e1;subst e2
  exact hm
theorem Zlf {g:Graph} {s:Scene} {r:Nat→Int} (hg:okG g=true) (hi:Inv g s) (he:Zte r s) {a b:Nat} {da db:Diner} (ha:s.Diners[a]?=some da) (hb:s.Diners[b]?=some db):
  ((b:Int)∈Zo9 g a→(Zgf s.Mail da db=[⟨a,b⟩]∧r b<r a)∨(Zgf s.Mail da db=[⟨b,a⟩]∧r a<r b))∧((b:Int)∉Zo9 g a→Zgf s.Mail da db=[]):=by
 have ia:=(hi.shp a da ha).1
 have ib:=(hi.shp b db hb).1
 constructor
 ·intro hn
  obtain ⟨x,hx,xm⟩:=hi.sided (a:=(a:Int)) (by omega) (by rw [Int.toNat_natCast];exact ha) hn
  obtain ⟨y,hy,ym⟩:=hi.sided (a:=(b:Int)) (by omega) (by rw [Int.toNat_natCast];exact hb) (Zz9 hg hn)
  have hE:=he a b da db x y ha hb hx hy
  have lx:=(hi.loc da (List.mem_iff_getElem?.2 ⟨_,ha⟩)).side x xm
  have ly:=(hi.loc db (List.mem_iff_getElem?.2 ⟨_,hb⟩)).side y ym
  have f1:=fork_mail hi b a
  have f2:=fork_mail hi a b
  unfold Zgf Zff
  rw [ia,ib,hx,hy]
  dsimp only
  rw [lx.1,ly.1,decide_eq_true rfl,if_pos rfl,f1,f2]
  unfold Zdf
  rcases hE with ⟨h1,h2,h3,h4,h5,h6⟩ | ⟨h1,h2,h3,h4,h5,h6⟩
  ·have n1:decide ((1:Int)∈ch s.Mail a b)=false:=by rw [h1];simp
   rcases h6 with ⟨k1,_,_⟩ | ⟨k1,k2,k3,k4⟩
   ·cases hd:x.Dirty with
    | true=>right;exact ⟨by simp [h2,k1],h4 (by simp [k1,hd])⟩
    | false=>left;exact ⟨by simp [k1],h5 (by simp [hd])⟩
   ·left
    have m1:decide ((1:Int)∈ch s.Mail b a)=true:=by
     rcases k4 with ⟨_,k4⟩ | ⟨_,k4⟩<;>rw [k4]<;>simp
    exact ⟨by simp [k1,h2,m1],h5 (by simp [k1])⟩
  ·have n1:decide ((1:Int)∈ch s.Mail b a)=false:=by rw [h1];simp
   rcases h6 with ⟨k1,_,_⟩ | ⟨k1,k2,k3,k4⟩
   ·cases hd:y.Dirty with
    | true=>left;exact ⟨by simp [h2,k1],h4 (by simp [k1,hd])⟩
    | false=>right;exact ⟨by simp [h2,k1,n1],h5 (by simp [hd])⟩
   ·right
    have m1:decide ((1:Int)∈ch s.Mail a b)=true:=by
     rcases k4 with ⟨_,k4⟩ | ⟨_,k4⟩<;>rw [k4]<;>simp
    exact ⟨by simp [k1,h2,m1,n1],h5 (by simp [k1])⟩
 ·intro hn
  have:Zw7 da (b:Int)=none:=by
   have h1:(Zw7 da (b:Int)).isSome=false:=by rw [Z0b,(hi.shp a da ha).2];exact decide_eq_false hn
   exact Option.isNone_iff_eq_none.1 (by simpa using h1)
  unfold Zgf
  rw [ib,this]
theorem arcs_key {g:Graph} {s:Scene} {r:Nat→Int} (hg:okG g=true) (hi:Inv g s) (he:Zte r s):(Zjf s).map keyA=g.Edges:=by
 obtain ⟨g1,g2,g3,g4,g5⟩:=Zd7 hg
 have hl:=hi.len
 have hk:∀(i j:Nat) a b,i<j→s.Diners[i]?=some a→s.Diners[j]?=some b→∀z∈Zgf s.Mail a b,keyA z=⟨i,j⟩∧(j:Int)∈Zo9 g i:=fun i j a b hij ha hb z hz=>by
  obtain ⟨p1,p2⟩:=Zlf hg hi he ha hb
  by_cases hn:(j:Int)∈Zo9 g i
  ·refine ⟨?_,hn⟩
   rcases p1 hn with ⟨q,_⟩ | ⟨q,_⟩
   ·rw [q] at hz;simp only [List.mem_singleton] at hz;subst hz
    simp only [keyA,Edge.mk.injEq];omega
   ·rw [q] at hz;simp only [List.mem_singleton] at hz;subst hz
    simp only [keyA,Edge.mk.injEq];omega
  ·rw [p2 hn] at hz;simp at hz
 refine pw_ext (R:=fun x y=>x.lt y=true) Edge.lt_irr (fun x y h1 h2=>Edge.lt_irr x (Edge.lt_trans h1 h2)) (arcsTo_pw (fun i j a b hij ha hb z hz=>(hk i j a b hij ha hb z hz).1) _) (okG_pw hg) fun e=>?_
 constructor
 ·intro h
  obtain ⟨z,hz,rfl⟩:=List.mem_map.1 h
  obtain ⟨i,j,a,b,h1,h2,h3,h4,h5⟩:=Zkf.1 hz
  obtain ⟨k1,k2⟩:=hk i j a b h2 h3 h4 z h5
  rw [k1]
  rcases (Zr9 hg).1 k2 with h | h
  ·exact h
  ·have:=g4 _ h;dsimp only at this;omega
 ·intro h
  obtain ⟨e1,e2,e3⟩:=g4 e h
  have hn:e.B∈Zo9 g e.A:=(Zr9 hg).2 (.inl h)
  obtain ⟨a,ha⟩:=hi.get e1 (by omega)
  obtain ⟨b,hb⟩:=hi.get (show 0≤e.B by omega) e3
  have ea:((e.A.toNat:Nat):Int)=e.A:=Int.toNat_of_nonneg e1
  have eb:((e.B.toNat:Nat):Int)=e.B:=Int.toNat_of_nonneg (by omega)
  obtain ⟨p1,_⟩:=Zlf hg hi he ha hb
  rw [ea,eb] at p1
  have hm:∀z,Zgf s.Mail a b=[z]→z∈Zjf s:=fun z hz=>Zkf.2 ⟨e.A.toNat,e.B.toNat,a,b,by omega,by omega,ha,hb,by rw [hz];simp⟩
  rcases p1 hn with ⟨q,_⟩ | ⟨q,_⟩
  ·refine List.mem_map.2 ⟨_,hm _ q,?_⟩
   obtain ⟨A,B⟩:=e
   simp only [keyA,Edge.mk.injEq]
   dsimp only at e2
   omega
  ·refine List.mem_map.2 ⟨_,hm _ q,?_⟩
   obtain ⟨A,B⟩:=e
   simp only [keyA,Edge.mk.injEq]
   dsimp only at e2
   omega
theorem arcs_rank {g:Graph} {s:Scene} {r:Nat→Int} (hg:okG g=true) (hi:Inv g s) (he:Zte r s) {z:Arc} (hz:z∈Zjf s):
  0≤z.From∧z.From<g.N∧0≤z.To∧z.To<g.N∧z.To∈Zo9 g z.From∧r z.To.toNat<r z.From.toNat:=by
 have hl:=hi.len
 obtain ⟨i,j,a,b,h1,h2,h3,h4,h5⟩:=Zkf.1 hz
 have hj:=(List.getElem?_eq_some_iff.1 h4).1
 obtain ⟨p1,p2⟩:=Zlf hg hi he h3 h4
 by_cases hn:(j:Int)∈Zo9 g i
 ·rcases p1 hn with ⟨q,k⟩ | ⟨q,k⟩
  ·rw [q] at h5;simp only [List.mem_singleton] at h5;subst h5
   exact ⟨by dsimp only;omega,by dsimp only;omega,by dsimp only;omega,by dsimp only;omega,hn,by simpa using k⟩
  ·rw [q] at h5;simp only [List.mem_singleton] at h5;subst h5
   exact ⟨by dsimp only;omega,by dsimp only;omega,by dsimp only;omega,by dsimp only;omega,Zz9 hg hn,by simpa using k⟩
 ·rw [p2 hn] at h5;simp at h5
theorem arcs_nd {g:Graph} {s:Scene} {r:Nat→Int} (hg:okG g=true) (hi:Inv g s) (he:Zte r s):(Zjf s).Nodup:=by
 have h:=okG_pw hg
 rw [←arcs_key hg hi he,List.pairwise_map] at h
 refine List.Pairwise.imp (R:=fun a b=>(keyA a).lt (keyA b)=true) ?_ h
 intro x y hxy e
 rw [e] at hxy
 exact Edge.lt_irr _ hxy
theorem arcs_len {g:Graph} {s:Scene} {r:Nat→Int} (hg:okG g=true) (hi:Inv g s) (he:Zte r s):(Zjf s).length=g.Edges.length:=by
 rw [←arcs_key hg hi he,List.length_map]
set_option maxRecDepth 100000
set_option maxHeartbeats 4000000
@[go_sem] def e92:EC:=.seq (.reg [(Qa 3 (.mv (.c .ff)))]) (.seq (.reg [(Qm 4 0),(Qa 5 (.bin .leq (.c (.iv 0)) (.t 4))),(Qm 6 5),(Qg 7 6 true (.mv (.t 0))),(Qn 8 6 true 1),(Qg 9 6 true (.bin .lss (.t 7) (.t 8))),(Qp 10 6 9),(Qm 3 10)]) (.ret))
theorem ok92:FnOK Tryz.prog 92 Tryz.f92 e92 [.t 3] 2 9:=⟨by kernel_rfl,⟨_,rfl,by kernel_rfl⟩,by kernel_rfl,by kernel_rfl⟩
noncomputable def Zmf:Bool→Option Bool
| x3=>
 some x3
noncomputable def Znf (x1:Int) (x2:Int):Option Bool:=
 ifb (decide (0≤x1)) (
 Zmf (decide (x1<x2))) (
 Zmf false)
theorem Zof (x1:Int) (x2:Int) (r:Bool) (h:Znf x1 x2=some r):Zu2 Tryz.prog 92 [.iv x1,.elt (Zx4 x2) 0] (.bv r):=by
 refine Zy2 ok92 rfl rfl fun w0 H0=>?_
 rw [Znf] at h
 refine Zo2 9 ?_;dsimp only [go_sem];refine An ?_;refine Zh4 (fun (x3:Bool)=>(⟨(an 3 (.bv x3::an 7 [])),[],[]⟩:St)) Zmf r ?_ fun J1=>?_
 ·intro x3 h;rw [Zmf] at h;(try dsimp only);exact Zr4 (res:=fun (r:Bool)=>.bv r) ok92 h
 ·refine Zq4 6 h rfl (fun _ h=>?_) fun _ h=>?_
  ·dsimp only [go_sem];refine Zo2 6 ?_;dsimp only [go_sem];refine An ?_;exact Zt4 J1 (s:=decide (x1<x2)) h
  ·dsimp only [go_sem];refine Zo2 6 ?_;dsimp only [go_sem];refine An ?_;exact Zt4 J1 (s:=false) h
set_option maxRecDepth 100000
set_option maxHeartbeats 4000000
@[go_sem] def e118_L0:EC:=.seq (.reg [(Qa 9 (.bin .lss (.t 8) (.t 7)))]) (.seq (.ite (.t 9) (.skip) (.exit 0)) (.seq (.blk 1 (.seq (.reg [(Qm 10 8),(Qm 5 10)]) (.seq (.drw [(Qe 11 2 3),(Qm 12 0),(Qm 13 5),(Qk 14 2 12 13),(Qe 15 2 14),(Qa 16 (.eqs false [true,true] (.t 11) (.t 15)))] [[],[],[],[1,2],[3],[0,4]] [[5],[3],[3],[1,2,4],[3,5],[0,4]]) (.ite (.t 16) (.seq (.reg [(Qm 17 5),(Qm 4 17)]) (.ret)) (.skip))))) (.reg [(Qv 18 8 1),(Qm 8 18)])))
@[go_sem] def e118:EC:=.seq (.reg [(Qx 3 104 2 1),(Qi 4 0)]) (.seq (.seq (.reg [(Qm 6 0),(Qa 7 (.len (.t 6))),(Qi 8 0)]) (.blk 0 (.loop e118_L0))) (.seq (.reg [(Qa 4 (.mv (.c (.iv (-1)))))]) (.ret)))
theorem ok118:FnOK Tryz.prog 118 Tryz.f118 e118 [.t 4] 2 17:=⟨by kernel_rfl,⟨_,rfl,by kernel_rfl⟩,by kernel_rfl,by kernel_rfl⟩
noncomputable def Zpf:Unit→Option Int
| ()=>
 some (-1)
noncomputable def Zqf (x1:(List Arc)) (x2:Arc):Int→Option (Int ⊕ Int)
| x5=>
 ifb (decide (x5<(ln Arc.row x1))) (
 (at_ x1 x5).bind fun x6=>
 ifb (decide (x2.From=x6.From)&&(decide (x2.To=x6.To)&&true)) (
 Option.map Sum.inr (some x5)) (
 some (.inl (wr (x5+1))))) (
 Option.map Sum.inr (Zpf ()))
noncomputable def Zrf (x1:(List Arc)) (x2:Arc):Option Int:=
 loop (Zqf x1 x2) 0
theorem Zsf (x1:(List Arc)) (x2:Arc) (r:Int) (h:Zrf x1 x2=some r):Zu2 Tryz.prog 118 [.sl 2 (List.map Arc.row x1),.agg (Arc.row x2)] (.iv r):=by
 refine Zy2 ok118 rfl rfl fun w0 H0=>?_
 rw [Zrf] at h
 refine Zo2 12 ?_;dsimp only [go_sem];refine An ?_;refine Zh4 (fun (_:Unit)=>(⟨(an 19 []),[],[]⟩:St)) Zpf r ?_ fun J1=>?_
 ·rintro ⟨⟩ h;rw [Zpf] at h;(try dsimp only);refine Zo2 4 ?_;dsimp only [go_sem];refine An ?_;exact Zr4 (res:=fun (r:Int)=>.iv r) ok118 h
 ·refine Zo2 1 ?_;dsimp only [go_sem];refine An ?_;refine Zi4 h (fun (x5:Int)=>(⟨(.sl 2 (List.map Arc.row x1) :: .any :: .any :: .ptr 0 0::an 3 (.iv (ln Arc.row x1) :: .iv x5::an 10 [])),[some ⟨104,[.iv x2.From,.iv x2.To]⟩],[]⟩:St)) (by simp [go_sem]) (by intro x5;first | rfl | simp [go_sem]) ?_;rintro n1 x5 y1 h hin1 hout1;rw [Zqf] at h;(try dsimp only);refine Zo2 5 ?_;dsimp only [go_sem];refine An ?_;refine Zj4 h rfl (fun _ h=>?_) fun _ h=>?_
  ·refine Zo2 9 ?_;dsimp only [go_sem];refine An ?_;refine Zj3 (by kernel_rfl) fun all hall hs hnap haf=>?_;dsimp only [go_sem];refine Z75 hall hs haf hnap 3 3 ?_;dsimp only [go_sem];refine An ?_;obtain ⟨x6,ex6,h⟩:=Bs h;refine Zn4 hall hs haf hnap 3 Arc.row ex6 rfl rfl trivial rfl rfl rfl rfl ?_;refine Z75 hall hs haf hnap 2 0 ?_;dsimp only [go_sem];refine An ?_;refine Zt3 rfl ?_ _;refine Zj4 h rfl (fun _ h=>?_) fun _ h=>?_
   ·refine Zo2 5 ?_;dsimp only [go_sem];refine An ?_;exact Zr4 (res:=fun (r:Int)=>.iv r) ok118 (Zg4 h hout1)
   ·refine Zo2 6 ?_;dsimp only [go_sem];refine An ?_;exact Zs4 h hin1
  ·refine Zo2 1 ?_;dsimp only [go_sem];refine An ?_;exact Zt4 J1 (s:=()) (Zg4 h hout1)
set_option maxRecDepth 100000
set_option maxHeartbeats 4000000
@[go_sem] def e93:EC:=.seq (.reg [(Qx 3 104 2 1),(Qa 4 (.mv (.c .ff)))]) (.seq (.reg [(Qm 5 0),(Qe 6 2 3),(Qa 7 (.call 118 [(.t 5),(.t 6)])),(Qa 8 (.bin .geq (.t 7) (.c (.iv 0)))),(Qm 4 8)]) (.ret))
theorem ok93:FnOK Tryz.prog 93 Tryz.f93 e93 [.t 4] 2 7:=⟨by kernel_rfl,⟨_,rfl,by kernel_rfl⟩,by kernel_rfl,by kernel_rfl⟩
noncomputable def Ztf (x1:(List Arc)) (x2:Arc):Option Bool:=
 (Zrf x1 x2).bind fun x3=>
 some (decide (0≤x3))
theorem Zuf (x1:(List Arc)) (x2:Arc) (r:Bool) (h:Ztf x1 x2=some r):Zu2 Tryz.prog 93 [.sl 2 (List.map Arc.row x1),.agg (Arc.row x2)] (.bv r):=by
 refine Zy2 ok93 rfl rfl fun w0 H0=>?_
 rw [Ztf] at h
 refine Zo2 9 ?_;dsimp only [go_sem];refine An ?_;obtain ⟨x3,ex3,h⟩:=Bs h;refine Z33 trivial (Zsf x1 x2 _ ex3) (h:=?_);refine Zo2 3 ?_;dsimp only [go_sem];refine An ?_;exact Zr4 (res:=fun (r:Bool)=>.bv r) ok93 h
set_option maxRecDepth 100000
set_option maxHeartbeats 4000000
@[go_sem] def e62_L0:EC:=.seq (.reg [(Qa 23 (.bin .lss (.t 22) (.t 21)))]) (.seq (.ite (.t 23) (.skip) (.exit 0)) (.seq (.blk 1 (.seq (.reg [(Qm 24 22),(Qk 25 2 20 22),(Qe 26 2 25),(Qa 7 (.alloc 104 [.iv 0,.iv 0])),(Qm 6 24),(Qs 2 7 26)]) (.seq (.drw [(Qm 27 5),(Qf 28 0 7),(Ql 29 28),(Qa 30 (.callv (.t 27) [(.t 29)])),(Qa 31 (.not (.t 30))),(Qm 32 31),(Qg 33 32 false (.mv (.t 5))),(Qh 34 32 false 1 7),(Qn 35 32 false 34),(Qg 36 32 false (.callv (.t 33) [(.t 35)])),(Qg 37 32 false (.not (.t 36))),(Qq 38 32 37),(Qm 39 38),(Qh 40 39 false 0 7),(Qn 41 39 false 40),(Qh 42 39 false 1 7),(Qn 43 39 false 42),(Qg 44 39 false (.bin .eql (.t 41) (.t 43))),(Qq 45 39 44),(Qm 46 45),(Qg 47 46 false (.mv (.t 1))),(Qg 48 46 false (.mv (.t 6))),(Qg 49 46 false (.slice 2 (.t 47) none (some (.t 48)))),(Qg 50 46 false (.loadA 2 (.t 7))),(Qg 51 46 false (.call 93 [(.t 49),(.t 50)])),(Qq 52 46 51)] [[],[],[1],[0,2],[3],[4,3],[5],[5],[7,5],[6,8,5,5],[9,5],[5,10],[11,9],[12],[13,12],[12],[15,12],[14,16,12],[12,17],[18,12],[19],[19],[20,21,19],[19],[22,23,19,19],[19,24]] [[3],[2],[1,3],[0,2,4],[3,5],[4,6,7,8,9,10,11],[5,9],[5,8],[5,7,9],[5,6,8,10],[5,9,11],[5,10,12],[11,13,14,15,16,17,18],[12,14],[12,13,17],[12,16],[12,15,17],[12,14,16,18],[12,17,19],[18,20,21,22,23,24,25],[19,22],[19,22],[19,20,21,24],[19,24],[19,22,23,25],[19,24]]) (.ite (.t 52) (.seq (.reg [(Qi 4 40)]) (.ret)) (.skip))))) (.reg [(Qv 53 22 1),(Qm 22 53)])))
@[go_sem] def e62:EC:=.seq (.reg [(Qx 2 3 1 0),(Qi 4 0)]) (.seq (.reg [(Qa 8 (.mkf 92 [(.t 2)])),(Qm 5 8)]) (.seq (.seq (.reg [(Ql 9 2),(Qa 10 (.bin .lss (.t 9) (.c (.iv 0)))),(Qm 11 10),(Qn 12 11 false 2),(Qg 13 11 false (.bin .gtr (.t 12) (.c (.iv 64)))),(Qq 14 11 13),(Qm 15 14),(Qg 16 15 false (.mv (.t 1))),(Qg 17 15 false (.len (.t 16))),(Qg 18 15 false (.bin .gtr (.t 17) (.c (.iv 400)))),(Qq 19 15 18)]) (.ite (.t 19) (.seq (.reg [(Qi 4 40)]) (.ret)) (.skip))) (.seq (.seq (.reg [(Qm 20 1),(Qa 21 (.len (.t 20))),(Qi 22 0)]) (.blk 0 (.loop e62_L0))) (.seq (.reg [(Qi 4 0)]) (.ret)))))
theorem ok62:FnOK Tryz.prog 62 Tryz.f62 e62 [.t 4] 2 52:=⟨by kernel_rfl,⟨_,rfl,by kernel_rfl⟩,by kernel_rfl,by kernel_rfl⟩
noncomputable def Zvf:Unit→Option Int
| ()=>
 some 0
noncomputable def Zwf (x11:Int):Bool→Option (Int ⊕ Int)
| x17=>
 ifb x17 (
 Option.map Sum.inr (some 40)) (
 some (.inl (wr (x11+1))))
noncomputable def Zxf (x1:Int) (x2:(List Arc)):Int→Option (Int ⊕ Int)
| x11=>
 ifb (decide (x11<(ln Arc.row x2))) (
 (at_ x2 x11).bind fun x12=>
 (Znf x12.From x1).bind fun x13=>
 ifb (!x13) (
 (Zwf x11) true) (
 (Znf x12.To x1).bind fun x14=>
 ifb (!x14) (
 (Zwf x11) true) (
 ifb (decide (x12.From=x12.To)) (
 (Zwf x11) true) (
 (Zb4 x2 0 x11).bind fun x15=>
 (Ztf x15 x12).bind fun x16=>
 (Zwf x11) x16)))) (
 Option.map Sum.inr (Zvf ()))
noncomputable def Zyf (x1:Int) (x2:(List Arc)):Bool→Option Int
| x3=>
 ifb x3 (
 some 40) (
 loop (Zxf x1 x2) 0)
noncomputable def Zzf (x1:Int) (x2:(List Arc)):Option Int:=
 ifb (decide (x1<0)) (
 (Zyf x1 x2) true) (
 ifb (decide (64<x1)) (
 (Zyf x1 x2) true) (
 (Zyf x1 x2) (decide (400<(ln Arc.row x2)))))
theorem Z0g (x1:Int) (x2:(List Arc)) (r:Int) (h:Zzf x1 x2=some r):Zu2 Tryz.prog 62 [.iv x1,.sl 2 (List.map Arc.row x2)] (.iv r):=by
 refine Zy2 ok62 rfl rfl fun w0 H0=>?_
 rw [Zzf] at h
 refine Zo2 16 ?_;dsimp only [go_sem];refine An ?_;refine Zh4 (fun (x3:Bool)=>(⟨(.any :: .sl 2 (List.map Arc.row x2)::an 3 (.clo 92 [.ptr 0 0]::an 13 (.bv x3::an 34 []))),[some ⟨3,[.iv x1]⟩],[]⟩:St)) (Zyf x1 x2) r ?_ fun J1=>?_
 ·intro x3 h;rw [Zyf] at h;(try dsimp only);refine Zj4 h rfl (fun _ h=>?_) fun _ h=>?_
  ·refine Zo2 4 ?_;dsimp only [go_sem];refine An ?_;exact Zr4 (res:=fun (r:Int)=>.iv r) ok62 h
  ·refine Zo2 8 ?_;dsimp only [go_sem];refine An ?_;refine Zh4 (fun (_:Unit)=>(⟨(an 54 []),[],[]⟩:St)) Zvf r ?_ fun J2=>?_
   ·rintro ⟨⟩ h;rw [Zvf] at h;(try dsimp only);refine Zo2 4 ?_;dsimp only [go_sem];refine An ?_;exact Zr4 (res:=fun (r:Int)=>.iv r) ok62 h
   ·refine Zo2 1 ?_;dsimp only [go_sem];refine An ?_;refine Zi4 h (fun (x11:Int)=>(⟨(.any :: .sl 2 (List.map Arc.row x2)::an 3 (.clo 92 [.ptr 0 0]::an 14 (.sl 2 (List.map Arc.row x2) :: .iv (ln Arc.row x2) :: .iv x11::an 31 []))),[some ⟨3,[.iv x1]⟩],[]⟩:St)) (by simp [go_sem]) (by intro x11;first | rfl | simp [go_sem]) ?_;rintro n1 x11 y1 h hin1 hout1;rw [Zxf] at h;(try dsimp only);refine Zo2 5 ?_;dsimp only [go_sem];refine An ?_;refine Zj4 h rfl (fun _ h=>?_) fun _ h=>?_
    ·refine Zo2 6 ?_;dsimp only [go_sem];refine An ?_;obtain ⟨x12,ex12,h⟩:=Bs h;refine Zm4 Arc.row ex12 trivial rfl rfl rfl ?_;refine Zo2 6 ?_;dsimp only [go_sem];refine An ?_;refine Zh4 (fun (x17:Bool)=>(⟨(.any :: .sl 2 (List.map Arc.row x2)::an 3 (.clo 92 [.ptr 0 0]::an 14 (.sl 2 (List.map Arc.row x2) :: .iv (ln Arc.row x2) :: .iv x11::an 29 [.bv x17,.any]))),[some ⟨3,[.iv x1]⟩],[]⟩:St)) (Zwf x11) y1 ?_ fun J3=>?_
     ·intro x17 h;rw [Zwf] at h;(try dsimp only);refine Zj4 h rfl (fun _ h=>?_) fun _ h=>?_
      ·refine Zo2 4 ?_;dsimp only [go_sem];refine An ?_;exact Zr4 (res:=fun (r:Int)=>.iv r) ok62 (Zg4 h hout1)
      ·refine Zo2 6 ?_;dsimp only [go_sem];refine An ?_;exact Zs4 h hin1
     ·refine Zj3 (by kernel_rfl) fun all hall hs hnap haf=>?_;dsimp only [go_sem];refine Z85 hall hs haf hnap 3 23 [3,23] [(27,[.clo 92 [.ptr 0 0],.ptr 1 0,.iv x12.From])] (by kernel_rfl) ?_;dsimp only [go_sem];refine Zu3 3 rfl ?_;obtain ⟨x13,ex13,h⟩:=Bs h;refine GO_callvL hall rfl trivial ((Zu4.refl _).block 0 rfl rfl) rfl (Zof x12.From x1 _ ex13) (by kernel_rfl) (h:=?_);dsimp only [go_sem];refine Z75 hall hs haf hnap 2 20 ?_;dsimp only [go_sem];refine An ?_;refine Z15 32 h rfl (fun _ h=>?_) fun _ h=>?_
      ·dsimp only [go_sem];refine Z85 hall hs haf hnap 20 0 [26] [(33,[.un,.un,.un,.un,.un,.tt,.tt,.un,.un,.un,.un,.un,.tt,.tt,.un,.un,.un,.un,.un,.tt])] (by kernel_rfl) ?_;dsimp only [go_sem];refine Zt3 rfl ?_ _;exact Zt4 J3 (s:=true) h
      ·dsimp only [go_sem];refine Z85 hall hs haf hnap 3 17 [9,17] [(33,[.clo 92 [.ptr 0 0],.ptr 1 1,.iv x12.To])] (by kernel_rfl) ?_;dsimp only [go_sem];refine Zu3 9 rfl ?_;obtain ⟨x14,ex14,h⟩:=Bs h;refine GO_callvL hall rfl trivial ((Zu4.refl _).block 0 rfl rfl) rfl (Zof x12.To x1 _ ex14) (by kernel_rfl) (h:=?_);dsimp only [go_sem];refine Z85 hall hs haf hnap 3 13 [13,13] [(37,[.bv (!x14),.bv (!x14),.bv (!x14)])] (by kernel_rfl) ?_;dsimp only [go_sem];refine Z15 39 h rfl (fun _ h=>?_) fun _ h=>?_
       ·dsimp only [go_sem];refine Z85 hall hs haf hnap 13 0 [26] [(40,[.un,.un,.un,.un,.un,.tt,.tt,.un,.un,.un,.un,.un,.tt])] (by kernel_rfl) ?_;dsimp only [go_sem];refine Zt3 rfl ?_ _;exact Zt4 J3 (s:=true) h
       ·dsimp only [go_sem];refine Z85 hall hs haf hnap 7 6 [20,6] [(40,[.ptr 1 0,.iv x12.From,.ptr 1 1,.iv x12.To,.bv (decide (x12.From=x12.To)),.bv (decide (x12.From=x12.To)),.bv (decide (x12.From=x12.To))])] (by kernel_rfl) ?_;dsimp only [go_sem];refine Z15 46 h rfl (fun _ h=>?_) fun _ h=>?_
        ·dsimp only [go_sem];refine Z85 hall hs haf hnap 6 0 [26] [(47,[.un,.un,.un,.un,.un,.tt])] (by kernel_rfl) ?_;dsimp only [go_sem];refine Zt3 rfl ?_ _;exact Zt4 J3 (s:=true) h
        ·dsimp only [go_sem];refine Z85 hall hs haf hnap 3 3 [22,1,1,2] [(47,[.sl 2 (List.map Arc.row x2),.iv x11]),(1,[.agg [.iv x12.From,.iv x12.To]])] (by kernel_rfl) ?_;dsimp only [go_sem];obtain ⟨x15,ex15,h⟩:=Bs h;refine G_sliceM hall hs haf hnap 22 Arc.row ex15 rfl rfl trivial rfl rfl rfl rfl rfl ?_;dsimp only [go_sem];refine Zu3 24 rfl ?_;obtain ⟨x16,ex16,h⟩:=Bs h;refine Z04 hall rfl trivial (Zuf x15 x12 _ ex16) (h:=?_);dsimp only [go_sem];refine Z75 hall hs haf hnap 1 0 ?_;dsimp only [go_sem];refine An ?_
         refine Zt3 rfl ?_ _;exact Zt4 J3 (s:=x16) h
    ·refine Zo2 1 ?_;dsimp only [go_sem];refine An ?_;exact Zt4 J2 (s:=()) (Zg4 h hout1)
 ·refine Zq4 11 h rfl (fun _ h=>?_) fun _ h=>?_
  ·dsimp only [go_sem];refine Zo2 9 ?_;dsimp only [go_sem];refine An ?_;exact Zt4 J1 (s:=true) h
  ·dsimp only [go_sem];refine Zo2 4 ?_;dsimp only [go_sem];refine An ?_;refine Zq4 15 h rfl (fun _ h=>?_) fun _ h=>?_
   ·dsimp only [go_sem];refine Zo2 5 ?_;dsimp only [go_sem];refine An ?_;exact Zt4 J1 (s:=true) h
   ·dsimp only [go_sem];refine Zo2 5 ?_;dsimp only [go_sem];refine An ?_;exact Zt4 J1 (s:=decide (400<(ln Arc.row x2))) h
end NX
end Go.Proofs.YtadebhbiglmodaaGreat
namespace Go.Proofs.YtadebhbiglmodaaGreat
namespace NX
open Go Go.RowKit
theorem cO_copy {P:Program} {op:Op} {n:Nat} {x y:X} (ho:cO P op = .copy n x y):∃p q t u e,op = .call ⟨.builtin .copy, #[p,q], #[t,u]⟩∧P.underlying t=some (.slice e)∧Z6 P e=some n∧cX p=x∧cX q=y:=by
 cases op
 case call ci=>
  obtain ⟨callee,cargs,argTypes⟩:=ci
  cases callee with
  | value o=>
    cases o with
    | func f'=>simp only [cO] at ho;(repeat' (split at ho))<;>simp at ho
    | _=>simp [cO] at ho
  | invoke _ _=>simp [cO] at ho
  | builtin b=>
    cases b
    case copy=>
     simp only [cO] at ho
     split at ho
     ·rename_i t0 u0 p q h1 h2
      split at ho
      ·rename_i e hu
       split at ho
       ·rename_i m hs
        simp only [EO.copy.injEq] at ho
        obtain ⟨rfl,rfl,rfl⟩:=ho
        have e1:cargs = #[p,q]:=by apply Array.ext';simpa using h2
        have e2:argTypes = #[t0,u0]:=by apply Array.ext';simpa using h1
        subst e1;subst e2
        exact ⟨p,q,t0,u0,e,rfl,hu,hs,rfl,rfl⟩
       ·simp at ho
      ·simp at ho
     ·simp at ho
    all_goals (simp only [cO] at ho;(repeat' (split at ho))<;>simp at ho)
 all_goals (simp only [cO] at ho;(repeat' (split at ho))<;>simp at ho)
@[go_sem] theorem leRows_tt:Zv 1 [[AV.tt]] [[AV.bv true]]=True:=eq_true ⟨rfl,fun M vss h=>by
  obtain ⟨vs,r,rfl,h1,h2,h3⟩:=h
  obtain ⟨v,l,rfl,h4,h5⟩:=h2
  exact ⟨_,_,rfl,h1,⟨_,_,rfl,h4,h5⟩,h3⟩⟩
section
variable {c:Ctx} {M:Mem} {S S':St} {a:Act} {w:World} {fn:Func} {K:AV→List (Option Blk)→List (Option Sl)→Prop} {k:List It}
theorem Z1g {P:Program} {e n:Nat} (h:Z6 P e=some n):(P.info? e).map (·.size)=some n:=by
 unfold Z6 at h
 simpa using h
theorem own_write (h:RelS c M S.bs S.ss w) {j T:Nat} {rows:List (List AV)} (hj:Zf S.ss j=some ⟨T,1,rows⟩) {g cap:Nat} {cur:Array Value} (e2:M.σ j = .slice (some ⟨g,0,none⟩) rows.length cap) (e3:w.heap[g]?=some (.cells cur T (0,0))) (e4:rows.length≤cap) (e5:cap≤maxLen) (e6:cur.size=cap*1)
  {vss:List (List Value)} (v1:AV.isLL M.pure 1 rows vss) (v2:∀v∈vss.flatten,v.oneCell'=true) (e7:cur.toList.take (rows.length*1)=vss.flatten) {A:Nat} {R:List (List AV)} {C:List (List Value)} (hR:AV.isLL M.pure 1 R C) (hC:∀v∈C.flatten,v.oneCell'=true) (hA:A+R.length≤rows.length):
  RelS c M S.bs (Zg S.ss j (some ⟨T,1,rows.take A++R++rows.drop (A+R.length)⟩)) (w.setRow g (cur.toList.take A++C.flatten++cur.toList.drop (A+C.flatten.length)).toArray):=by
 have hlC:=Z24 hR
 have hlv:=Z24 v1
 rw [Nat.mul_one] at hlC hlv e6 e7
 have hflat:∀(l:List (List Value)),(∀v∈l,v.length=1)→∀k,(l.take k).flatten=l.flatten.take k∧(l.drop k).flatten=l.flatten.drop k:=by
  intro l
  induction l with
  | nil=>intro _ k;simp
  | cons v l ih=>
    intro hl k
    have hv:=hl v (by simp)
    cases k with
    | zero=>simp
    | succ k=>
      obtain ⟨i1,i2⟩:=ih (fun u hu=>hl u (by simp [hu])) k
      obtain ⟨u,rfl⟩:∃u,v=[u]:=by
       match v,hv with
       | [u],_=>exact ⟨u,rfl⟩
      simp [i1,i2]
 have hf:=hflat vss (Zd5 v1).1
 have hbl:(w.setRow g (cur.toList.take A++C.flatten++cur.toList.drop (A+C.flatten.length)).toArray).heap[g]?=some (.cells (cur.toList.take A++C.flatten++cur.toList.drop (A+C.flatten.length)).toArray T (0,0)):=by
  rw [Zs1,if_pos rfl,e3];rfl
 have hcl:cur.toList.length=cap:=by simpa using e6
 have hnew:(vss.take A++C++vss.drop (A+R.length)).flatten=vss.flatten.take A++C.flatten++vss.flatten.drop (A+R.length):=by
  rw [List.flatten_append,List.flatten_append,(hf A).1,(hf (A+R.length)).2]
 refine h.rewrite hj (g:=g) (by rw [e2];rfl) (w':=w.setRow g (cur.toList.take A++C.flatten++cur.toList.drop (A+C.flatten.length)).toArray) ⟨rfl,rfl,rfl,by simp [World.setRow],fun k _ hk=>by rw [Zs1,if_neg (fun e=>hk (by rw [e]))]⟩ (vss':=vss.take A++C++vss.drop (A+R.length)) ?_ ?_ ?_
 ·have t1:=Z45 v1 0 A
  have t2:=Z45 v1 (A+R.length) rows.length
  simp only [List.drop_zero] at t1
  rw [List.take_of_length_le (Nat.le_refl _),List.take_of_length_le (by have:=(Zd5 v1).2;omega)] at t2
  exact Z14 (Z14 t1 hR) t2
 ·intro v hv
  rw [hnew] at hv
  simp only [List.mem_append] at hv
  rcases hv with (hv | hv) | hv
  ·exact v2 v (List.mem_of_mem_take hv)
  ·exact hC v hv
  ·exact v2 v (List.mem_of_mem_drop hv)
 ·have hlen:(rows.take A++R++rows.drop (A+R.length)).length=rows.length:=by simp only [List.length_append,List.length_take,List.length_drop];omega
  refine ⟨?_,.inr ⟨g,cap,_,by rw [hlen];exact e2,Nat.zero_le _,hbl,by rw [hlen];exact e4,e5,?_,?_⟩⟩
  ·rw [hnew,hlen];simp only [List.length_append,List.length_take,List.length_drop];omega
  ·simp only [List.size_toArray,List.length_append,List.length_take,List.length_drop];omega
  ·rw [hnew,hlen,Nat.mul_one,←e7]
   generalize C.flatten=D at *
   generalize cur.toList=L at *
   rw [hlC]
   generalize R.length=r at *
   rw [←hlC] at hA ⊢
   refine List.ext_getElem? fun i=>?_
   simp only [List.getElem?_take,List.getElem?_append,List.length_append,List.length_take,List.getElem?_drop,hcl]
   have hm1:min A cap=A:=by omega
   have hm3:min rows.length cap=rows.length:=by omega
   have hm4:min A rows.length=A:=by omega
   simp only [hm1,hm3]
   by_cases h1:i<rows.length
   ·by_cases h2:i<A+D.length
    ·by_cases h3:i<A
     ·simp [h1,h2,h3,hm4]
     ·simp [h1,h2,h3,hm4]
    ·have h3:A+D.length+(i-(A+D.length))=i:=by omega
     simp [h1,h2,h3,hm4]
   ·by_cases h2:i<A+D.length
    ·omega
    ·have h3:A+D.length+(i-(A+D.length))=i:=by omega
     simp [h1,h2,h3,hm4]
theorem Z2g (h:RelS c M S.bs S.ss w) {j T:Nat} {rows:List (List AV)} (hj:Zf S.ss j=some ⟨T,1,rows⟩) (h0:0<rows.length):
  ∃g cap cur vss,M.σ j = .slice (some ⟨g,0,none⟩) rows.length cap∧w.heap[g]?=some (.cells cur T (0,0))∧rows.length≤cap∧cap≤maxLen∧cur.size=cap*1∧AV.isLL M.pure 1 rows vss∧(∀v∈vss.flatten,v.oneCell'=true)∧cur.toList.take (rows.length*1)=vss.flatten:=by
 obtain ⟨g0,vss,h1,h2,h3,h4⟩:=h.slc j _ hj
 dsimp only at h1 h3 g0
 rcases h3.2 with ⟨_,e3⟩ | ⟨g,cap,cur,e2,_,e3,e4,e5,e6,e7⟩
 ·omega
 ·exact ⟨g,cap,cur,vss,e2,e3,e4,e5,e6,h1,h2,e7⟩
theorem Z3g {P:Program} {w w':World} {p q:Operand} {t u:TypeId} {ρ:Operand→Value} {d:Option Tmp} {ty:TypeId} {pos:String} {af:Array Go.Edge} {gd:Option (Nat×Bool)} {v:Value}
  (h:(Builtin.copy_ #[t,u] ty #[ρ p,ρ q]).run P w = .ok v w'):(execOp ρ ⟨d,.call ⟨.builtin .copy, #[p,q], #[t,u]⟩,ty,pos,af,gd⟩).run P w = .ok (.value v) w':=by
 simp [execOp,resolve,invoke,builtin,h]
theorem sem_copyS {j T:Nat} {x y:X} {rows rs:List (List AV)} (hx:S.x x = .osl j) (hj:Zf S.ss j=some ⟨T,1,rows⟩) (hy:S.x y = .sl 1 rs):
  Zz2 c S (.copy 1 x y) (.iv (min rs.length rows.length:Nat)) ⟨S.tm,S.bs,Zg S.ss j (some ⟨T,1,rs.take (min rs.length rows.length)++rows.drop (min rs.length rows.length)⟩)⟩:=by
 intro ro hop M a w hT next Q hnx
 obtain ⟨dst,op,ty,pos,af,gd⟩:=ro
 dsimp only at hop
 obtain ⟨p,q,t,u,e,rfl,hu,hs,rfl,rfl⟩:=cO_copy hop
 have k1:=Zy1 hT p
 have k2:=Zy1 hT q
 rw [hx] at k1
 rw [hy] at k2
 obtain ⟨sa,sc,k2,_,k3⟩:=k2
 have hself:∀(l:List (Option Sl)) (j:Nat) (L:Sl),Zf l j=some L→Zg l j (some L)=l:=by
  intro l
  induction l with
  | nil=>intro j L h;simp [Zf] at h
  | cons x l ih=>intro j L h;cases j with
    | zero=>simp [Zf] at h;subst h;rfl
    | succ j=>simp only [Zg];rw [ih j L (by simpa [Zf] using h)]
 by_cases h0:min rs.length rows.length=0
 ·have hd:∃d n cp,M.σ j = .slice d n cp∧n=rows.length:=by
   obtain ⟨g0,vss,h1,h2,h3,h4⟩:=hT.st.slc j _ hj
   dsimp only at h3
   rcases h3.2 with ⟨e2,e3⟩ | ⟨g,cap,cur,e2,_⟩
   ·exact ⟨_,_,_,e2,e3.symm⟩
   ·exact ⟨_,_,_,e2,rfl⟩
  obtain ⟨d,n,cp,hd,rfl⟩:=hd
  have hrun:=Z3g (P:=c.P) (w:=w) (w':=w) (p:=p) (q:=q) (t:=t) (u:=u) (ρ:=a.eval) (d:=dst) (ty:=ty) (pos:=pos) (af:=af) (gd:=gd) (v:=goInt 0) (by
   rw [k1.2,hd,k2]
   exact run_copy_none w t u ty e _ _ _ _ _ _ hu (Z1g hs) h0)
  unfold Oper.wp
  rw [hrun]
  refine hnx M w _ (.refl M) ?_ (by rw [h0];rfl)
  rw [h0,List.take_zero,List.drop_zero,List.nil_append]
  show RelS c M S.bs (Zg S.ss j (some ⟨T,1,rows⟩)) w
  rw [hself _ _ _ hj];exact hT.st
 ·have hr1:0<rows.length:=by omega
  have hr2:rs≠ []:=fun e=>by rw [e] at h0;simp at h0
  obtain ⟨g,cap,cur,vss,e2,e3,e4,e5,e6,v1,v2,e7⟩:=Z2g hT.st hj hr1
  obtain ⟨ad,ws,rfl,w1,w2⟩:=k3 hr2
  obtain ⟨c1,c2,cs,cT,cf,c3,c4⟩:=w2
  have hw:=Z45 w1 0 (min rs.length rows.length)
  simp only [List.drop_zero] at hw
  have hwl:=Z24 hw
  have hk0:(rs.take (min rs.length rows.length)).length=min rs.length rows.length:=by rw [List.length_take];omega
  rw [Nat.mul_one,hk0] at hwl
  have hwf:(ws.take (min rs.length rows.length)).flatten=ws.flatten.take (min rs.length rows.length):=by
   have h1:=(Zd5 w1).1
   have:∀(l:List (List Value)),(∀v∈l,v.length=1)→∀k,(l.take k).flatten=l.flatten.take k:=by
    intro l
    induction l with
    | nil=>intro _ k;simp
    | cons v l ih=>
      intro hl k
      have hv:=hl v (by simp)
      cases k with
      | zero=>simp
      | succ k=>
        have i1:=ih (fun u hu=>hl u (by simp [hu])) k
        obtain ⟨u,rfl⟩:∃u,v=[u]:=by
         match v,hv with
         | [u],_=>exact ⟨u,rfl⟩
        simp [i1]
   exact this ws h1 _
  have hone:∀v∈(ws.take (min rs.length rows.length)).flatten,v.oneCell'=true:=fun v hv=>by
   rw [hwf] at hv;exact c2 v (List.mem_of_mem_take hv)
  have hcells:∀(i:Nat) v,(ws.take (min rs.length rows.length)).flatten[i]?=some v→w.cell? (ad.add i)=some v:=fun i v hv=>by
   rw [hwf,List.getElem?_take] at hv
   split at hv
   ·have h5:=hT.st.hle _ _ c3
    have h6:=c4 i v hv
    have h7:ad.add i=⟨ad.block,ad.off+i,none⟩:=by
     obtain ⟨b,o,s⟩:=ad
     dsimp only at c1
     subst c1
     exact Addr.add_lit _ _ _
    rw [h7]
    simp [World.cell?,h5,h6]
   ·simp at hv
  have hrun:=Z3g (P:=c.P) (w:=w) (p:=p) (q:=q) (t:=t) (u:=u) (ρ:=a.eval) (d:=dst) (ty:=ty) (pos:=pos) (af:=af) (gd:=gd) (by
   rw [k1.2,e2,k2]
   exact run_copy_row c.P w t u ty e g 0 rows.length cap ad rs.length sc cur T (ws.take (min rs.length rows.length)).flatten hu (Z1g hs) e3 (hwl.trans rfl) hcells (by rw [hwl,Nat.zero_add,e6];omega) hone)
  unfold Oper.wp
  rw [hrun]
  have hW:=own_write hT.st hj e2 e3 e4 e5 e6 v1 v2 e7 (A:=0) hw hone (by rw [List.length_take];omega)
  have hk:(rs.take (min rs.length rows.length)).length=min rs.length rows.length:=by rw [List.length_take];omega
  rw [hk,List.take_zero,List.nil_append,Nat.zero_add] at hW
  refine hnx M _ _ (.refl M) hW ?_
  rw [hwl]
  rfl
theorem Z4g {j T:Nat} {x:X} {lo hi:Option X} {rows:List (List AV)} {l h:Int} (hx:S.x x = .osl j) (hj:Zf S.ss j=some ⟨T,1,rows⟩) (hr:0<rows.length) (hlo:bnd S lo 0=some l) (hhi:bnd S hi rows.length=some h) (h0:0≤l) (h1:l≤h) (h2:h≤rows.length) (h3:l<rows.length):
  Zz2 c S (.slice 1 x lo hi) (.ocs j l.toNat (h.toNat-l.toNat)) S:=by
 intro ro hop M a w hRT next Q hnx
 obtain ⟨dst,op,ty,pos,af,gd⟩:=ro
 dsimp only at hop
 obtain ⟨T',y,lo',hi',e,rfl,hu,hs,rfl,rfl,rfl⟩:=Z25 hop
 have hS:=hRT.st
 have k1:=Zy1 hRT y
 rw [hx] at k1
 obtain ⟨g,cap,cur,vss,e2,e3,e4,e5,e6,v1,v2,e7⟩:=Z2g hS hj hr
 have hbl:∀(o:Option Operand) (z r:Int),bnd S (o.map cX) z=some r→match o with | none=>r=z | some o=>a.eval o = .int .i64 r:=by
  intro o z r hb
  cases o with
  | none=>simpa [bnd] using hb.symm
  | some o=>
    simp only [Option.map_some,bnd] at hb
    have:=Zy1 hRT o
    split at hb
    ·rename_i n' hn'
     rw [hn'] at this
     simp at hb;subst hb;exact this
    ·simp at hb
 have b1:=hbl lo' 0 l hlo
 have b2:=hbl hi' rows.length h hhi
 have hrun:=Z35 (P:=c.P) (w:=w) hu hs (ρ:=a.eval) (ad:=some ⟨g,0,none⟩) (len:=rows.length) (cp:=cap) (lo:=l) (hi:=h) (k1.2.trans e2) e4 b1 b2 h0 h1 h2 dst ty pos af gd
 unfold Oper.wp
 rw [hrun,if_neg (by omega)]
 refine hnx M w _ (.refl M) hS ⟨k1.1,g,rows.length,cap,cap-l.toNat,e2,?_⟩
 simp only [Option.map,Addr.add_lit,Nat.mul_one,Nat.zero_add]
theorem sem_copyV {j T o1 m1 o2 m2:Nat} {x y:X} {rows:List (List AV)} (hx:S.x x = .ocs j o1 m1) (hy:S.x y = .ocs j o2 m2) (hj:Zf S.ss j=some ⟨T,1,rows⟩) (hr:0<rows.length) (h1:o1+m1≤rows.length) (h2:o2+m2≤rows.length):
  Zz2 c S (.copy 1 x y) (.iv (min m2 m1:Nat)) ⟨S.tm,S.bs,Zg S.ss j (some ⟨T,1,rows.take o1++(rows.take (o2+min m2 m1)).drop o2++rows.drop (o1+min m2 m1)⟩)⟩:=by
 intro ro hop M a w hT next Q hnx
 obtain ⟨dst,op,ty,pos,af,gd⟩:=ro
 dsimp only at hop
 obtain ⟨p,q,t,u,e,rfl,hu,hs,rfl,rfl⟩:=cO_copy hop
 have k1:=Zy1 hT p
 have k2:=Zy1 hT q
 rw [hx] at k1
 rw [hy] at k2
 obtain ⟨_,g1,n1,c1,c1',k1,k1'⟩:=k1
 obtain ⟨_,g2,n2,c2,c2',k2,k2'⟩:=k2
 obtain ⟨g,cap,cur,vss,e2,e3,e4,e5,e6,v1,v2,e7⟩:=Z2g hT.st hj hr
 rw [e2] at k1 k2
 simp only [Value.slice.injEq,Option.some.injEq,Addr.mk.injEq] at k1 k2
 obtain ⟨⟨rfl,_⟩,_⟩:=k1
 obtain ⟨⟨rfl,_⟩,_⟩:=k2
 have hw:=Z45 v1 o2 (o2+min m2 m1)
 have hwl:=Z24 hw
 have hk:((rows.take (o2+min m2 m1)).drop o2).length=min m2 m1:=by rw [List.length_drop,List.length_take];omega
 rw [Nat.mul_one,hk] at hwl
 have hflat:∀(l:List (List Value)),(∀v∈l,v.length=1)→∀k,(l.take k).flatten=l.flatten.take k∧(l.drop k).flatten=l.flatten.drop k:=by
  intro l
  induction l with
  | nil=>intro _ k;simp
  | cons v l ih=>
    intro hl k
    have hv:=hl v (by simp)
    cases k with
    | zero=>simp
    | succ k=>
      obtain ⟨i1,i2⟩:=ih (fun u hu=>hl u (by simp [hu])) k
      obtain ⟨u,rfl⟩:∃u,v=[u]:=by
       match v,hv with
       | [u],_=>exact ⟨u,rfl⟩
      simp [i1,i2]
 have hlen1:=(Zd5 v1).1
 have hwf:((vss.take (o2+min m2 m1)).drop o2).flatten=(vss.flatten.take (o2+min m2 m1)).drop o2:=by
  rw [(hflat (vss.take (o2+min m2 m1)) (fun v hv=>hlen1 v (List.mem_of_mem_take hv)) o2).2,(hflat vss hlen1 _).1]
 have hone:∀v∈((vss.take (o2+min m2 m1)).drop o2).flatten,v.oneCell'=true:=fun v hv=>by
  rw [hwf] at hv;exact v2 v (List.mem_of_mem_take (List.mem_of_mem_drop hv))
 have hcells:∀(i:Nat) v,((vss.take (o2+min m2 m1)).drop o2).flatten[i]?=some v→w.cell? ((⟨g,o2,none⟩:Addr).add i)=some v:=fun i v hv=>by
  rw [hwf,List.getElem?_drop,List.getElem?_take] at hv
  split at hv
  ·rw [←e7,List.getElem?_take] at hv
   split at hv
   ·rw [Addr.add_lit]
    simp only [World.cell?,e3]
    simpa using hv
   ·simp at hv
  ·simp at hv
 have hrun:=Z3g (P:=c.P) (w:=w) (p:=p) (q:=q) (t:=t) (u:=u) (ρ:=a.eval) (d:=dst) (ty:=ty) (pos:=pos) (af:=af) (gd:=gd) (by
  rw [k1',k2']
  exact run_copy_row c.P w t u ty e g o1 m1 c1' ⟨g,o2,none⟩ m2 c2' cur T ((vss.take (o2+min m2 m1)).drop o2).flatten hu (Z1g hs) e3 (hwl.trans rfl) hcells (by rw [hwl,e6];omega) hone)
 unfold Oper.wp
 rw [hrun]
 have hW:=own_write hT.st hj e2 e3 e4 e5 e6 v1 v2 e7 (A:=o1) hw hone (by rw [hk];omega)
 rw [hk] at hW
 refine hnx M _ _ (.refl M) hW ?_
 rw [hwl]
 rfl
theorem cO_bin {P:Program} {op:Op} {b:BinOp} {x y:X} (ho:cO P op = .bin b x y):∃T p q T2,op = .binOp b T p q T2∧cX p=x∧cX q=y:=by
 cases op
 case binOp b' T p q T2=>
  simp only [cO] at ho
  (repeat' (split at ho))<;>simp only [EO.bin.injEq,reduceCtorEq] at ho
  obtain ⟨rfl,rfl,rfl⟩:=ho
  exact ⟨T,p,q,T2,rfl,rfl,rfl⟩
 all_goals (simp only [cO] at ho;(repeat' (split at ho))<;>simp at ho)
def kin (b:BinOp) (k:IntKind) (m n:Int) (r:AV):Prop:=match b with
 | .add=>r = .kv k (k.wrap (m+n))
 | .mul=>r = .kv k (k.wrap (m*n))
 | .and=>r = .kv k (k.wrap ((BitVec.ofInt k.bits m &&& BitVec.ofInt k.bits n).toNat))
 | .shr=>0≤n∧r = .kv k (m.fdiv (2 ^ min n.toNat k.bits))
 | .gtr=>r = .bv (decide (n<m))
 | _=>False
theorem sem_bink {b:BinOp} {x y:X} {kk:IntKind} {m n:Int} {r:AV} (hx:S.x x = .kv kk m) (hy:S.x y = .kv kk n) (h:kin b kk m n r):Zz2 c S (.bin b x y) r S:=by
 intro ro hop M a w hT next Q hnx
 obtain ⟨dst,op,ty,pos,af,gd⟩:=ro
 dsimp only at hop
 obtain ⟨T,p,q,T2,rfl,rfl,rfl⟩:=cO_bin hop
 have k1:=Zy1 hT p
 have k2:=Zy1 hT q
 rw [hx] at k1
 rw [hy] at k2
 simp only [AV.is] at k1 k2
 have hrun:∃v,(execOp a.eval ⟨dst,.binOp b T p q T2,ty,pos,af,gd⟩).run c.P w = .ok (.value v) w∧r.is M v:=by
  generalize a.eval=ρ at *
  cases b<;>simp only [kin] at h
  case add=>subst h;exact ⟨.int kk (kk.wrap (m+n)),by simp [execOp,k1,k2,Ze2,binOp,Op.intArith],rfl⟩
  case mul=>subst h;exact ⟨.int kk (kk.wrap (m*n)),by simp [execOp,k1,k2,Ze2,binOp,Op.intArith],rfl⟩
  case and=>subst h;exact ⟨.int kk (kk.wrap ((BitVec.ofInt kk.bits m &&& BitVec.ofInt kk.bits n).toNat)),by simp [execOp,k1,k2,Ze2,binOp,Op.intBits],rfl⟩
  case shr=>
   obtain ⟨h0,rfl⟩:=h
   exact ⟨.int kk (m.fdiv (2 ^ min n.toNat kk.bits)),by simp [execOp,k1,k2,Ze2,binOp,Op.shift,show ¬n<0 by omega],rfl⟩
  case gtr=>subst h;exact ⟨.bool (m>n),by simp [execOp,k1,k2,Ze2,binOp,Op.intCmp],rfl⟩
 obtain ⟨v,hrun,hv⟩:=hrun
 unfold Oper.wp
 rw [hrun]
 exact hnx M w _ (.refl M) hT.st hv
theorem Z5g {d:Option Nat} {g:Option (Nat×Bool)} {l:List EOp} {b:BinOp} {x y:X} {kk:IntKind} {m n:Int} (r:AV) (h:kin b kk m n r) (hg:gm S g) (hx:S.x x = .kv kk m) (hy:S.x y = .kv kk n)
 (hn:V c fn K (.ops l::k) (S.put d r)):V c fn K (.ops (⟨d,g,.bin b x y⟩::l)::k) S:=Z03 hg (sem_bink hx hy h) rfl hn
theorem cO_conv {P:Program} {op:Op} {k:IntKind} {x:X} (ho:cO P op = .conv k x):∃A B p j,op = .convert A B p∧P.underlying A=some (.int j)∧P.underlying B=some (.int k)∧cX p=x:=by
 cases op
 case convert A B p=>
  simp only [cO] at ho
  split at ho
  ·rename_i j k' hA hB
   simp only [EO.conv.injEq] at ho
   obtain ⟨rfl,rfl⟩:=ho
   exact ⟨A,B,p,j,rfl,hA,hB,rfl⟩
  ·simp at ho
 all_goals (simp only [cO] at ho;(repeat' (split at ho))<;>simp at ho)
theorem sem_convK {x:X} {kk:IntKind} {m:Int} (hx:S.x x = .iv m) (hw:kk.wrap m=m):Zz2 c S (.conv kk x) (.kv kk m) S:=by
 intro ro hop M a w hT next Q hnx
 obtain ⟨dst,op,ty,pos,af,gd⟩:=ro
 dsimp only at hop
 obtain ⟨A,B,p,j,rfl,hA,hB,rfl⟩:=cO_conv hop
 have k1:=Zy1 hT p
 rw [hx] at k1
 simp only [AV.is] at k1
 have hrun:(execOp a.eval ⟨dst,.convert A B p,ty,pos,af,gd⟩).run c.P w = .ok (.value (.int kk m)) w:=by
  generalize a.eval=ρ at *
  simp [execOp,k1,convert,run_underlying hA,run_underlying hB,Conv.intToInt,hw]
 unfold Oper.wp
 rw [hrun]
 exact hnx M w _ (.refl M) hT.st rfl
theorem sem_convI {x:X} {kk:IntKind} {m:Int} (hx:S.x x = .kv kk m) (hw:wr m=m):Zz2 c S (.conv .i64 x) (.iv m) S:=by
 intro ro hop M a w hT next Q hnx
 obtain ⟨dst,op,ty,pos,af,gd⟩:=ro
 dsimp only at hop
 obtain ⟨A,B,p,j,rfl,hA,hB,rfl⟩:=cO_conv hop
 have k1:=Zy1 hT p
 rw [hx] at k1
 simp only [AV.is] at k1
 unfold wr at hw
 have hrun:(execOp a.eval ⟨dst,.convert A B p,ty,pos,af,gd⟩).run c.P w = .ok (.value (.int .i64 m)) w:=by
  generalize a.eval=ρ at *
  simp [execOp,k1,convert,run_underlying hA,run_underlying hB,Conv.intToInt,hw]
 unfold Oper.wp
 rw [hrun]
 exact hnx M w _ (.refl M) hT.st rfl
end
end NX
end Go.Proofs.YtadebhbiglmodaaGreat
/-
  The function slices.Repeat[[]bool,bool]: its code compiled, a model, and that the code answers as the model. Written by a program of ours (lb.py). No statement of the seat is proved here.
-/
namespace Go.Proofs.YtadebhbiglmodaaGreat
namespace NX
open Go
set_option maxRecDepth 100000
set_option maxHeartbeats 4000000
@[go_sem] def e129:EC:=.seq (.reg [(Qa 4 (.mv (.c (.kv .u64 0)))),(Qa 5 (.mv (.c (.kv .u64 0))))]) (.seq (.reg [(Qm 14 0),(Qa 15 (.bin .and (.t 14) (.c (.kv .u64 4294967295)))),(Qm 6 15)]) (.seq (.reg [(Qm 16 0),(Qa 17 (.bin .shr (.t 16) (.c (.kv .u64 32)))),(Qm 7 17)]) (.seq (.reg [(Qm 18 1),(Qa 19 (.bin .and (.t 18) (.c (.kv .u64 4294967295)))),(Qm 8 19)]) (.seq (.reg [(Qm 20 1),(Qa 21 (.bin .shr (.t 20) (.c (.kv .u64 32)))),(Qm 9 21)]) (.seq (.reg [(Qm 22 6),(Qm 23 8),(Qa 24 (.bin .mul (.t 22) (.t 23))),(Qm 10 24)]) (.seq (.reg [(Qm 25 7),(Qm 26 8),(Qa 27 (.bin .mul (.t 25) (.t 26))),(Qm 28 10),(Qa 29 (.bin .shr (.t 28) (.c (.kv .u64 32)))),(Qa 30 (.bin .add (.t 27) (.t 29))),(Qm 11 30)]) (.seq (.reg [(Qm 31 11),(Qa 32 (.bin .and (.t 31) (.c (.kv .u64 4294967295)))),(Qm 12 32)]) (.seq (.reg [(Qm 33 11),(Qa 34 (.bin .shr (.t 33) (.c (.kv .u64 32)))),(Qm 13 34)]) (.seq (.reg [(Qm 35 12),(Qm 36 6),(Qm 37 9),(Qa 38 (.bin .mul (.t 36) (.t 37))),(Qa 39 (.bin .add (.t 35) (.t 38))),(Qm 12 39)]) (.seq (.reg [(Qm 40 7),(Qm 41 9),(Qa 42 (.bin .mul (.t 40) (.t 41))),(Qm 43 13),(Qa 44 (.bin .add (.t 42) (.t 43))),(Qm 45 12),(Qa 46 (.bin .shr (.t 45) (.c (.kv .u64 32)))),(Qa 47 (.bin .add (.t 44) (.t 46))),(Qm 4 47)]) (.seq (.reg [(Qm 48 0),(Qm 49 1),(Qa 50 (.bin .mul (.t 48) (.t 49))),(Qm 5 50)]) (.ret))))))))))))
theorem ok129:FnOK Tryz.prog 129 Tryz.f129 e129 [.t 4,.t 5] 2 49:=⟨by kernel_rfl,⟨_,rfl,by kernel_rfl⟩,by kernel_rfl,by kernel_rfl⟩
@[go_sem] def e119:EC:=.seq (.reg [(Qa 4 (.mv (.c (.kv .u64 0)))),(Qa 5 (.mv (.c (.kv .u64 0))))]) (.seq (.ite (.c .ff) (.seq (.reg [(Qm 11 0),(Qa 12 (.conv .u32 (.t 11))),(Qm 13 1),(Qa 14 (.conv .u32 (.t 13))),(Qa 15 (.call 128 [(.t 12),(.t 14)])),(Qm 10 15),(Qa 16 (.ext (.t 10) 0)),(Qa 17 (.ext (.t 10) 1)),(Qm 6 16),(Qm 7 17)]) (.seq (.reg [(Qm 18 6),(Qa 19 (.conv .u64 (.t 18))),(Qm 20 7),(Qa 21 (.conv .u64 (.t 20))),(Qm 4 19),(Qm 5 21)]) (.ret))) (.skip)) (.seq (.reg [(Qm 23 0),(Qm 24 1),(Qa 25 (.call 129 [(.t 23),(.t 24)])),(Qm 22 25),(Qa 26 (.ext (.t 22) 0)),(Qa 27 (.ext (.t 22) 1)),(Qm 8 26),(Qm 9 27)]) (.seq (.reg [(Qm 28 8),(Qm 29 9),(Qm 4 28),(Qm 5 29)]) (.ret))))
theorem ok119:FnOK Tryz.prog 119 Tryz.f119 e119 [.t 4,.t 5] 2 28:=⟨by kernel_rfl,⟨_,rfl,by kernel_rfl⟩,by kernel_rfl,by kernel_rfl⟩
@[go_sem] def e94_L0:EC:=.seq (.seq (.reg [(Qm 34 8),(Qm 35 7),(Qa 36 (.len (.t 35))),(Qa 37 (.bin .lss (.t 34) (.t 36)))]) (.ite (.t 37) (.skip) (.exit 0))) (.blk 1 (.drw [(Qm 38 8),(Qm 39 7),(Qm 40 8),(Qa 41 (.slice 1 (.t 39) (some (.t 40)) none)),(Qm 42 7),(Qm 43 8),(Qa 44 (.slice 1 (.t 42) none (some (.t 43)))),(Qa 45 (.copy 1 (.t 41) (.t 44))),(Qa 46 (.bin .add (.t 38) (.t 45))),(Qm 8 46)] [[],[],[],[1,2],[],[],[4,5],[3,6],[0,7],[8,7,0,1,2,3,4,5,6,7,8]] [[8,9],[3],[3,9],[1,2,7],[6],[6,9],[4,5,7],[3,6,8],[0,7,9],[0,2,5,8]]))
@[go_sem] def e94:EC:=.seq (.reg [(Qa 4 (.mv (.c .nl)))]) (.seq (.seq (.reg [(Qm 9 1),(Qa 10 (.bin .lss (.t 9) (.c (.iv 0))))]) (.ite (.t 10) (.reg [(Qa 11 .bad),(Qb .bad)]) (.skip))) (.seq (.reg [(Qm 13 0),(Qa 14 (.len (.t 13))),(Qa 15 (.conv .u64 (.t 14))),(Qm 16 1),(Qa 17 (.conv .u64 (.t 16))),(Qa 18 (.call 119 [(.t 15),(.t 17)])),(Qm 12 18),(Qa 19 (.ext (.t 12) 0)),(Qa 20 (.ext (.t 12) 1)),(Qm 5 19),(Qm 6 20)]) (.seq (.seq (.reg [(Qm 21 5),(Qa 22 (.bin .gtr (.t 21) (.c (.kv .u64 0)))),(Qm 23 22),(Qg 24 23 false (.mv (.t 6))),(Qg 25 23 false (.bin .gtr (.t 24) (.c (.kv .u64 9223372036854775807)))),(Qq 26 23 25)]) (.ite (.t 26) (.reg [(Qa 27 .bad),(Qb .bad)]) (.skip))) (.seq (.reg [(Qm 28 6),(Qa 29 (.conv .i64 (.t 28))),(Qa 30 (.mks 4 1 1 [.ff] (.t 29) (.t 29))),(Qm 7 30)]) (.seq (.reg [(Qm 31 7),(Qm 32 0),(Qa 33 (.copy 1 (.t 31) (.t 32))),(Qm 8 33)]) (.seq (.blk 0 (.loop e94_L0)) (.seq (.reg [(Qm 47 7),(Qm 4 47)]) (.ret))))))))
theorem ok94:FnOK Tryz.prog 94 Tryz.f94 e94 [.t 4] 2 46:=⟨by kernel_rfl,⟨_,rfl,by kernel_rfl⟩,by kernel_rfl,by kernel_rfl⟩
theorem kin_and {m n v:Int} (h:IntKind.u64.wrap ((BitVec.ofInt IntKind.u64.bits m &&& BitVec.ofInt IntKind.u64.bits n).toNat)=v):kin .and .u64 m n (.kv .u64 v):=by subst h;rfl
theorem Z6g {m v:Int} (h:m.fdiv (2 ^ 32)=v):kin .shr .u64 m 32 (.kv .u64 v):=by subst h;exact ⟨by omega,rfl⟩
theorem Z7g {m n v:Int} (h:IntKind.u64.wrap (m*n)=v):kin .mul .u64 m n (.kv .u64 v):=by subst h;rfl
theorem kin_add {m n v:Int} (h:IntKind.u64.wrap (m+n)=v):kin .add .u64 m n (.kv .u64 v):=by subst h;rfl
theorem small65 {p:Int→Prop} (h:∀k:Fin 65,p (k.val:Int)) {n:Int} (h0:0≤n) (h1:n≤64):p n:=by
 have:=h ⟨n.toNat,by omega⟩
 simpa [Int.toNat_of_nonneg h0] using this
def Z8g (m k:Nat):List (List AV):=List.replicate k (Zy4 true)++List.replicate (m-k) [.ff]
theorem rowsK_len {m k:Nat} (h:k≤m):(Z8g m k).length=m:=by simp [Z8g];omega
theorem rowsK_first (m:Nat):(List.map Zy4 [true]).take (min (List.map Zy4 [true]).length (List.replicate m [AV.ff]).length)++(List.replicate m [AV.ff]).drop (min (List.map Zy4 [true]).length (List.replicate m [AV.ff]).length)=Z8g m (min 1 m):=by
 cases m with
 | zero=>rfl
 | succ m=>simp [Z8g]
theorem Z9g {m k:Nat} (h:k<m):(Z8g m k).take k++((Z8g m k).take (0+min k (m-k))).drop 0++(Z8g m k).drop (k+min k (m-k))=Z8g m (k+min k (m-k)):=by
 unfold Z8g
 refine List.ext_getElem? fun i=>?_
 simp only [List.getElem?_append,List.getElem?_take,List.getElem?_drop,List.getElem?_replicate,List.length_append,List.length_take,List.length_drop,List.length_replicate]
 (repeat' split)<;>first | rfl | (exfalso;omega)
theorem rowsK_end (m:Nat):Z8g m m=List.map Zy4 (List.replicate m true):=by simp [Z8g]
theorem Zag {n:Int} (h0:0≤n) (h1:n≤1000):wr n=n:=IntWalk.i64_in n ⟨by omega,by omega⟩
theorem wr_in {n:Int} (h0:0≤n) (h1:n≤64):wr n=n:=IntWalk.i64_in n ⟨by omega,by omega⟩
theorem k_Mul64 (n:Int) (h0:0≤n) (h1:n≤64):Zu2 Tryz.prog 129 [.kv .u64 1,.kv .u64 n] (.tup [.kv .u64 0,.kv .u64 n]):=by
 have a1:IntKind.u64.wrap ((BitVec.ofInt IntKind.u64.bits 1 &&& BitVec.ofInt IntKind.u64.bits 4294967295).toNat)=1:=by decide
 have an:IntKind.u64.wrap ((BitVec.ofInt IntKind.u64.bits n &&& BitVec.ofInt IntKind.u64.bits 4294967295).toNat)=n:=small65 (p:=fun n=>IntKind.u64.wrap ((BitVec.ofInt IntKind.u64.bits n &&& BitVec.ofInt IntKind.u64.bits 4294967295).toNat)=n) (by decide) h0 h1
 have a0:IntKind.u64.wrap ((BitVec.ofInt IntKind.u64.bits 0 &&& BitVec.ofInt IntKind.u64.bits 4294967295).toNat)=0:=by decide
 have s1:(1:Int).fdiv (2 ^ 32)=0:=by decide
 have s0:(0:Int).fdiv (2 ^ 32)=0:=by decide
 have sn:n.fdiv (2 ^ 32)=0:=small65 (p:=fun n=>n.fdiv (2 ^ 32)=0) (by decide) h0 h1
 have m1:IntKind.u64.wrap (1*n)=n:=small65 (p:=fun n=>IntKind.u64.wrap (1*n)=n) (by decide) h0 h1
 have m0:IntKind.u64.wrap (0*n)=0:=by rw [Int.zero_mul];decide
 have m10:IntKind.u64.wrap (1*0)=0:=by decide
 have m00:IntKind.u64.wrap (0*0)=0:=by decide
 have p0:IntKind.u64.wrap (0+0)=0:=by decide
 refine Zy2 ok129 rfl rfl fun w0 H0=>?_
 refine Zo2 100 ?_
 dsimp only [e129,go_sem]
 refine An ?_
 refine Z5g _ (kin_and a1) trivial rfl rfl ?_
 refine Zo2 100 ?_
 dsimp only [go_sem]
 refine An ?_
 refine Z5g _ (Z6g s1) trivial rfl rfl ?_
 refine Zo2 100 ?_
 dsimp only [go_sem]
 refine An ?_
 refine Z5g _ (kin_and an) trivial rfl rfl ?_
 refine Zo2 100 ?_
 dsimp only [go_sem]
 refine An ?_
 refine Z5g _ (Z6g sn) trivial rfl rfl ?_
 refine Zo2 100 ?_
 dsimp only [go_sem]
 refine An ?_
 refine Z5g _ (Z7g m1) trivial rfl rfl ?_
 refine Zo2 100 ?_
 dsimp only [go_sem]
 refine An ?_
 refine Z5g _ (Z7g m0) trivial rfl rfl ?_
 refine Zo2 100 ?_
 dsimp only [go_sem]
 refine An ?_
 refine Z5g _ (Z6g sn) trivial rfl rfl ?_
 refine Zo2 100 ?_
 dsimp only [go_sem]
 refine An ?_
 refine Z5g _ (kin_add p0) trivial rfl rfl ?_
 refine Zo2 100 ?_
 dsimp only [go_sem]
 refine An ?_
 refine Z5g _ (kin_and a0) trivial rfl rfl ?_
 refine Zo2 100 ?_
 dsimp only [go_sem]
 refine An ?_
 refine Z5g _ (Z6g s0) trivial rfl rfl ?_
 refine Zo2 100 ?_
 dsimp only [go_sem]
 refine An ?_
 refine Z5g _ (Z7g m10) trivial rfl rfl ?_
 refine Zo2 100 ?_
 dsimp only [go_sem]
 refine An ?_
 refine Z5g _ (kin_add p0) trivial rfl rfl ?_
 refine Zo2 100 ?_
 dsimp only [go_sem]
 refine An ?_
 refine Z5g _ (Z7g m00) trivial rfl rfl ?_
 refine Zo2 100 ?_
 dsimp only [go_sem]
 refine An ?_
 refine Z5g _ (kin_add p0) trivial rfl rfl ?_
 refine Zo2 100 ?_
 dsimp only [go_sem]
 refine An ?_
 refine Z5g _ (Z6g s0) trivial rfl rfl ?_
 refine Zo2 100 ?_
 dsimp only [go_sem]
 refine An ?_
 refine Z5g _ (kin_add p0) trivial rfl rfl ?_
 refine Zo2 100 ?_
 dsimp only [go_sem]
 refine An ?_
 refine Z5g _ (Z7g m1) trivial rfl rfl ?_
 refine Zo2 100 ?_
 dsimp only [go_sem]
 refine An ?_
 exact Zr4 (res:=fun (_:Unit)=>.tup [.kv .u64 0,.kv .u64 n]) (r:=()) ok129 rfl (by first | exact le_refl _ | simp [go_sem])
theorem k_Mul (n:Int) (h0:0≤n) (h1:n≤64):Zu2 Tryz.prog 119 [.kv .u64 1,.kv .u64 n] (.tup [.kv .u64 0,.kv .u64 n]):=by
 refine Zy2 ok119 rfl rfl fun w0 H0=>?_
 refine Zo2 100 ?_
 dsimp only [e119,go_sem]
 refine An ?_
 refine Z33 trivial (k_Mul64 n h0 h1) (h:=?_)
 refine Zo2 100 ?_
 dsimp only [go_sem]
 refine An ?_
 exact Zr4 (res:=fun (_:Unit)=>.tup [.kv .u64 0,.kv .u64 n]) (r:=()) ok119 rfl (by first | exact le_refl _ | simp [go_sem])
noncomputable def Zbg (x1:List Bool) (x2:Int):Option (List Bool):=if x1=[true]∧0≤x2∧x2≤64 then some (List.replicate x2.toNat true) else none
theorem Zcg (x1:List Bool) (x2:Int) (r:List Bool) (h:Zbg x1 x2=some r):FunO Tryz.prog 94 [.sl 1 (List.map Zy4 x1),.iv x2] 4 1 (List.map Zy4 r):=by
 unfold Zbg at h
 split at h
 ·rename_i hc
  obtain ⟨rfl,h0,h1⟩:=hc
  simp only [Option.some.injEq] at h
  subst h
  refine Z55 ok94 rfl fun w0 H0=>?_
  refine Zo2 100 ?_
  dsimp only [e94,go_sem]
  refine An ?_
  refine V_ite rfl (fun e=>absurd e (by rw [decide_eq_false (by omega)];simp)) fun _=>?_
  refine Zo2 100 ?_
  dsimp only [go_sem]
  refine An ?_
  refine Z03 trivial (sem_convK (kk:=.u64) (m:=1) rfl (by decide)) rfl ?_
  refine Zo2 100 ?_
  dsimp only [go_sem]
  refine An ?_
  refine Z03 trivial (sem_convK (kk:=.u64) (m:=x2) rfl (small65 (p:=fun n=>IntKind.u64.wrap n=n) (by decide) h0 h1)) rfl ?_
  refine Zo2 100 ?_
  dsimp only [go_sem]
  refine An ?_
  refine Z33 trivial (k_Mul x2 h0 h1) (h:=?_)
  refine Zo2 100 ?_
  dsimp only [go_sem]
  refine An ?_
  refine Z5g (b:=.gtr) _ rfl trivial rfl rfl ?_
  refine V_put1 22 .ff rfl ?_
  refine Zo2 100 ?_
  dsimp only [go_sem]
  refine An ?_
  refine Z5g (b:=.gtr) _ rfl trivial rfl rfl ?_
  refine V_put1 25 .ff (decide_eq_false (by omega)) ?_
  refine Zo2 100 ?_
  dsimp only [go_sem]
  refine An ?_
  refine Z03 trivial (sem_convI (m:=x2) rfl (wr_in h0 h1)) rfl ?_
  refine Zo2 100 ?_
  dsimp only [go_sem]
  refine An ?_
  obtain ⟨m,rfl⟩:∃m:Nat,x2=m:=⟨x2.toNat,by omega⟩
  refine Z03 trivial (sem_mks (m:=m) rfl rfl h0 (by omega) (by omega) rfl) rfl ?_
  refine Zo2 100 ?_
  dsimp only [go_sem]
  refine An ?_
  refine Z03 trivial (sem_copyS (j:=0) rfl rfl rfl) rfl ?_
  refine Zo2 100 ?_
  dsimp only [go_sem]
  refine An ?_
  rw [show (m:Int).toNat=m from rfl,rowsK_first]
  have hm1:min (List.map Zy4 [true]).length (List.replicate m [AV.ff]).length=min 1 m:=by simp
  rw [hm1]
  refine V_loop (X:=Nat) (fun k=>k≤m∧(0<m→0<k)) (fun k=>⟨an 7 (.osl 0 :: .iv k::an 39 []),[],[some ⟨4,1,Z8g m k⟩]⟩) (fun k=>m-k) (min 1 m) (by simp [go_sem]) rfl rfl rfl ⟨by omega,by omega⟩ ?_
  rintro n k ⟨hk1,hk2⟩ ih
  refine Zo2 100 ?_
  dsimp only [go_sem]
  refine An ?_
  rw [rowsK_len hk1]
  refine V_ite rfl (fun hlt=>?_) fun hge=>?_
  ·have hlt:k<m:=by simpa using hlt
   have hl:=rowsK_len hk1
   refine Zo2 100 ?_
   dsimp only [go_sem]
   refine An ?_
   refine Zj3 (by kernel_rfl) fun all hall hs hnap haf=>?_
   dsimp only [go_sem]
   refine Z75 hall hs haf hnap 5 5 ?_
   dsimp only [go_sem]
   refine An ?_
   refine Zv3 3 6 rfl ?_ ?_
   ·refine Zx3 hall (i:=3) trivial (Z4g (lo:=some (.t 40)) (hi:=none) (l:=k) (h:=((Z8g m k).length:Nat)) rfl rfl (by omega) rfl rfl (by omega) (by omega) (by omega) (by omega)) rfl (Zr3 _ _) ?_
    dsimp only [go_sem]
    refine Zu3 6 rfl ?_
    refine Zx3 hall (i:=6) trivial (Z4g (lo:=none) (hi:=some (.t 43)) (l:=0) (h:=k) rfl rfl (by omega) rfl rfl (by omega) (by omega) (by omega) (by omega)) rfl (Zr3 _ _) ?_
    dsimp only [go_sem]
    refine Zu3 7 rfl ?_
    refine Zx3 hall (i:=7) trivial (sem_copyV (j:=0) (o1:=k) (m1:=(Z8g m k).length-k) (o2:=0) (m2:=k) rfl rfl rfl (by omega) (by omega) (by omega)) rfl (fun _ _ _ _ h _ _=>h) ?_
    dsimp only [go_sem]
    rw [hl,Z9g hlt]
    refine Z75 hall hs haf hnap 2 0 ?_
    dsimp only [go_sem]
    refine An ?_
    refine Zt3 rfl ?_ _
    refine Zo2 100 ?_
    dsimp only [go_sem]
    refine An ?_
    have hw:wr ((k:Int)+(min k (m-k):Nat))=(k+min k (m-k):Nat):=by rw [Zag (by omega) (by omega)];omega
    rw [hw]
    exact Zr2 _ (by simp [go_sem]) rfl (h:=ih (k+min k (m-k)) ⟨by omega,by omega⟩ (by omega))
   ·refine Zx3 hall (i:=6) trivial (Z4g (lo:=none) (hi:=some (.t 43)) (l:=0) (h:=k) rfl rfl (by omega) rfl rfl (by omega) (by omega) (by omega) (by omega)) rfl (Zr3 _ _) ?_
    dsimp only [go_sem]
    refine Zu3 3 rfl ?_
    refine Zx3 hall (i:=3) trivial (Z4g (lo:=some (.t 40)) (hi:=none) (l:=k) (h:=((Z8g m k).length:Nat)) rfl rfl (by omega) rfl rfl (by omega) (by omega) (by omega) (by omega)) rfl (Zr3 _ _) ?_
    dsimp only [go_sem]
    refine Zu3 7 rfl ?_
    refine Zx3 hall (i:=7) trivial (sem_copyV (j:=0) (o1:=k) (m1:=(Z8g m k).length-k) (o2:=0) (m2:=k) rfl rfl rfl (by omega) (by omega) (by omega)) rfl (fun _ _ _ _ h _ _=>h) ?_
    dsimp only [go_sem]
    rw [hl,Z9g hlt]
    refine Z75 hall hs haf hnap 2 0 ?_
    dsimp only [go_sem]
    refine An ?_
    refine Zt3 rfl ?_ _
    refine Zo2 100 ?_
    dsimp only [go_sem]
    refine An ?_
    have hw:wr ((k:Int)+(min k (m-k):Nat))=(k+min k (m-k):Nat):=by rw [Zag (by omega) (by omega)];omega
    rw [hw]
    exact Zr2 _ (by simp [go_sem]) rfl (h:=ih (k+min k (m-k)) ⟨by omega,by omega⟩ (by omega))
  ·have hge:k=m:=by simp at hge;omega
   subst hge
   refine Zo2 100 ?_
   dsimp only [go_sem]
   refine An ?_
   rw [rowsK_end]
   exact Z95 Zy4 (e:=List.replicate k true) ok94 rfl rfl rfl
 ·simp at h
set_option maxRecDepth 100000
set_option maxHeartbeats 4000000
@[go_sem] def e95:EC:=.seq (.reg [(Qx 3 104 2 0),(Qa 4 (.mv (.c .ff)))]) (.seq (.reg [(Qf 5 1 3),(Ql 6 5),(Ql 7 1),(Qa 8 (.bin .eql (.t 6) (.t 7))),(Qm 9 8),(Qn 10 9 true 2),(Qh 11 9 true 0 3),(Qn 12 9 true 11),(Qg 13 9 true (.idx 1 (.t 10) (.t 12))),(Qn 14 9 true 13),(Qp 15 9 14),(Qm 4 15)]) (.ret))
theorem ok95:FnOK Tryz.prog 95 Tryz.f95 e95 [.t 4] 3 13:=⟨by kernel_rfl,⟨_,rfl,by kernel_rfl⟩,by kernel_rfl,by kernel_rfl⟩
noncomputable def Zdg:Bool→Option Bool
| x5=>
 some x5
noncomputable def Zeg (x1:Arc) (x2:Int) (x3:(List Bool)):Option Bool:=
 ifb (decide (x1.To=x2)) (
 (at_ x3 x1.From).bind fun x4=>
 Zdg x4) (
 Zdg false)
theorem k_dag_run_1 (x1:Arc) (x2:Int) (x3:(List Bool)) (r:Bool) (h:Zeg x1 x2 x3=some r):Zu2 Tryz.prog 95 [.agg (Arc.row x1),.elt (Zx4 x2) 0,.elt ((Zz4 1 Zy4) x3) 0] (.bv r):=by
 refine Zy2 ok95 rfl rfl fun w0 H0=>?_
 rw [Zeg] at h
 refine Zo2 12 ?_;dsimp only [go_sem];refine An ?_;refine Zh4 (fun (x5:Bool)=>(⟨(an 4 (.bv x5::an 11 [])),[],[]⟩:St)) Zdg r ?_ fun J1=>?_
 ·intro x5 h;rw [Zdg] at h;(try dsimp only);exact Zr4 (res:=fun (r:Bool)=>.bv r) ok95 h
 ·refine Zq4 9 h rfl (fun _ h=>?_) fun _ h=>?_
  ·dsimp only [go_sem];refine Zo2 3 ?_;dsimp only [go_sem];refine An ?_;obtain ⟨x4,ex4,h⟩:=Bs h;refine Zm4 Zy4 ex4 trivial rfl rfl rfl ?_;refine Zo2 4 ?_;dsimp only [go_sem];refine An ?_;exact Zt4 J1 (s:=x4) h
  ·dsimp only [go_sem];refine Zo2 8 ?_;dsimp only [go_sem];refine An ?_;exact Zt4 J1 (s:=false) h
set_option maxRecDepth 100000
set_option maxHeartbeats 4000000
@[go_sem] def e120_L0:EC:=.seq (.reg [(Qa 9 (.bin .lss (.t 8) (.t 7)))]) (.seq (.ite (.t 9) (.skip) (.exit 0)) (.seq (.blk 1 (.seq (.reg [(Qm 10 8),(Qm 5 10)]) (.seq (.reg [(Qm 11 1),(Qm 12 0),(Qm 13 5),(Qk 14 2 12 13),(Qe 15 2 14),(Qa 16 (.callv (.t 11) [(.t 15)]))]) (.ite (.t 16) (.seq (.reg [(Qm 17 5),(Qm 4 17)]) (.ret)) (.skip))))) (.reg [(Qv 18 8 1),(Qm 8 18)])))
@[go_sem] def e120:EC:=.seq (.reg [(Qi 4 0)]) (.seq (.seq (.reg [(Qm 6 0),(Qa 7 (.len (.t 6))),(Qi 8 0)]) (.blk 0 (.loop e120_L0))) (.seq (.reg [(Qa 4 (.mv (.c (.iv (-1)))))]) (.ret)))
theorem ok120:FnOK Tryz.prog 120 Tryz.f120 e120 [.t 4] 2 17:=⟨by kernel_rfl,⟨_,rfl,by kernel_rfl⟩,by kernel_rfl,by kernel_rfl⟩
noncomputable def Zfg:Unit→Option Int
| ()=>
 some (-1)
noncomputable def Zgg (x1:(List Arc)) (p1:(Arc→Option Bool)):Int→Option (Int ⊕ Int)
| x5=>
 ifb (decide (x5<(ln Arc.row x1))) (
 (at_ x1 x5).bind fun x6=>
 (p1 x6).bind fun x7=>
 ifb x7 (
 Option.map Sum.inr (some x5)) (
 some (.inl (wr (x5+1))))) (
 Option.map Sum.inr (Zfg ()))
noncomputable def Zhg (x1:(List Arc)) (p1:(Arc→Option Bool)):Option Int:=
 loop (Zgg x1 p1) 0
theorem Zig (x1:(List Arc)) (g1:Nat) (caps1:List AV) (p1:(Arc→Option Bool)) (hc1:CloOK Tryz.prog g1 caps1 (fun z=>[.agg (Arc.row z)]) p1 (fun z=>.bv z)) (r:Int) (h:Zhg x1 p1=some r):Zu2 Tryz.prog 120 [.sl 2 (List.map Arc.row x1),.clo g1 caps1] (.iv r):=by
 refine Zy2 ok120 rfl rfl fun w0 H0=>?_
 rw [Zhg] at h
 refine Zo2 11 ?_;dsimp only [go_sem];refine An ?_;refine Zh4 (fun (_:Unit)=>(⟨(an 19 []),[],[]⟩:St)) Zfg r ?_ fun J1=>?_
 ·rintro ⟨⟩ h;rw [Zfg] at h;(try dsimp only);refine Zo2 4 ?_;dsimp only [go_sem];refine An ?_;exact Zr4 (res:=fun (r:Int)=>.iv r) ok120 h
 ·refine Zo2 1 ?_;dsimp only [go_sem];refine An ?_;refine Zi4 h (fun (x5:Int)=>(⟨(.sl 2 (List.map Arc.row x1) :: .clo g1 caps1::an 5 (.iv (ln Arc.row x1) :: .iv x5::an 10 [])),[],[]⟩:St)) (by simp [go_sem]) (by intro x5;first | rfl | simp [go_sem,Z84 _ hc1.pu]) ?_;rintro n1 x5 y1 h hin1 hout1;rw [Zgg] at h;(try dsimp only);refine Zo2 5 ?_;dsimp only [go_sem];refine An ?_;refine Zj4 h rfl (fun _ h=>?_) fun _ h=>?_
  ·refine Zo2 13 ?_;dsimp only [go_sem];refine An ?_;obtain ⟨x6,ex6,h⟩:=Bs h;refine Zm4 Arc.row ex6 trivial rfl rfl rfl ?_;refine Zo2 1 ?_;dsimp only [go_sem];refine An ?_;obtain ⟨x7,ex7,h⟩:=Bs h;refine Zw4 trivial rfl hc1 (x:=x6) ex7 (by first | exact Z94 _ | simp [go_sem]) (by first | rfl | simp [go_sem,hc1.pu]) ?_;refine Zo2 1 ?_;dsimp only [go_sem];refine An ?_;refine Zj4 h rfl (fun _ h=>?_) fun _ h=>?_
   ·refine Zo2 5 ?_;dsimp only [go_sem];refine An ?_;exact Zr4 (res:=fun (r:Int)=>.iv r) ok120 (Zg4 h hout1)
   ·refine Zo2 6 ?_;dsimp only [go_sem];refine An ?_;exact Zs4 h hin1 (hok:=by first | rfl | simp [go_sem,Z84 _ hc1.pu])
  ·refine Zo2 1 ?_;dsimp only [go_sem];refine An ?_;exact Zt4 J1 (s:=()) (Zg4 h hout1) (hok:=by first | rfl | simp [go_sem,Z84 _ hc1.pu])
set_option maxRecDepth 100000
set_option maxHeartbeats 4000000
@[go_sem] def e96:EC:=.seq (.reg [(Qa 4 (.mv (.c .ff)))]) (.seq (.reg [(Qm 5 0),(Qm 6 1),(Qa 7 (.call 120 [(.t 5),(.t 6)])),(Qa 8 (.bin .geq (.t 7) (.c (.iv 0)))),(Qm 4 8)]) (.ret))
theorem ok96:FnOK Tryz.prog 96 Tryz.f96 e96 [.t 4] 2 7:=⟨by kernel_rfl,⟨_,rfl,by kernel_rfl⟩,by kernel_rfl,by kernel_rfl⟩
noncomputable def Zjg (x1:(List Arc)) (p1:(Arc→Option Bool)):Option Bool:=
 (Zhg x1 p1).bind fun x2=>
 some (decide (0≤x2))
theorem Zkg (x1:(List Arc)) (g1:Nat) (caps1:List AV) (p1:(Arc→Option Bool)) (hc1:CloOK Tryz.prog g1 caps1 (fun z=>[.agg (Arc.row z)]) p1 (fun z=>.bv z)) (r:Bool) (h:Zjg x1 p1=some r):Zu2 Tryz.prog 96 [.sl 2 (List.map Arc.row x1),.clo g1 caps1] (.bv r):=by
 refine Zy2 ok96 rfl rfl fun w0 H0=>?_
 rw [Zjg] at h
 refine Zo2 8 ?_;dsimp only [go_sem];refine An ?_;obtain ⟨x2,ex2,h⟩:=Bs h;refine Z33 trivial (Zig x1 _ _ p1 hc1 _ ex2) (hp:=(by first | rfl | simp [go_sem,hc1.pu])) (h:=?_);refine Zo2 3 ?_;dsimp only [go_sem];refine An ?_;exact Zr4 (res:=fun (r:Bool)=>.bv r) ok96 h
set_option maxRecDepth 100000
set_option maxHeartbeats 4000000
@[go_sem] def e63_L0:EC:=.seq (.reg [(Qa 13 (.bin .lss (.t 12) (.t 11)))]) (.seq (.ite (.t 13) (.skip) (.exit 0)) (.seq (.blk 1 (.seq (.reg [(Qm 14 12),(Qa 6 (.alloc 3 [.iv 0])),(Qs 1 6 14)]) (.seq (.reg [(Qa 15 (.mkf 95 [(.t 6),(.t 5)])),(Qm 7 15)]) (.seq (.reg [(Ql 16 5),(Ql 17 6),(Qk 18 1 16 17),(Ql 19 18),(Qm 20 19),(Qg 21 20 true (.mv (.t 1))),(Qg 22 20 true (.mv (.t 7))),(Qg 23 20 true (.call 96 [(.t 21),(.t 22)])),(Qg 24 20 true (.not (.t 23))),(Qp 25 20 24)]) (.ite (.t 25) (.seq (.reg [(Ql 26 5),(Ql 27 6),(Qk 28 1 26 27),(Qb (.store 1 (.t 28) (.c .ff)))]) (.seq (.reg [(Qm 29 4),(Ql 30 6),(Qa 31 (.bsl 3 1 1 [.iv 0] [(0,(.t 30))])),(Qa 32 (.app 3 1 8 (.t 29) (.t 31))),(Qm 4 32)]) (.goto 0))) (.skip)))))) (.reg [(Qv 33 12 1),(Qm 12 33)])))
@[go_sem] def e63:EC:=.seq (.reg [(Qa 4 (.mv (.c .nl))),(Qa 5 (.alloc 106 [.nl]))]) (.scope (.seq (.reg [(Qa 8 (.bsl 4 1 1 [.ff] [(0,(.c .tt))])),(Qm 9 0),(Qa 10 (.call 94 [(.t 8),(.t 9)])),(Qs 1 5 10)]) (.seq (.label 0) (.seq (.seq (.reg [(Qm 11 0),(Qi 12 0)]) (.blk 0 (.loop e63_L0))) (.seq (.drw [(Qm 34 4),(Ql 35 5),(Qm 4 34),(Qs 1 5 35)] [[],[],[0,0],[1,2,0,1,2]] [[2],[3],[0],[1]]) (.ret))))))
theorem ok63:FnOK Tryz.prog 63 Tryz.f63 e63 [.t 4,.c 5 none] 2 34:=⟨by kernel_rfl,⟨_,rfl,by kernel_rfl⟩,by kernel_rfl,by kernel_rfl⟩
noncomputable def Zlg (x22:(List Bool)) (x23:(List Int)):Unit→Option (((List Bool)×(List Int)) ⊕ ((List Int)×(List Bool)))
| ()=>
 Option.map Sum.inr (some (x23,x22))
noncomputable def Zmg (x22:(List Bool)) (x23:(List Int)) (x29:Int):Bool→Option (Int ⊕ (((List Bool)×(List Int)) ⊕ ((List Int)×(List Bool))))
| x32=>
 ifb x32 (
 (Za4 8 x23 ([x29])).bind fun x33=>
 Option.map Sum.inr (some (.inl (x22.set (x29).toNat false,x33)))) (
 some (.inl (wr (x29+1))))
noncomputable def Zng (x1:Int) (x2:(List Arc)) (x22:(List Bool)) (x23:(List Int)):Int→Option (Int ⊕ (((List Bool)×(List Int)) ⊕ ((List Int)×(List Bool))))
| x29=>
 ifb (decide (x29<x1)) (
 (at_ x22 x29).bind fun x30=>
 ifb x30 (
 (Zjg x2 ((fun z=>Zeg z x29 x22))).bind fun x31=>
 (Zmg x22 x23 x29) (!x31)) (
 (Zmg x22 x23 x29) false)) (
 Option.map Sum.inr ((Zlg x22 x23) ()))
noncomputable def Zog (x1:Int) (x2:(List Arc)):((List Bool)×(List Int))→Option (((List Bool)×(List Int)) ⊕ ((List Int)×(List Bool)))
| (x22,x23)=>
 loop (Zng x1 x2 x22 x23) 0
noncomputable def Zpg (x1:Int) (x2:(List Arc)):Option ((List Int)×(List Bool)):=
 (Zbg ([true]) x1).bind fun x3=>
 loop (Zog x1 x2) (x3,([]:List Int))
theorem k_dag_run (x1:Int) (x2:(List Arc)) (r:((List Int)×(List Bool))) (h:Zpg x1 x2=some r):Zu2 Tryz.prog 63 [.iv x1,.sl 2 (List.map Arc.row x2)] (.tup [.sl 1 (List.map Zx4 r.1),.sl 1 (List.map Zy4 r.2)]):=by
 refine Zy2 ok63 rfl rfl fun w0 H0=>?_
 rw [Zpg] at h
 refine Zo2 10 ?_;dsimp only [go_sem];refine An ?_;refine Zb3 0 rfl ?_;dsimp only [go_sem];obtain ⟨x3,ex3,h⟩:=Bs h;refine Z65 trivial (Zcg ([true]) x1 _ ex3) (h:=?_);refine Zo2 4 ?_;dsimp only [go_sem];refine An ?_;refine Z64 4 3 1 rfl rfl ?_;dsimp only [go_sem]
 refine M_jump h (fun ((x22,x23):((List Bool)×(List Int)))=>(⟨(.iv x1 :: .sl 2 (List.map Arc.row x2) :: .any :: .any :: .osl 2 :: .ptr 0 0::an 30 []),[some ⟨106,[.osl 1]⟩],[none,some ⟨4,1,List.map Zy4 x22⟩,some ⟨3,1,List.map Zx4 x23⟩]⟩:St)) (by simp [go_sem]) (by rintro ⟨x22,x23⟩;first | rfl | simp [go_sem]) (by rintro ⟨x22,x23⟩;rfl) (by rintro ⟨x22,x23⟩;rfl) ?_;rintro ⟨x22,x23⟩ y1 h hin1 hout1;rw [Zog] at h;(try dsimp only);refine Zo2 6 ?_;dsimp only [go_sem];refine An ?_
 refine Zh4 (fun (_:Unit)=>(⟨(an 4 (.osl 2 :: .ptr 0 0::an 30 [])),[some ⟨106,[.osl 1]⟩],[none,some ⟨4,1,List.map Zy4 x22⟩,some ⟨3,1,List.map Zx4 x23⟩]⟩:St)) (Zlg x22 x23) y1 ?_ fun J1=>?_
 ·rintro ⟨⟩ h;rw [Zlg] at h;(try dsimp only);refine Zo2 1 ?_;dsimp only [go_sem];refine An ?_;refine Zj3 (by kernel_rfl) fun all hall hs hnap haf=>?_;dsimp only [go_sem];refine Z75 hall hs haf hnap 2 2 ?_;dsimp only [go_sem];refine An ?_;refine Zu3 1 rfl ?_;refine Zz3 hall rfl trivial ?_;dsimp only [go_sem];refine Zu3 3 rfl ?_;refine Zz3 hall rfl trivial ?_;dsimp only [go_sem];refine Zt3 rfl ?_ _;refine Zb3 2 rfl ?_;dsimp only [go_sem];refine Zb3 1 rfl ?_;dsimp only [go_sem]
  exact Zr4 (res:=fun (r:((List Int)×(List Bool)))=>.tup [.sl 1 (List.map Zx4 r.1),.sl 1 (List.map Zy4 r.2)]) ok63 (Zg4 h hout1)
 ·refine Zo2 1 ?_;dsimp only [go_sem];refine An ?_;refine Zi4 h (fun (x29:Int)=>(⟨(.iv x1 :: .sl 2 (List.map Arc.row x2) :: .any :: .any :: .osl 2 :: .ptr 0 0::an 5 (.iv x1 :: .iv x29::an 23 [])),[some ⟨106,[.osl 1]⟩],[none,some ⟨4,1,List.map Zy4 x22⟩,some ⟨3,1,List.map Zx4 x23⟩]⟩:St)) (by simp [go_sem]) (by intro x29;first | rfl | simp [go_sem]) ?_;rintro n2 x29 y2 h hin2 hout2;rw [Zng] at h;(try dsimp only);refine Zo2 5 ?_;dsimp only [go_sem];refine An ?_;refine Zj4 h rfl (fun _ h=>?_) fun _ h=>?_
  ·refine Zo2 18 ?_;dsimp only [go_sem];refine An ?_;obtain ⟨x30,ex30,h⟩:=Bs h;refine Za5 Zy4 ex30 trivial rfl rfl rfl ?_;refine Zb5 Zy4 ex30 trivial rfl rfl rfl ?_;refine Zo2 1 ?_;dsimp only [go_sem];refine An ?_
   refine Zh4 (fun (x32:Bool)=>(⟨(.iv x1 :: .sl 2 (List.map Arc.row x2) :: .any :: .any :: .osl 2 :: .ptr 0 0 :: .ptr 1 0::an 4 (.iv x1 :: .iv x29::an 12 (.bv x32::an 10 []))),[some ⟨106,[.osl 1]⟩,some ⟨3,[.iv x29]⟩],[none,some ⟨4,1,List.map Zy4 x22⟩,some ⟨3,1,List.map Zx4 x23⟩]⟩:St)) (Zmg x22 x23 x29) y2 ?_ fun J2=>?_
   ·intro x32 h;rw [Zmg] at h;(try dsimp only);refine Zj4 h rfl (fun _ h=>?_) fun _ h=>?_
    ·refine Zo2 4 ?_;dsimp only [go_sem];refine An ?_;refine Za5 Zy4 ex30 trivial rfl rfl rfl ?_;refine Zf5 [.bv false] Zy4 (y':=false) ex30 trivial rfl rfl rfl (by first | exact Z94 _ | simp [go_sem]) rfl rfl rfl rfl ?_;refine Zo2 6 ?_;dsimp only [go_sem];refine An ?_;obtain ⟨x33,ex33,h⟩:=Bs h;refine Zo4 Zx4 ex33 trivial rfl rfl rfl ?_;refine Zo2 5 ?_;dsimp only [go_sem];refine An ?_;refine Z54 4 2 rfl rfl rfl ?_;dsimp only [go_sem];exact Zs4 (Zg4 h hout2) hin1
    ·refine Zo2 6 ?_;dsimp only [go_sem];refine An ?_;exact Zs4 h hin2
   ·refine Zq4 20 h rfl (fun _ h=>?_) fun _ h=>?_
    ·dsimp only [go_sem];refine Zo2 2 ?_;dsimp only [go_sem];refine An ?_;obtain ⟨x31,ex31,h⟩:=Bs h;refine Zv4 trivial ((((Zu4.refl _).slice 1 rfl).block 0 rfl rfl).block 1 rfl rfl) (Zkg x2 _ _ ((fun z=>Zeg z x29 x22)) ⟨by kernel_rfl,rfl,fun z r hz=>k_dag_run_1 z x29 x22 r hz⟩ _ ex31) (h:=?_);refine Zo2 3 ?_;dsimp only [go_sem];refine An ?_;exact Zt4 J2 (s:=!x31) h
    ·dsimp only [go_sem];refine Zo2 6 ?_;dsimp only [go_sem];refine An ?_;exact Zt4 J2 (s:=false) h
  ·refine Zo2 1 ?_;dsimp only [go_sem];refine An ?_;exact Zt4 J1 (s:=()) (Zg4 h hout2)
set_option maxRecDepth 100000
set_option maxHeartbeats 4000000
@[go_sem] def e28:EC:=.seq (.reg [(Qa 4 (.mv (.c .nl))),(Qa 5 (.mv (.c .ff)))]) (.seq (.seq (.reg [(Qm 8 0),(Qm 9 1),(Qa 10 (.call 62 [(.t 8),(.t 9)])),(Qa 11 (.bin .neq (.t 10) (.c (.iv 0))))]) (.ite (.t 11) (.seq (.reg [(Qa 4 (.mv (.c .nl))),(Qa 5 (.mv (.c .ff)))]) (.ret)) (.skip))) (.seq (.reg [(Qm 13 0),(Qm 14 1),(Qa 15 (.call 63 [(.t 13),(.t 14)])),(Qm 12 15),(Qa 16 (.ext (.t 12) 0)),(Qa 17 (.ext (.t 12) 1)),(Qm 6 16),(Qm 7 17)]) (.seq (.seq (.reg [(Qm 18 6),(Qa 19 (.len (.t 18))),(Qm 20 0),(Qa 21 (.bin .lss (.t 19) (.t 20)))]) (.ite (.t 21) (.seq (.reg [(Qa 4 (.mv (.c .nl))),(Qa 5 (.mv (.c .ff)))]) (.ret)) (.skip))) (.seq (.reg [(Qm 22 6),(Qm 4 22),(Qa 5 (.mv (.c .tt)))]) (.ret)))))
theorem ok28:FnOK Tryz.prog 28 Tryz.f28 e28 [.t 4,.t 5] 2 21:=⟨by kernel_rfl,⟨_,rfl,by kernel_rfl⟩,by kernel_rfl,by kernel_rfl⟩
noncomputable def Zqg (x1:Int) (x2:(List Arc)):Option ((List Int)×Bool):=
 (Zzf x1 x2).bind fun x3=>
 ifb (!decide (x3=0)) (
 some (([]:(List Int)),false)) (
 (Zpg x1 x2).bind fun x4=>
 ifb (decide ((ln Zx4 x4.1)<x1)) (
 some (([]:(List Int)),false)) (
 some (x4.1,true)))
theorem k_dag_Order (x1:Int) (x2:(List Arc)) (r:((List Int)×Bool)) (h:Zqg x1 x2=some r):Zu2 Tryz.prog 28 [.iv x1,.sl 2 (List.map Arc.row x2)] (.tup [.sl 1 (List.map Zx4 r.1),.bv r.2]):=by
 refine Zy2 ok28 rfl rfl fun w0 H0=>?_
 rw [Zqg] at h
 refine Zo2 10 ?_;dsimp only [go_sem];refine An ?_;obtain ⟨x3,ex3,h⟩:=Bs h;refine Z33 trivial (Z0g x1 x2 _ ex3) (h:=?_);refine Zo2 2 ?_;dsimp only [go_sem];refine An ?_;refine Zj4 h rfl (fun _ h=>?_) fun _ h=>?_
 ·refine Zo2 5 ?_;dsimp only [go_sem];refine An ?_;exact Zr4 (res:=fun (r:((List Int)×Bool))=>.tup [.sl 1 (List.map Zx4 r.1),.bv r.2]) ok28 h
 ·refine Zo2 5 ?_;dsimp only [go_sem];refine An ?_;obtain ⟨x4,ex4,h⟩:=Bs h;refine Z33 trivial (k_dag_run x1 x2 _ ex4) (h:=?_);refine Zo2 14 ?_;dsimp only [go_sem];refine An ?_;refine Zj4 h rfl (fun _ h=>?_) fun _ h=>?_
  ·refine Zo2 5 ?_;dsimp only [go_sem];refine An ?_;exact Zr4 (res:=fun (r:((List Int)×Bool))=>.tup [.sl 1 (List.map Zx4 r.1),.bv r.2]) ok28 h
  ·refine Zo2 7 ?_;dsimp only [go_sem];refine An ?_;exact Zr4 (res:=fun (r:((List Int)×Bool))=>.tup [.sl 1 (List.map Zx4 r.1),.bv r.2]) ok28 h
theorem Zrg (l:List Arc) (p:Arc→Option Bool) (q:Arc→Bool) (hl:l.length≤4000000000000000000) (hp:∀x∈l,p x=some (q x)):Zhg l p=some (plc (l.findIdx? q)):=by
 unfold Zhg
 refine Z76 l _ q hl (fun k x hx=>?_) ?_
 ·simp only [Zgg,Z06 hx,Zu5,Zy5 hx,Option.bind_some,hp x (List.mem_iff_getElem?.2 ⟨k,hx⟩),Z36 hx hl]
  cases q x<;>rfl
 ·simp only [Zgg,Z16,Zv5,Zfg,Option.map_some]
theorem Zsg (l:List Arc) (p:Arc→Option Bool) (q:Arc→Bool) (hl:l.length≤4000000000000000000) (hp:∀x∈l,p x=some (q x)):Zjg l p=some (l.any q):=by
 unfold Zjg
 rw [Zrg l p q hl hp,Option.bind_some,Z56,Z86]
theorem s_ContainsArc (l:List Arc) (x:Arc) (hl:l.length≤1000000):Ztf l x=some (decide (x∈l)):=by
 have h1:Zrf l x=some (plc (l.findIdx? fun y=>decide (x=y))):=by
  unfold Zrf
  refine Z76 l _ (fun y=>decide (x=y)) (by omega) (fun k y hy=>?_) ?_
  ·simp only [Zqf,Z06 hy,Zu5,Zy5 hy,Option.bind_some,Arc_eqB,Z36 hy (show l.length≤4000000000000000000 by omega)]
   cases decide (x=y)<;>rfl
  ·simp only [Zqf,Z16,Zv5,Zpf,Option.map_some]
 simp only [Ztf,h1,Option.bind_some,Z56,Z86]
 congr 1
 rw [Bool.eq_iff_iff,List.any_eq_true,decide_eq_true_iff]
 constructor
 ·rintro ⟨y,hy,h⟩
  have:x=y:=by simpa using h
  exact this ▸ hy
 ·intro h;exact ⟨x,h,by simp⟩
structure ArcsR (N:Nat) (r:Nat→Int) (l:List Arc):Prop where
 n:N≤64
 len:l.length≤400
 nd:l.Nodup
 ok:∀z∈l,0≤z.From∧z.From<N∧0≤z.To∧z.To<N∧r z.To.toNat<r z.From.toNat
theorem Ztg {N:Nat} {r:Nat→Int} {l:List Arc} (h:ArcsR N r l):Zzf N l=some 0:=by
 have hn:=h.n
 have hlen:=h.len
 have node:∀x:Int,0≤x→x<N→Znf x N=some true:=fun x h0 h1=>by
  unfold Znf
  rw [decide_eq_true h0,Zu5,decide_eq_true h1];rfl
 unfold Zzf
 rw [decide_eq_false (by omega),Zv5,decide_eq_false (by omega),Zv5,Z05,decide_eq_false (by omega)]
 dsimp only [Zyf]
 rw [Zv5]
 refine Zm7 l _ (fun pre=>(pre.length:Int)) 0 (fun pre x post hp=>?_) ?_
 ·have hx:=Zn7 hp
  have hm:=Zo7 hp
  obtain ⟨a1,a2,a3,a4,a5⟩:=h.ok x (Zp7 hp)
  dsimp only [Zxf]
  have hne:¬x.From=x.To:=fun e=>by rw [e] at a5;omega
  have hsub:Zb4 l 0 (pre.length:Int)=some pre:=by
   unfold Zb4
   rw [if_pos ⟨by omega,by omega,by omega⟩,hp]
   simp
  have hni:x∉pre:=by
   have hnd:=h.nd
   rw [hp,List.nodup_append] at hnd
   intro hm2
   exact hnd.2.2 x hm2 x (by simp) rfl
  rw [Z06 hx,Zu5,Zy5 hx,Option.bind_some,node _ a1 a2,Option.bind_some,Bool.not_true,Zv5,node _ a3 a4,Option.bind_some,Bool.not_true,Zv5,decide_eq_false hne,Zv5,hsub,Option.bind_some,s_ContainsArc _ _ (by omega),Option.bind_some,decide_eq_false hni]
  dsimp only [Zwf]
  rw [Zv5,Zr7,Z26 (by omega)]
 ·dsimp only [Zxf]
  rw [Z16,Zv5];rfl
def Zug (L:List Bool) (a:Nat):Bool:=L[a]?.getD false
def blkB (l:List Arc) (L:List Bool) (a:Nat):Bool:=l.any fun z=>decide (z.To=(a:Int))&&Zug L z.From.toNat
def Zvg (l:List Arc) (L:List Bool) (a:Nat):Bool:=Zug L a&&!blkB l L a
theorem at_left {L:List Bool} {a:Nat} (h:a<L.length):at_ L (a:Int)=some (Zug L a):=by
 have:=Zy5 (List.getElem?_eq_getElem h)
 rw [this,Zug,List.getElem?_eq_getElem h];rfl
theorem s_blk {N:Nat} {r:Nat→Int} {l:List Arc} (h:ArcsR N r l) {L:List Bool} (hL:L.length=N) (a:Nat):Zjg l (fun z=>Zeg z (a:Int) L)=some (blkB l L a):=by
 have hlen:=h.len
 refine Zsg l _ (fun z=>decide (z.To=(a:Int))&&Zug L z.From.toNat) (by omega) fun z hz=>?_
 obtain ⟨a1,a2,_⟩:=h.ok z hz
 have:=at_left (L:=L) (a:=z.From.toNat) (by omega)
 rw [Int.toNat_of_nonneg a1] at this
 unfold Zeg
 cases decide (z.To=(a:Int)) with
 | true=>rw [Zu5,this];rfl
 | false=>rfl
def Zwg (N:Nat) (l:List Arc) (L:List Bool) (O:List Int) (k:Nat):(List Bool×List Int) ⊕ (List Int×List Bool):=
 match (List.range' k (N-k)).find? (Zvg l L) with | some a=>.inl (L.set a false,O++[(a:Int)]) | none=>.inr (O,L)
theorem ord_in {N:Nat} {r:Nat→Int} {l:List Arc} (h:ArcsR N r l) {L:List Bool} (hL:L.length=N) {O:List Int} (hO:O.length≤64):loop (Zng N l L O) 0=some (Zwg N l L O 0):=by
 have hn:=h.n
 refine loop_natI N (Zng N l L O) (fun k=>(k:Int)) (fun k=>some (Zwg N l L O k)) (fun k hk=>?_) ?_
 ·have hr:List.range' k (N-k)=k::List.range' (k+1) (N-(k+1)):=by
   rw [show N-k=(N-(k+1))+1 by omega,List.range'_succ]
  have e0:Zwg N l L O k=if Zvg l L k then .inl (L.set k false,O++[(k:Int)]) else Zwg N l L O (k+1):=by
   unfold Zwg
   rw [hr,List.find?_cons]
   cases Zvg l L k<;>rfl
  dsimp only [Zng]
  rw [decide_eq_true (by omega),Zu5,at_left (by omega),Option.bind_some]
  have skip:Zmg L O (k:Int) false=some (.inl ((k+1:Nat):Int)):=by
   dsimp only [Zmg]
   rw [Zv5,Z26 (by omega)]
  cases hq:Zug L k with
  | false=>
    left
    refine ⟨by rw [Zv5,skip],?_⟩
    rw [e0,show Zvg l L k=false by unfold Zvg;rw [hq];rfl,if_neg (by simp)]
  | true=>
    rw [Zu5,s_blk h hL,Option.bind_some]
    cases hb:blkB l L k with
    | true=>
      left
      refine ⟨by rw [Bool.not_true,skip],?_⟩
      rw [e0,show Zvg l L k=false by unfold Zvg;rw [hq,hb];rfl,if_neg (by simp)]
    | false=>
      right
      refine ⟨.inl (L.set k false,O++[(k:Int)]),?_,?_⟩
      ·rw [Bool.not_false]
       dsimp only [Zmg]
       rw [Zu5,Zz5 _ _ (by omega) (by simp only [List.length_singleton];omega),Option.bind_some]
       rfl
      ·rw [e0,show Zvg l L k=true by unfold Zvg;rw [hq,hb];rfl,if_pos rfl]
 ·dsimp only [Zng]
  rw [decide_eq_false (by omega),Zv5]
  have:Zwg N l L O N = .inr (O,L):=by
   unfold Zwg
   rw [Nat.sub_self];rfl
  rw [this];rfl
theorem top2 (r:Nat→Int):∀ {l:List Nat},l≠ []→∃a∈l,∀b∈l,r b≤r a
 | [],h=>absurd rfl h
 | [a],_=>⟨a,by simp,fun b hb=>by simp at hb;subst hb;omega⟩
 | a::c::l,_=>by
   obtain ⟨t,ht,hm⟩:=top2 r (l:=c::l) (by simp)
   by_cases h:r t≤r a
   ·exact ⟨a,by simp,fun b hb=>by
     rcases List.mem_cons.1 hb with rfl | hb
     ·omega
     ·have:=hm b hb;omega⟩
   ·exact ⟨t,List.mem_cons_of_mem _ ht,fun b hb=>by
     rcases List.mem_cons.1 hb with rfl | hb
     ·omega
     ·exact hm b hb⟩
theorem some_free {N:Nat} {r:Nat→Int} {l:List Arc} (h:ArcsR N r l) {L:List Bool} (hL:L.length=N) (ht:0<L.count true):∃a,a<N∧Zvg l L a=true:=by
 have hne:(List.range N).filter (Zug L)≠ []:=fun e=>by
  obtain ⟨k,hk⟩:=List.mem_iff_getElem?.1 (List.count_pos_iff.1 ht)
  have hlt:=(List.getElem?_eq_some_iff.1 hk).1
  have:k∈(List.range N).filter (Zug L):=List.mem_filter.2 ⟨List.mem_range.2 (by omega),by unfold Zug;rw [hk];rfl⟩
  rw [e] at this;simp at this
 obtain ⟨a,ha,hmax⟩:=top2 r hne
 obtain ⟨a1,a2⟩:=List.mem_filter.1 ha
 have a1:=List.mem_range.1 a1
 refine ⟨a,a1,?_⟩
 unfold Zvg
 rw [a2,Bool.true_and]
 have:blkB l L a=false:=by
  unfold blkB
  rw [List.any_eq_false]
  intro z hz hc
  rw [Bool.and_eq_true,decide_eq_true_eq] at hc
  obtain ⟨z1,z2,z3,z4,z5⟩:=h.ok z hz
  have hm:=hmax z.From.toNat (List.mem_filter.2 ⟨List.mem_range.2 (by omega),hc.2⟩)
  have e:z.To.toNat=a:=by omega
  rw [e] at z5
  omega
 rw [this];rfl
theorem count_set {L:List Bool} {a:Nat} (h:L[a]?=some true):(L.set a false).count true+1=L.count true:=by
 induction L generalizing a with
 | nil=>simp at h
 | cons b L ih=>
   cases a with
   | zero=>
     have:b=true:=by simpa using h
     subst this
     simp
   | succ a=>
     have:=ih (a:=a) (by simpa using h)
     simp only [List.set_cons_succ,List.count_cons]
     omega
theorem ord_out {N:Nat} {r:Nat→Int} {l:List Arc} (h:ArcsR N r l):∀(k:Nat) (L:List Bool) (O:List Int),L.length=N→L.count true=k→O.length+k=N→(∀a∈O,0≤a∧a<(N:Int))→
  ∃O' L',loop (Zog N l) (L,O)=some (O',L')∧O'.length=N∧∀a∈O',0≤a∧a<(N:Int)
 | 0,L,O,hL,hk,hO,hr=>by
   have hn:=h.n
   have hf:Zwg N l L O 0 = .inr (O,L):=by
    unfold Zwg
    have:(List.range' 0 (N-0)).find? (Zvg l L)=none:=by
     rw [List.find?_eq_none]
     intro a _ hc
     unfold Zvg Zug at hc
     rw [Bool.and_eq_true] at hc
     have hm:true∈L:=by
      cases hq:L[a]? with
      | none=>rw [hq] at hc;simp at hc
      | some b=>
        rw [hq] at hc
        have:b=true:=by simpa using hc.1
        rw [this] at hq
        exact List.mem_iff_getElem?.2 ⟨a,hq⟩
     have:=List.count_pos_iff.2 hm
     omega
    rw [this]
   refine ⟨O,L,?_,by omega,hr⟩
   rw [Zf4]
   dsimp only [Zog]
   rw [ord_in h hL (by omega),hf]
 | k+1,L,O,hL,hk,hO,hr=>by
   have hn:=h.n
   obtain ⟨a0,ha0,hfree⟩:=some_free h hL (by omega)
   cases hq:(List.range' 0 (N-0)).find? (Zvg l L) with
   | none=>
     rw [List.find?_eq_none] at hq
     exact absurd hfree (hq a0 (by rw [List.mem_range'_1];omega))
   | some a=>
     have hf:Zwg N l L O 0 = .inl (L.set a false,O++[(a:Int)]):=by
      unfold Zwg;rw [hq]
     have ha:=List.mem_of_find?_eq_some hq
     have hfa:=List.find?_some hq
     rw [List.mem_range'_1] at ha
     unfold Zvg at hfa
     rw [Bool.and_eq_true] at hfa
     have hLa:L[a]?=some true:=by
      have h1:=hfa.1
      unfold Zug at h1
      cases hc:L[a]? with
      | none=>rw [hc] at h1;simp at h1
      | some b=>rw [hc] at h1;have:b=true:=by simpa using h1
                rw [this]
     have hcs:=count_set hLa
     obtain ⟨O',L',h1,h2,h3⟩:=ord_out h k (L.set a false) (O++[(a:Int)]) (by rw [List.length_set];exact hL) (by omega) (by rw [List.length_append,List.length_singleton];omega) (fun b hb=>by
      rcases List.mem_append.1 hb with hb | hb
      ·exact hr b hb
      ·rw [List.mem_singleton] at hb;omega)
     refine ⟨O',L',?_,h2,h3⟩
     rw [Zf4]
     dsimp only [Zog]
     rw [ord_in h hL (by omega),hf]
     exact h1
theorem s_dagOrder {N:Nat} {r:Nat→Int} {l:List Arc} (h:ArcsR N r l):∃O,Zqg N l=some (O,true)∧O.length=N∧∀a∈O,0≤a∧a<(N:Int):=by
 have hn:=h.n
 obtain ⟨O,L,h1,h2,h3⟩:=ord_out h N (List.replicate N true) [] (by simp) (by simp) (by simp) (by simp)
 refine ⟨O,?_,h2,h3⟩
 unfold Zqg
 rw [Ztg h,Option.bind_some,show decide ((0:Int)=0)=true from rfl,Bool.not_true,Zv5]
 have hR:Zbg [true] (N:Int)=some (List.replicate N true):=by
  unfold Zbg
  rw [if_pos ⟨rfl,by omega,by omega⟩]
  rfl
 have hrun:Zpg (N:Int) l=some (O,L):=by
  unfold Zpg
  rw [hR,Option.bind_some]
  exact h1
 rw [hrun,Option.bind_some,Z05]
 dsimp only
 rw [h2,decide_eq_false (by omega),Zv5]
theorem arcs_R {g:Graph} {s:Scene} {r:Nat→Int} (hg:okG g=true) (hi:Inv g s) (he:Zte r s):ArcsR g.N.toNat r (Zjf s):=by
 obtain ⟨g1,g2,g3,_⟩:=Zd7 hg
 refine ⟨by omega,by rw [arcs_len hg hi he];exact g3,arcs_nd hg hi he,fun z hz=>?_⟩
 obtain ⟨a1,a2,a3,a4,_,a6⟩:=arcs_rank hg hi he hz
 exact ⟨a1,by omega,a3,by omega,a6⟩
theorem s_orderG {g:Graph} {s:Scene} {r:Nat→Int} (hg:okG g=true) (hi:Inv g s) (he:Zte r s):∃O,Zqg g.N (Zjf s)=some (O,true):=by
 obtain ⟨O,h,_⟩:=s_dagOrder (arcs_R hg hi he)
 rw [Int.toNat_of_nonneg (Zd7 hg).1] at h
 exact ⟨O,h⟩
theorem eat_low {g:Graph} {s:Scene} {r:Nat→Int} (hg:okG g=true) (hi:Inv g s) (he:Zte r s) {a:Nat} {d:Diner} (hd:s.Diners[a]?=some d) (hp:d.Phase=2) {z:Arc} (hz:z∈Zjf s):z.From≠a:=by
 intro e
 obtain ⟨a1,a2,a3,a4,a5,a6⟩:=arcs_rank hg hi he hz
 rw [e] at a5 a6
 obtain ⟨db,hdb⟩:=hi.get a3 a4
 obtain ⟨x,hx,xm⟩:=hi.sided (a:=(a:Int)) (by omega) (by rw [Int.toNat_natCast];exact hd) a5
 obtain ⟨y,hy,_⟩:=hi.sided a3 hdb (Zz9 hg a5)
 have et:((z.To.toNat:Nat):Int)=z.To:=Int.toNat_of_nonneg a3
 have hE:=he a z.To.toNat d db x y hd hdb (by rw [et];exact hx) hy
 obtain ⟨q1,q2⟩:=(hi.loc d (List.mem_iff_getElem?.2 ⟨_,hd⟩)).eat hp x xm
 rw [Int.toNat_natCast] at a6
 rcases hE with ⟨_,_,_,h4,_⟩ | ⟨_,h2,_⟩
 ·have:=h4 (by rw [q1,q2];rfl)
  omega
 ·rw [q1] at h2;exact absurd h2 (by simp)
end NX
end Go.Proofs.YtadebhbiglmodaaGreat
