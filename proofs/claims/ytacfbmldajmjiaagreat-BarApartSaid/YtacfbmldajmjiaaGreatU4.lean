/-
  Plain laws: the nodes of a graph are of that graph. No statement of the seat is proved here.
-/
import Derived.KernelRfl
import Derived.Test.YtacfbmldajmjiaaGreatU3
import Derived.Test.YtacfbmldajmjiaaGreatU2
import Derived.Test.YtacfbmldajmjiaaGreatU1
namespace Go.Proofs.YtacfbmldajmjiaaGreat
namespace NX
open Go
theorem risB_of:∀ {l:List Edge},l.Pairwise (fun x y=>x.lt y=true)→risB l=true
 | [],_=>rfl
 | [x],_=>rfl
 | x::y::l,h=>by
   rw [List.pairwise_cons] at h
   simp only [risB,Bool.and_eq_true]
   exact ⟨h.1 y (by simp),risB_of h.2⟩
theorem Z3g {g:Graph} {c:List Int} {a:Int} (h0:0≤a) (h:a<g.N):(Z6f g c)[a.toNat]?=some (Z5f g c a.toNat):=by
 unfold Z6f
 rw [List.getElem?_map,List.getElem?_range (by omega)];rfl
theorem Z4g {g:Graph} (hg:okG g=true) (c:List Int):((Z6f g c).length:Int)=g.N:=by
 have:=(Z28 hg).1
 simp [Z6f];omega
theorem tableT_at {g:Graph} {c:List Int} {a:Int} (h0:0≤a) (h:a<g.N):at_ (Z6f g c) a=some (Z5f g c a.toNat):=by
 have:=Zg6 (Z3g (c:=c) h0 h)
 rwa [Int.toNat_of_nonneg h0] at this
theorem Z5g (g:Graph) (c:List Int) (a:Nat) (b:Int):Z59 (Z5f g c a) b=if b∈Zye g a then some (Z4f c a b) else none:=by
 unfold Z59 Z5f
 dsimp only
 rw [List.find?_map]
 have e:((fun x:Side=>decide (x.Peer=b))∘Z4f c a)=fun z=>decide (z=b):=rfl
 rw [e]
 by_cases h:b∈Zye g a
 ·rw [if_pos h]
  have:(Zye g a).find? (fun z=>decide (z=b))=some b:=by
   cases hf:(Zye g a).find? (fun z=>decide (z=b)) with
   | none=>rw [List.find?_eq_none] at hf;exact absurd (by simp) (hf b h)
   | some z=>have:=List.find?_some hf;simp at this;rw [this]
  rw [this];rfl
 ·rw [if_neg h]
  have:(Zye g a).find? (fun z=>decide (z=b))=none:=by
   rw [List.find?_eq_none];intro z hz;simp;rintro rfl;exact h hz
  rw [this];rfl
theorem Z6g {g:Graph} (hg:okG g=true) {a b:Int} (h:b∈Zye g a):a∈Zye g b:=by
 rw [Z2f hg] at *;exact h.symm
theorem tableT_pw {g:Graph} (hg:okG g=true) (c:List Int) (d:Diner) (hd:d∈Z6f g c):d.Sides.Pairwise fun x y=>x.Peer<y.Peer:=by
 obtain ⟨a,_,rfl⟩:=List.mem_map.1 hd
 simp only [Z5f,List.pairwise_map]
 exact Zze hg a
theorem graphP_T {g:Graph} (hg:okG g=true) (c:List Int):Zn9 (Z6f g c)=(g,true):=by
 obtain ⟨g1,g2,g3,g4,g5⟩:=Z28 hg
 have hlen:=Z4g hg c
 have hall:Zk9 (Z6f g c) 0 (Z6f g c)=true:=by
  rw [Z8d]
  intro k d hd
  have hk:=(List.getElem?_eq_some_iff.1 hd).1
  have e:=Z3g (g:=g) (c:=c) (a:=(k:Int)) (by omega) (by omega)
  rw [Int.toNat_natCast,hd] at e
  simp at e;subst e
  refine ⟨by simp [Z5f],?_⟩
  rw [Nat.zero_add,Z7d]
  refine ⟨fun x hx=>?_,tableT_pw hg c _ (List.mem_iff_getElem?.2 ⟨_,hd⟩),by simp⟩
  obtain ⟨b,hb,rfl⟩:=List.mem_map.1 hx
  obtain ⟨b1,b2,b3,_,_⟩:=Z3f hg hb
  have hs:Z59 (Z5f g c b.toNat) k=some (Z4f c b.toNat k):=by
   rw [Z5g,if_pos]
   rw [Int.toNat_of_nonneg b1];exact Z6g hg hb
  have hs':(Z59 (Z5f g c b.toNat) (k:Int)).isSome=true:=by rw [hs];rfl
  show (decide (0≤b)&&(decide (b<((Z6f g c).length:Int))&&(!decide (b=(k:Int))&&(match (Z6f g c)[b.toNat]? with | some e=>(Z59 e k).isSome | none=>false))))=true
  rw [decide_eq_true b1,decide_eq_true (by omega),decide_eq_false b3,Z3g (c:=c) b1 b2]
  simpa using hs'
 have hedges:Zl9 0 (Z6f g c)=g.Edges:=by
  refine pw_ext (R:=fun x y=>x.lt y=true) Edge.lt_irr (fun x y h1 h2=>Edge.lt_irr x (Edge.lt_trans h1 h2)) (edgesL_pw (tableT_pw hg c)) (okG_pw hg) fun e=>?_
  rw [Zad]
  constructor
  ·rintro ⟨k,d,hd,he⟩
   have hk:=(List.getElem?_eq_some_iff.1 hd).1
   have e':=Z3g (g:=g) (c:=c) (a:=(k:Int)) (by omega) (by omega)
   rw [Int.toNat_natCast,hd] at e'
   simp at e';subst e'
   obtain ⟨h1,h2,x,hx,h3⟩:=Z9d.1 he
   obtain ⟨b,hb,rfl⟩:=List.mem_map.1 hx
   simp only [Z4f] at h3
   subst h3
   rw [Nat.zero_add] at h1 h2
   rcases (Z2f hg).1 hb with hb | hb
   ·obtain ⟨e1,e2⟩:=e;dsimp only at h1 hb;rw [h1];exact hb
   ·have:=g4 _ hb;dsimp only at this;omega
  ·intro he
   have h:=g4 e he
   refine ⟨e.A.toNat,Z5f g c e.A.toNat,Z3g h.1 (by omega),Z9d.2 ⟨by omega,by omega,Z4f c e.A.toNat e.B,?_,rfl⟩⟩
   simp only [Z5f]
   refine List.mem_map_of_mem ?_
   rw [Z2f hg,Int.toNat_of_nonneg h.1]
   exact .inl he
 have hG:(⟨(Z6f g c).length,Zl9 0 (Z6f g c)⟩:Graph)=g:=by
  rw [hedges,hlen]
 unfold Zn9
 rw [hG,hall,hg];rfl
def key (d:Diner):Int×List Int:=(d.ID,d.Sides.map (·.Peer))
def sideK (K:List (Int×List Int)) (i:Nat) (p:Int):Bool:=decide (0≤p)&&(decide (p<K.length)&&(!decide (p=i)&&(match K[p.toNat]? with | some e=>decide ((i:Int)∈e.2) | none=>false)))
def okFromK (K:List (Int×List Int)) (i:Nat):Option Int→List Int→Bool
 | _,[]=>true
 | p,x::r=>(match p with | none=>true | some q=>decide (q<x))&&(sideK K i x&&okFromK K i (some x) r)
def okAllK (K:List (Int×List Int)):Nat→List (Int×List Int)→Bool
 | _,[]=>true
 | i,d::r=>decide (d.1=i)&&(okFromK K i none d.2&&okAllK K (i+1) r)
def edgesK:Nat→List (Int×List Int)→List Edge
 | _,[]=>[]
 | i,d::r=>((d.2.filter fun x=>decide ((i:Int)<x)).map fun x=>⟨i,x⟩)++edgesK (i+1) r
theorem Z7g (d:Diner) (i:Int):(Z59 d i).isSome=decide (i∈d.Sides.map (·.Peer)):=by
 unfold Z59
 rw [Bool.eq_iff_iff,List.find?_isSome,decide_eq_true_iff,List.mem_map]
 simp
theorem sideB_key (l:List Diner) (i:Nat) (x:Side):Zh9 l i x=sideK (l.map key) i x.Peer:=by
 unfold Zh9 sideK
 rw [List.length_map,List.getElem?_map]
 cases l[x.Peer.toNat]? with
 | none=>rfl
 | some e=>simp only [Option.map_some,key,Z7g]
theorem Z8g (l:List Diner) (i:Nat):∀(xs:List Side) (p:Option Int),Zi9 l i p xs=okFromK (l.map key) i p (xs.map (·.Peer))
 | [],_=>rfl
 | x::r,p=>by
   simp only [Zi9,List.map_cons,okFromK,Z8g l i r,sideB_key]
   cases p<;>rfl
theorem Z9g (l:List Diner):∀(r:List Diner) (i:Nat),Zk9 l i r=okAllK (l.map key) i (r.map key)
 | [],_=>rfl
 | d::r,i=>by
   simp only [Zk9,List.map_cons,okAllK,Z9g l r,Z8g]
   rfl
theorem Zag:∀(r:List Diner) (i:Nat),Zl9 i r=edgesK i (r.map key)
 | [],_=>rfl
 | d::r,i=>by
   simp only [Zl9,List.map_cons,edgesK,Zag r,Zj9,key,List.filter_map,List.map_map]
   rfl
theorem graphP_key {l m:List Diner} (h:l.map key=m.map key):Zn9 l=Zn9 m:=by
 have hl:l.length=m.length:=by have:=congrArg List.length h;simpa using this
 unfold Zn9
 rw [Z9g,Z9g,Zag,Zag,h,hl]
theorem pw_len:∀(l:List Int) (q n:Int),l.Pairwise (· < ·)→(∀x∈l,q≤x∧x<n)→l=[]∨(l.length:Int)≤n-q
 | [],_,_,_,_=>.inl rfl
 | x::l,q,n,h,hb=>by
   rw [List.pairwise_cons] at h
   have h1:=hb x (by simp)
   right
   rcases pw_len l (x+1) n h.2 (fun y hy=>⟨by have:=h.1 y hy;omega,(hb y (by simp [hy])).2⟩) with rfl | h2
   ·simp only [List.length_cons,List.length_nil];omega
   ·simp only [List.length_cons];omega
theorem near_few {g:Graph} (hg:okG g=true) (a:Int):((Zye g a).length:Int)≤g.N:=by
 rcases pw_len (Zye g a) 0 g.N (Zze hg a) (fun x hx=>by have:=Z3f hg hx;omega) with h | h
 ·rw [h];exact (Z28 hg).1
 ·omega
def has (x:Side) (k:Int):Bool:=if k=1 then x.Fork else x.Token
def bn (b:Bool):Nat:=if b then 1 else 0
def hasD (d:Diner) (k b:Int):Nat:=match Z59 d b with | some x=>bn (has x k) | none=>0
def cnt (M:List Mail) (k a b:Int):Nat:=M.count ⟨a,b,⟨k,1,0⟩⟩
structure LocD (d:Diner):Prop where
 lo:0≤d.Phase
 hi:d.Phase≤2
 side:∀x∈d.Sides,x.Epoch=1∧x.State=0∧(x.Dirty=true→x.Fork=true)
 eat:d.Phase=2→∀x∈d.Sides,x.Fork=true∧x.Dirty=true
def mailG (g:Graph) (m:Mail):Prop:=(m.Msg.Kind=1∨m.Msg.Kind=2)∧m.Msg.Epoch=1∧m.Msg.Num=0∧m.To∈Zye g m.From
structure Inv (g:Graph) (s:Scene):Prop where
 len:(s.Diners.length:Int)=g.N
 shp:∀(a:Nat) d,s.Diners[a]?=some d→d.ID=a∧d.Sides.map (·.Peer)=Zye g a
 loc:∀d∈s.Diners,LocD d
 mail:∀m∈s.Mail,mailG g m
 one:∀(a b:Nat) da db,s.Diners[a]?=some da→s.Diners[b]?=some db→(b:Int)∈Zye g a→∀k,(k=1∨k=2)→hasD da k b+hasD db k a+cnt s.Mail k a b+cnt s.Mail k b a=1
theorem Inv.set {g:Graph} {s:Scene} (hg:okG g=true) (h:Inv g s) {a:Nat} {d d':Diner} (hd:s.Diners[a]?=some d) (hid:d'.ID=d.ID) (hp:d'.Sides.map (·.Peer)=d.Sides.map (·.Peer)) (hl:LocD d')
  {M:List Mail} (hm:∀m∈M,mailG g m) (ho:∀k p q:Int,p≠a→q≠a→cnt M k p q=cnt s.Mail k p q)
  (hc:∀b∈Zye g a,∀k,(k=1∨k=2)→hasD d' k b+cnt M k a b+cnt M k b a=hasD d k b+cnt s.Mail k a b+cnt s.Mail k b a):Inv g ⟨s.Diners.set a d',M⟩:=by
 have hlt:=(List.getElem?_eq_some_iff.1 hd).1
 have get:∀(k:Nat) e,(s.Diners.set a d')[k]?=some e→(k=a∧e=d')∨(k≠a∧s.Diners[k]?=some e):=fun k e he=>by
  rw [List.getElem?_set] at he
  split at he
  ·rename_i hk
   simp at he
   exact .inl ⟨hk.symm,he.symm⟩
  ·rename_i hk
   exact .inr ⟨fun e=>hk e.symm,he⟩
 refine ⟨by simpa using h.len,fun k e he=>?_,fun e he=>?_,hm,fun x y dx dy hx hy hxy k hk=>?_⟩
 ·rcases get k e he with ⟨rfl,rfl⟩ | ⟨_,he⟩
  ·rw [hid,hp];exact h.shp k d hd
  ·exact h.shp k e he
 ·obtain ⟨k,hk⟩:=List.mem_iff_getElem?.1 he
  rcases get k e hk with ⟨_,rfl⟩ | ⟨_,he⟩
  ·exact hl
  ·exact h.loc e (List.mem_iff_getElem?.2 ⟨_,he⟩)
 ·dsimp only at hx hy ⊢
  have hne:=(Z3f hg hxy).2.2.1
  have hyx:=Z6g hg hxy
  rcases get x dx hx with ⟨rfl,rfl⟩ | ⟨x1,hx'⟩<;>rcases get y dy hy with ⟨rfl,rfl⟩ | ⟨y1,hy'⟩
  ·exact absurd rfl hne
  ·have:=hc y hxy k hk
   have:=h.one x y d dy hd hy' hxy k hk
   omega
  ·have:=hc x hyx k hk
   have:=h.one x y dx d hx' hd hxy k hk
   omega
  ·rw [ho k x y (by omega) (by omega),ho k y x (by omega) (by omega)]
   exact h.one x y dx dy hx' hy' hxy k hk
theorem fire2_peer (ph:Int) (x:Side):(Zra ph x).Peer=x.Peer∧(Zra ph x).Epoch=x.Epoch∧(Zra ph x).State=x.State:=by
 unfold Zra Zqa
 split<;>split<;>exact ⟨rfl,rfl,rfl⟩
theorem Zbg (ph:Int) (x:Side) (h:x.Dirty=true→x.Fork=true):(Zra ph x).Dirty=true→(Zra ph x).Fork=true:=by
 unfold Zra Zqa
 split<;>split<;>simp_all
theorem fire2_eats (x:Side):Zra 2 x=x:=by
 unfold Zra Zqa
 simp
theorem fire_side (id ph k:Int) (x:Side) (hk:k=1∨k=2) (he:x.Epoch=1):bn (has (Zra ph x) k)+(Zsa id ph x).count ⟨id,x.Peer,⟨k,1,0⟩⟩=bn (has x k):=by
 obtain ⟨p,e,st,f,d,t,bo,ask⟩:=x
 dsimp only at he
 subst he
 unfold Zsa Zra Zqa has bn
 generalize h1:decide (ph=1)=q1
 generalize h2:decide (ph=2)=q2
 rcases hk with rfl | rfl<;>cases f<;>cases d<;>cases t<;>cases q1<;>cases q2<;>simp
theorem Zcg {id ph:Int} {x:Side} {m:Mail} (h:m∈Zsa id ph x):m.From=id∧m.To=x.Peer∧(m.Msg.Kind=1∨m.Msg.Kind=2)∧m.Msg.Epoch=x.Epoch∧m.Msg.Num=0:=by
 unfold Zsa at h
 rw [List.mem_append] at h
 rcases h with h | h
 ·split at h
  ·simp at h;subst h;exact ⟨rfl,rfl,.inl rfl,rfl,rfl⟩
  ·simp at h
 ·split at h
  ·simp at h;subst h;exact ⟨rfl,rfl,.inr rfl,rfl,rfl⟩
  ·simp at h
theorem Zdg {M:List Mail} {m:Mail} (h:m∉M):M.count m=0:=List.count_eq_zero.2 h
theorem Zeg (id ph k b:Int):∀(l:List Side),l.Pairwise (fun x y=>x.Peer<y.Peer)→(l.flatMap (Zsa id ph)).count ⟨id,b,⟨k,1,0⟩⟩=match l.find? (fun x=>decide (x.Peer=b)) with | some x=>(Zsa id ph x).count ⟨id,x.Peer,⟨k,1,0⟩⟩ | none=>0
 | [],_=>rfl
 | x::l,h=>by
   rw [List.pairwise_cons] at h
   rw [List.flatMap_cons,List.count_append,Zeg id ph k b l h.2,List.find?_cons]
   by_cases hx:x.Peer=b
   ·have:l.find? (fun x=>decide (x.Peer=b))=none:=by
     rw [List.find?_eq_none]
     intro y hy
     have:=h.1 y hy
     simp;omega
    rw [this,decide_eq_true hx,←hx];simp
   ·rw [decide_eq_false hx,Zdg (fun hm=>hx (Zcg hm).2.1.symm)];simp
theorem Zfg {d:Diner} {k p q:Int} (hp:p≠d.ID):(Zva d).count ⟨p,q,⟨k,1,0⟩⟩=0:=by
 refine Zdg fun h=>?_
 obtain ⟨x,_,hx⟩:=List.mem_flatMap.1 h
 exact hp (Zcg hx).1
def Zgg (d:Diner) (x:Side):Side:=if decide (d.Phase=1)&&(d.Sides.map (Zra d.Phase)).all (·.Fork) then Zta (Zra d.Phase x) else Zra d.Phase x
theorem Zhg (d:Diner):(Zua d).Sides=d.Sides.map (Zgg d):=by
 unfold Zua Zgg
 split
 ·simp only [List.map_map];rfl
 ·rfl
theorem Zig (d:Diner):(Zua d).ID=d.ID:=by unfold Zua;split<;>rfl
theorem Zjg (d:Diner) (x:Side):(Zgg d x).Peer=x.Peer∧(Zgg d x).Epoch=x.Epoch∧(Zgg d x).State=x.State∧∀k,has (Zgg d x) k=has (Zra d.Phase x) k:=by
 obtain ⟨h1,h2,h3⟩:=fire2_peer d.Phase x
 unfold Zgg
 split
 ·exact ⟨h1,h2,h3,fun k=>rfl⟩
 ·exact ⟨h1,h2,h3,fun k=>rfl⟩
theorem Zkg (d:Diner) (f:Side→Side) (hf:∀x,(f x).Peer=x.Peer) (i p b:Int):Z59 ⟨i,p,d.Sides.map f⟩ b=(Z59 d b).map f:=by
 unfold Z59
 dsimp only
 rw [List.find?_map]
 congr 2
 funext x
 simp only [Function.comp,hf]
theorem Zlg (d:Diner) (b:Int):Z59 (Zua d) b=(Z59 d b).map (Zgg d):=by
 have:=Zkg d (Zgg d) (fun x=>(Zjg d x).1) (Zua d).ID (Zua d).Phase b
 rw [←Zhg] at this
 exact this
theorem Zmg {d:Diner} {b:Int} {x:Side} (h:Z59 d b=some x):x∈d.Sides∧x.Peer=b:=by
 unfold Z59 at h
 exact ⟨List.mem_of_find?_eq_some h,by simpa using List.find?_some h⟩
theorem LocD.fire {d:Diner} (h:LocD d):LocD (Zua d):=by
 have hs:∀y∈(Zua d).Sides,∃x∈d.Sides,y=Zgg d x:=fun y hy=>by
  rw [Zhg] at hy
  obtain ⟨x,hx,rfl⟩:=List.mem_map.1 hy
  exact ⟨x,hx,rfl⟩
 have hph:(Zua d).Phase=2→(decide (d.Phase=1)&&(d.Sides.map (Zra d.Phase)).all (·.Fork))=true∨d.Phase=2:=fun h2=>by
  unfold Zua at h2
  split at h2
  ·rename_i h1;exact .inl h1
  ·exact .inr h2
 have allF:(decide (d.Phase=1)&&(d.Sides.map (Zra d.Phase)).all (·.Fork))=true→∀x∈d.Sides,(Zra d.Phase x).Fork=true:=fun h1 x hx=>by
  rw [Bool.and_eq_true,List.all_eq_true] at h1
  exact h1.2 _ (List.mem_map_of_mem hx)
 refine ⟨?_,?_,fun y hy=>?_,fun h2 y hy=>?_⟩
 ·unfold Zua;split
  ·show (0:Int)≤2;omega
  ·exact h.lo
 ·unfold Zua;split
  ·exact Int.le_refl _
  ·exact h.hi
 ·obtain ⟨x,hx,rfl⟩:=hs y hy
  obtain ⟨s1,s2,s3⟩:=h.side x hx
  obtain ⟨p1,p2,p3,_⟩:=Zjg d x
  refine ⟨by rw [p2,s1],by rw [p3,s2],?_⟩
  unfold Zgg
  split
  ·rename_i h1;exact fun _=>allF h1 x hx
  ·exact Zbg _ _ s3
 ·obtain ⟨x,hx,rfl⟩:=hs y hy
  rcases hph h2 with h1 | h1
  ·unfold Zgg
   rw [if_pos h1]
   exact ⟨allF h1 x hx,rfl⟩
  ·unfold Zgg
   rw [h1,show (decide ((2:Int)=1)&&(d.Sides.map (Zra 2)).all (·.Fork))=false from rfl,if_neg (by simp),fire2_eats]
   exact h.eat h1 x hx
theorem Inv.pw {g:Graph} {s:Scene} (hg:okG g=true) (h:Inv g s) {a:Nat} {d:Diner} (hd:s.Diners[a]?=some d):d.Sides.Pairwise fun x y=>x.Peer<y.Peer:=by
 have:=Zze hg a
 rw [←(h.shp a d hd).2,List.pairwise_map] at this
 exact this
theorem Inv.fire {g:Graph} {s:Scene} (hg:okG g=true) (h:Inv g s) {a:Nat} {d:Diner} (hd:s.Diners[a]?=some d):Inv g ⟨s.Diners.set a (Zua d),s.Mail++Zva d⟩:=by
 obtain ⟨hid,hsh⟩:=h.shp a d hd
 have hdm:=List.mem_iff_getElem?.2 ⟨_,hd⟩
 have hloc:=h.loc d hdm
 refine h.set hg hd (Zig d) ?_ hloc.fire (fun m hm=>?_) (fun k p q hp hq=>?_) (fun b hb k hk=>?_)
 ·rw [Zhg,List.map_map]
  refine List.map_congr_left fun x _=>(Zjg d x).1
 ·rcases List.mem_append.1 hm with hm | hm
  ·exact h.mail m hm
  ·obtain ⟨x,hx,hxm⟩:=List.mem_flatMap.1 hm
   obtain ⟨m1,m2,m3,m4,m5⟩:=Zcg hxm
   refine ⟨m3,by rw [m4];exact (hloc.side x hx).1,m5,?_⟩
   rw [m1,m2,hid,←hsh]
   exact List.mem_map_of_mem hx
 ·unfold cnt
  rw [List.count_append,Zfg (by rw [hid];exact hp)]
  rfl
 ·have hne:=(Z3f hg hb).2.2.1
  unfold cnt
  rw [List.count_append,List.count_append,Zfg (p:=b) (by rw [hid];exact hne)]
  have e:=Zeg d.ID d.Phase k b d.Sides (h.pw hg hd)
  rw [hid] at e
  unfold Zva
  rw [hid,e]
  unfold hasD
  rw [Zlg]
  unfold Z59
  cases hf:d.Sides.find? (fun x=>decide (x.Peer=b)) with
  | none=>simp
  | some x=>
    have hx:=List.mem_of_find?_eq_some hf
    have:=fire_side (a:Int) d.Phase k x hk (hloc.side x hx).1
    have h3:=(Zjg d x).2.2.2 k
    simp only [Option.map_some,h3]
    omega
def Zng (d:Drinker) (x:Side):Bool:=decide (x.Peer∈d.Need)
def Zog (nd:Bool) (th:Int) (x:Side):Bool:=nd&&(decide (th=2)||(decide (th=1)&&x.Fork))
def bot1 (nd:Bool) (th:Int) (x:Side):Side:=if x.Bottle&&(x.Ask&&!Zog nd th x) then {x with Bottle:=false} else x
def Zpg (nd:Bool) (th:Int) (x:Side):Side:=if decide (th=1)&&(nd&&((bot1 nd th x).Ask&&!(bot1 nd th x).Bottle)) then {bot1 nd th x with Ask:=false} else bot1 nd th x
def Zqg (id:Int) (nd:Bool) (th:Int) (x:Side):List Mail:=
 (if x.Bottle&&(x.Ask&&!Zog nd th x) then [⟨id,x.Peer,⟨3,x.Epoch,0⟩⟩] else []) ++
 (if decide (th=1)&&(nd&&((bot1 nd th x).Ask&&!(bot1 nd th x).Bottle)) then [⟨id,x.Peer,⟨4,x.Epoch,0⟩⟩] else [])
theorem Zrg (nd:Bool) (th:Int) (x:Side):(Zpg nd th x).Peer=x.Peer∧(Zpg nd th x).Epoch=x.Epoch∧(Zpg nd th x).State=x.State∧(Zpg nd th x).Fork=x.Fork∧(Zpg nd th x).Dirty=x.Dirty∧(Zpg nd th x).Token=x.Token:=by
 unfold Zpg bot1
 split<;>split<;>exact ⟨rfl,rfl,rfl,rfl,rfl,rfl⟩
theorem botM_len (id:Int) (nd:Bool) (th:Int) (x:Side):(Zqg id nd th x).length≤2:=by
 unfold Zqg
 rw [List.length_append]
 have h1:∀(c:Bool) (m:Mail),(if c then [m] else []).length≤1:=by intro c m;cases c<;>simp
 have:=h1 (x.Bottle&&(x.Ask&&!Zog nd th x)) ⟨id,x.Peer,⟨3,x.Epoch,0⟩⟩
 have:=h1 (decide (th=1)&&(nd&&((bot1 nd th x).Ask&&!(bot1 nd th x).Bottle))) ⟨id,x.Peer,⟨4,x.Epoch,0⟩⟩
 omega
theorem botMs_len (N:List Int) (id th:Int) (l:List Side):(l.flatMap fun x=>Zqg id (decide (x.Peer∈N)) th x).length≤2*l.length:=by
 induction l with
 | nil=>simp
 | cons x l ih=>have:=botM_len id (decide (x.Peer∈N)) th x;rw [List.flatMap_cons,List.length_append,List.length_cons];omega
theorem s_setHas (l:List Int) (x:Int) (hl:l.length≤1000000):Zub l x=some (decide (x∈l)):=by
 simp only [Zub,Z2g l x hl,Option.bind_some]
theorem s_send2 (y:Side) (k id ph th:Int) (N:List Int) (l:List Side) (E:List Mail) (hE:E.length≤1000000):Zmc y k id ph th N l E=some (E++[⟨id,y.Peer,⟨k,y.Epoch,0⟩⟩]):=by
 simp only [Zmc]
 rw [Zh6 _ _ (by omega) (by simp;omega),Option.bind_some]
theorem bot_step (id ph th:Int) (N:List Int) (hN:N.length≤1000000) (l:List Side) (hl:l.length≤5000) (pre post:List Side) (x:Side) (h:l=pre++x::post) (all:Bool) (A:List Side) (hA:A.length=pre.length) (E:List Mail) (hE:E.length≤900000):
  Zxc id ph th N l (all,(pre.length:Int),A++x::post,E)=some (.inl (all&&(!decide (x.Peer∈N)||(Zpg (decide (x.Peer∈N)) th x).Bottle),((pre.length+1:Nat):Int),A++Zpg (decide (x.Peer∈N)) th x::post,E++Zqg id (decide (x.Peer∈N)) th x)):=by
 have hx:=Zt8 h
 have hm:=Zu8 h
 have at1:∀y:Side,at_ (A++y::post) (pre.length:Int)=some y:=fun y=>by rw [←hA];exact Zw8 rfl
 have st1:∀y z:Side,(A++y::post).set ((pre.length:Int)).toNat z=A++z::post:=fun y z=>by rw [←hA];exact Zx8 _ _ _ _
 generalize hnd:decide (x.Peer∈N)=nd
 have j7:∀(S:List Side) (E':List Mail) z,Zrc (pre.length:Int) S E' z=some (.inl (z,((pre.length+1:Nat):Int),S,E')):=fun S E' z=>by
  dsimp only [Zrc]
  rw [Zk6 (by omega)]
 have j6:∀(y:Side) (E':List Mail),Zsc all (pre.length:Int) nd (A++y::post,E')=some (.inl (all&&(!nd||y.Bottle),((pre.length+1:Nat):Int),A++y::post,E')):=fun y E'=>by
  dsimp only [Zsc]
  rw [at1,Option.bind_some]
  simp only [j7]
  cases all<;>cases nd<;>rfl
 have j4:∀(y:Side) (E':List Mail),E'.length≤950000→Zuc id ph th N all (pre.length:Int) nd (A++y::post,E') =
   if decide (th=1)&&(nd&&(y.Ask&&!y.Bottle)) then some (.inl (all&&(!nd||y.Bottle),((pre.length+1:Nat):Int),A++{y with Ask:=false}::post,E'++[⟨id,y.Peer,⟨4,y.Epoch,0⟩⟩])) else some (.inl (all&&(!nd||y.Bottle),((pre.length+1:Nat):Int),A++y::post,E')):=fun y E' hE'=>by
  have j5:∀z,Ztc id ph th N all (pre.length:Int) nd (A++y::post) E' z=if z then some (.inl (all&&(!nd||y.Bottle),((pre.length+1:Nat):Int),A++{y with Ask:=false}::post,E'++[⟨id,y.Peer,⟨4,y.Epoch,0⟩⟩])) else some (.inl (all&&(!nd||y.Bottle),((pre.length+1:Nat):Int),A++y::post,E')):=fun z=>by
   cases z with
   | false=>dsimp only [Ztc];rw [Zd6,j6];rfl
   | true=>
     dsimp only [Ztc]
     rw [Zc6,at1,Option.bind_some,st1,s_send2 _ _ _ _ _ _ _ _ (by omega),Option.bind_some,j6]
     rfl
  dsimp only [Zuc]
  rw [at1,Option.bind_some]
  simp only [j5]
  cases decide (th=1)<;>cases nd<;>cases y.Ask<;>rfl
 have j3:∀z,Zvc id ph th N all (pre.length:Int) (A++x::post) E x nd z=if z then Zuc id ph th N all (pre.length:Int) nd (A++{x with Bottle:=false}::post,E++[⟨id,x.Peer,⟨3,x.Epoch,0⟩⟩]) else Zuc id ph th N all (pre.length:Int) nd (A++x::post,E):=fun z=>by
  cases z with
  | false=>dsimp only [Zvc];rw [Zd6];rfl
  | true=>
    dsimp only [Zvc]
    rw [Zc6,st1,s_send2 _ _ _ _ _ _ _ _ (by omega),Option.bind_some]
    rfl
 have j2:∀z,Zwc id ph th N all (pre.length:Int) (A++x::post) E x nd z=Zvc id ph th N all (pre.length:Int) (A++x::post) E x nd (x.Bottle&&(x.Ask&&!z)):=fun z=>by
  dsimp only [Zwc]
  cases x.Bottle<;>cases x.Ask<;>rfl
 have e:Zxc id ph th N l (all,(pre.length:Int),A++x::post,E)=Zvc id ph th N all (pre.length:Int) (A++x::post) E x nd (x.Bottle&&(x.Ask&&!Zog nd th x)):=by
  dsimp only [Zxc]
  rw [Zi6 hx,Zc6,at1,Option.bind_some,s_setHas N _ hN,Option.bind_some,hnd]
  simp only [j2]
  unfold Zog
  cases nd<;>cases decide (th=2)<;>cases decide (th=1)<;>rfl
 rw [e,j3]
 cases hz:(x.Bottle&&(x.Ask&&!Zog nd th x)) with
 | false=>
   have b1:bot1 nd th x=x:=by unfold bot1;rw [hz];rfl
   rw [if_neg (by simp),j4 _ _ (by omega)]
   unfold Zpg Zqg
   rw [b1,hz]
   cases (decide (th=1)&&(nd&&(x.Ask&&!x.Bottle)))<;>simp
 | true=>
   have b1:bot1 nd th x={x with Bottle:=false}:=by unfold bot1;rw [hz];rfl
   rw [if_pos rfl,j4 _ _ (by simp;omega)]
   unfold Zpg Zqg
   rw [b1,hz]
   cases (decide (th=1)&&(nd&&(x.Ask&&!false)))<;>simp
theorem s_bottles (id ph th:Int) (N:List Int) (hN:N.length≤1000000) (l:List Side) (hl:l.length≤5000) (E:List Mail) (hE:E.length≤800000):
  Zyc id ph th N l E=some (if decide (th=1)&&(l.map fun x=>Zpg (decide (x.Peer∈N)) th x).all (fun x=>!decide (x.Peer∈N)||x.Bottle) then 2 else th,l.map fun x=>Zpg (decide (x.Peer∈N)) th x,E++l.flatMap fun x=>Zqg id (decide (x.Peer∈N)) th x):=by
 have:=Zr8 l (Zxc id ph th N l) (fun pre=>((pre.map fun x=>Zpg (decide (x.Peer∈N)) th x).all (fun x=>!decide (x.Peer∈N)||x.Bottle),(pre.length:Int),(pre.map fun x=>Zpg (decide (x.Peer∈N)) th x)++l.drop pre.length,E++pre.flatMap fun x=>Zqg id (decide (x.Peer∈N)) th x))
  (fun _ _=>some (if decide (th=1)&&(l.map fun x=>Zpg (decide (x.Peer∈N)) th x).all (fun x=>!decide (x.Peer∈N)||x.Bottle) then 2 else th,l.map fun x=>Zpg (decide (x.Peer∈N)) th x,E++l.flatMap fun x=>Zqg id (decide (x.Peer∈N)) th x)) (fun pre x post h=>.inl ⟨by
    have hd:l.drop pre.length=x::post:=by rw [h];simp
    have hd':l.drop (pre++[x]).length=post:=by rw [h];simp
    have hm:=Zu8 h
    have hE':=botMs_len N id th pre
    rw [hd,hd',bot_step id ph th N hN l hl pre post x h _ _ (by simp) _ (by rw [List.length_append];omega),Zy8]
    have hp:=(Zrg (decide (x.Peer∈N)) th x).1
    simp [hp],rfl⟩) (by
  dsimp only [Zxc]
  rw [Zj6,Zd6]
  dsimp only [Zqc]
  rw [List.drop_length,List.append_nil]
  cases decide (th=1) with
  | false=>rfl
  | true=>cases (l.map fun x=>Zpg (decide (x.Peer∈N)) th x).all (fun x=>!decide (x.Peer∈N)||x.Bottle)<;>rfl)
 unfold Zyc
 simpa using this
def Zsg (d:Drinker):Int:=if decide (d.Thirst=1)&&decide (d.Diner.Phase=0) then 1 else if decide (d.Diner.Phase=2)&&(!decide (d.Thirst=1)&&!d.Diner.Sides.any (fun x=>decide (x.State=1))) then 0 else d.Diner.Phase
def Ztg (d:Drinker):Diner:=⟨d.Diner.ID,Zsg d,d.Diner.Sides⟩
def Zug (d:Drinker):List Side:=(Zua (Ztg d)).Sides.map fun x=>Zpg (Zng d x) d.Thirst x
def Zvg (d:Drinker):Int:=if decide (d.Thirst=1)&&(Zug d).all (fun x=>!Zng d x||x.Bottle) then 2 else d.Thirst
def Zwg (d:Drinker):Drinker:=⟨⟨d.Diner.ID,(Zua (Ztg d)).Phase,Zug d⟩,Zvg d,d.Need⟩
def Zxg (d:Drinker):List Mail:=Zva (Ztg d)++(Zua (Ztg d)).Sides.flatMap fun x=>Zqg d.Diner.ID (Zng d x) d.Thirst x
theorem Zyg (l:List Side) (p:Side→Option Bool) (q:Side→Bool) (hl:l.length≤4000000000000000000) (hp:∀x∈l,p x=some (q x)):Zt9 l p=some (l.any q):=by
 unfold Zt9
 rw [Zx7 l p q hl hp,Option.bind_some,Zn6,Zq6]
theorem pre_ok {d:Drinker} (h:okD d.Diner=true):okD (Ztg d)=true:=by
 simp only [okD,Bool.and_eq_true,decide_eq_true_eq] at h ⊢
 refine ⟨h.1,?_,?_,h.2.2.2⟩
 ·show 0≤Zsg d
  unfold Zsg;split
  ·omega
  ·split<;>omega
 ·show Zsg d≤2
  unfold Zsg;split
  ·omega
  ·split<;>omega
theorem fireD_len (d:Diner):(Zua d).Sides.length=d.Sides.length:=by rw [Zhg];simp
theorem s_once (d:Drinker) (h:okD d.Diner=true) (hN:d.Need.length≤1000000) (out:List Mail) (ho:out.length≤700000):
  Z3d d.Diner.ID d.Diner.Phase d.Diner.Sides d.Thirst d.Need out=some ((Zwg d).Diner.ID,(Zwg d).Diner.Phase,(Zwg d).Thirst,(Zwg d).Diner.Sides,out++Zxg d):=by
 have hl:=Zoa h
 have hp:=pre_ok h
 have hms:=Zwa d.Diner.Sides d.Diner.ID (Zsg d)
 have e0:(Ztg d).Sides=d.Diner.Sides:=rfl
 have hfl:=fireD_len (Ztg d)
 rw [e0] at hfl
 have j2:Z0d d.Diner.ID d.Diner.Sides d.Thirst d.Need out (Zsg d)=some ((Zwg d).Diner.ID,(Zwg d).Diner.Phase,(Zwg d).Thirst,(Zwg d).Diner.Sides,out++Zxg d):=by
  dsimp only [Z0d]
  have e1:(⟨d.Diner.ID,Zsg d,d.Diner.Sides⟩:Diner)=Ztg d:=rfl
  have hml:(Zva (Ztg d)).length≤130:=by unfold Zva;rw [e0];show (d.Diner.Sides.flatMap (Zsa d.Diner.ID (Zsg d))).length≤130;omega
  rw [e1,s_Fire,hp,if_pos rfl,Option.bind_some]
  dsimp only
  rw [Zh6 _ _ (by omega) (by omega),Option.bind_some,s_bottles _ _ _ _ hN _ (by omega) _ (by rw [List.length_append];omega),Option.bind_some]
  rw [Zig,List.append_assoc]
  rfl
 have hph:∀z:Int,z=Zsg d→Z0d d.Diner.ID d.Diner.Sides d.Thirst d.Need out z=some ((Zwg d).Diner.ID,(Zwg d).Diner.Phase,(Zwg d).Thirst,(Zwg d).Diner.Sides,out++Zxg d):=fun z e=>by rw [e];exact j2
 have hcf:=Zyg d.Diner.Sides (fun z=>Zgb z) (fun x=>decide (x.State=1)) (by omega) (fun x _=>rfl)
 dsimp only [Z3d,Z2d,Z1d]
 rw [hcf,Option.bind_some]
 unfold Zsg at hph
 by_cases h1:d.Thirst=1
 ·rw [decide_eq_true h1] at hph ⊢
  by_cases h2:d.Diner.Phase=0
  ·rw [decide_eq_true h2] at hph ⊢
   exact hph 1 rfl
  ·rw [decide_eq_false h2] at hph ⊢
   have:=hph d.Diner.Phase (by simp)
   rw [Zc6,Zd6,this]
   cases decide (d.Diner.Phase=2)<;>rfl
 ·rw [decide_eq_false h1] at hph ⊢
  rw [Zd6,Zd6]
  by_cases h2:d.Diner.Phase=2
  ·rw [decide_eq_true h2] at hph ⊢
   cases hop:d.Diner.Sides.any (fun x=>decide (x.State=1)) with
   | true=>
     rw [hop] at hph
     exact hph d.Diner.Phase (by simp)
   | false=>
     rw [hop] at hph
     exact hph 0 (by simp)
  ·rw [decide_eq_false h2] at hph ⊢
   exact hph d.Diner.Phase (by simp)
def Zzg (x:Side):Nat:=bn x.Fork+bn x.Token+bn x.Bottle+bn x.Ask
def bits (l:List Side):Nat:=(l.map Zzg).sum
def rank (th ph:Int):Nat:=if th=1 then (if ph=0 then 5 else if ph=1 then 4 else 3) else (if ph=1 then 2 else if ph=2 then 1 else 0)
def mu (d:Drinker):Nat:=bits d.Diner.Sides+rank d.Thirst d.Diner.Phase
theorem fire2_bits (id ph:Int) (x:Side):Zzg (Zra ph x)+(Zsa id ph x).length=Zzg x:=by
 obtain ⟨p,e,st,f,d,t,bo,ask⟩:=x
 unfold Zsa Zra Zqa Zzg bn
 generalize h1:decide (ph=1)=q1
 generalize h2:decide (ph=2)=q2
 cases f<;>cases d<;>cases t<;>cases q1<;>cases q2<;>simp<;>omega
theorem bot2_bits (id:Int) (nd:Bool) (th:Int) (x:Side):Zzg (Zpg nd th x)+(Zqg id nd th x).length=Zzg x:=by
 obtain ⟨p,e,st,f,d,t,bo,ask⟩:=x
 unfold Zqg Zpg bot1 Zog Zzg bn
 generalize h1:decide (th=1)=q1
 generalize h2:decide (th=2)=q2
 cases bo<;>cases ask<;>cases nd<;>cases q1<;>cases q2<;>cases f<;>simp<;>omega
theorem fire3_bits (d:Diner) (x:Side):Zzg (Zgg d x)=Zzg (Zra d.Phase x):=by unfold Zgg;split<;>rfl
theorem Z0h (d:Drinker):bits (Zwg d).Diner.Sides+(Zxg d).length=bits d.Diner.Sides:=by
 have key:∀l:List Side,((l.map fun x=>Zpg (Zng d (Zgg (Ztg d) x)) d.Thirst (Zgg (Ztg d) x)).map Zzg).sum+((l.flatMap (Zsa d.Diner.ID (Zsg d))).length+((l.map (Zgg (Ztg d))).flatMap fun x=>Zqg d.Diner.ID (Zng d x) d.Thirst x).length)=(l.map Zzg).sum:=by
  intro l
  induction l with
  | nil=>rfl
  | cons x l ih=>
    have h1:=fire2_bits d.Diner.ID (Zsg d) x
    have h2:=bot2_bits d.Diner.ID (Zng d (Zgg (Ztg d) x)) d.Thirst (Zgg (Ztg d) x)
    have h3:=fire3_bits (Ztg d) x
    have e:(Ztg d).Phase=Zsg d:=rfl
    rw [e] at h3
    simp only [List.map_cons,List.sum_cons,List.flatMap_cons,List.length_append]
    omega
 have:=key d.Diner.Sides
 unfold bits Zxg
 rw [List.length_append,Zhg]
 show (((Zug d).map Zzg).sum+_=_)
 unfold Zug
 rw [Zhg]
 simp only [List.map_map] at this ⊢
 exact this
theorem Z1h (d:Diner):(Zua d).Phase=d.Phase∧(decide (d.Phase=1)&&(d.Sides.map (Zra d.Phase)).all (·.Fork))=false∨d.Phase=1∧(Zua d).Phase=2:=by
 unfold Zua
 cases hq:decide (d.Phase=1)&&(d.Sides.map (Zra d.Phase)).all (·.Fork) with
 | false=>exact .inl ⟨rfl,rfl⟩
 | true=>
   rw [Bool.and_eq_true,decide_eq_true_eq] at hq
   exact .inr ⟨hq.1,rfl⟩
theorem fireM_nil {id ph:Int} {x:Side} (h:Zsa id ph x=[]):Zra ph x=x:=by
 obtain ⟨p,e,st,f,d,t,bo,ask⟩:=x
 unfold Zsa at h
 unfold Zra
 rw [List.append_eq_nil_iff] at h
 obtain ⟨h1,h2⟩:=h
 split at h1
 ·simp at h1
 ·rename_i q1
  split at h2
  ·simp at h2
  ·rename_i q2
   rw [if_neg q2]
   unfold Zqa
   rw [if_neg q1]
theorem botM_nil {id:Int} {nd:Bool} {th:Int} {x:Side} (h:Zqg id nd th x=[]):Zpg nd th x=x:=by
 unfold Zqg at h
 unfold Zpg
 rw [List.append_eq_nil_iff] at h
 obtain ⟨h1,h2⟩:=h
 split at h1
 ·simp at h1
 ·rename_i q1
  split at h2
  ·simp at h2
  ·rename_i q2
   rw [if_neg q2]
   unfold bot1
   rw [if_neg q1]
theorem map_same {α:Type} {f:α→α}:∀ {l:List α},(∀x∈l,f x=x)→l.map f=l
 | [],_=>rfl
 | x::l,h=>by rw [List.map_cons,h x (by simp),map_same fun y hy=>h y (by simp [hy])]
theorem rank_le {th ph ph' th':Int} (h0:0≤ph) (h2:ph≤2) (d:Drinker) (hd:d.Thirst=th∧d.Diner.Phase=ph) (h1:ph'=Zsg d∨Zsg d=1∧ph'=2) (ht:th'=th∨th=1∧th'=2):rank th' ph'<rank th ph∨th'=th∧ph'=ph∧Zsg d=ph:=by
 obtain ⟨d1,d2⟩:=hd
 unfold Zsg at h1 ⊢
 rw [d1,d2] at h1 ⊢
 unfold rank
 have hp:ph=0∨ph=1∨ph=2:=by omega
 by_cases ht1:th=1
 ·subst ht1
  rcases hp with rfl | rfl | rfl<;>rcases ht with rfl | ⟨_,rfl⟩<;>simp at h1 ⊢ <;>rcases h1 with rfl | h1<;>simp_all
 ·have:th'=th:=by rcases ht with h | h;exact h;exact absurd h.1 ht1
  subst this
  rcases hp with rfl | rfl | rfl
  ·simp [ht1] at h1 ⊢;rcases h1 with rfl | h1<;>simp_all
  ·simp [ht1] at h1 ⊢;rcases h1 with rfl | h1<;>simp_all
  ·cases hop:d.Diner.Sides.any (fun x=>decide (x.State=1))<;>simp [ht1,hop] at h1 ⊢ <;>simp_all
theorem once_mu {d:Drinker} (h0:0≤d.Diner.Phase) (h2:d.Diner.Phase≤2):Zwg d=d∧Zxg d=[]∨mu (Zwg d)<mu d:=by
 have hb:=Z0h d
 have hf:=Z1h (Ztg d)
 have ht:Zvg d=d.Thirst∨d.Thirst=1∧Zvg d=2:=by
  unfold Zvg
  cases hh:decide (d.Thirst=1)&&(Zug d).all (fun x=>!Zng d x||x.Bottle) with
  | false=>left;rfl
  | true=>right;rw [Bool.and_eq_true,decide_eq_true_eq] at hh;exact ⟨hh.1,rfl⟩
 have e1:(Zwg d).Diner.Phase=(Zua (Ztg d)).Phase:=rfl
 have e2:(Zwg d).Thirst=Zvg d:=rfl
 have hr:=rank_le (th':=Zvg d) (ph':=(Zua (Ztg d)).Phase) h0 h2 d ⟨rfl,rfl⟩ (by
  rcases hf with ⟨q,_⟩ | ⟨q1,q2⟩
  ·exact .inl q
  ·exact .inr ⟨q1,q2⟩) ht
 unfold mu
 rw [e1,e2]
 rcases hr with hr | ⟨r1,r2,r3⟩
 ·right;omega
 ·by_cases hm:(Zxg d).length=0
  ·left
   have hm':Zxg d=[]:=List.eq_nil_of_length_eq_zero hm
   refine ⟨?_,hm'⟩
   unfold Zxg at hm'
   rw [List.append_eq_nil_iff] at hm'
   obtain ⟨m1,m2⟩:=hm'
   have hsame:∀x∈d.Diner.Sides,Zgg (Ztg d) x=x:=fun x hx=>by
    have hnil:Zsa d.Diner.ID (Zsg d) x=[]:=by
     have:∀y∈Zsa d.Diner.ID (Zsg d) x,y∈Zva (Ztg d):=fun y hy=>List.mem_flatMap.2 ⟨x,hx,hy⟩
     rw [m1] at this
     cases hc:Zsa d.Diner.ID (Zsg d) x with
     | nil=>rfl
     | cons y l=>exact absurd (this y (by rw [hc];simp)) (by simp)
    have h2x:Zra (Zsg d) x=x:=fireM_nil hnil
    unfold Zgg
    rw [show (Ztg d).Phase=Zsg d from rfl]
    split
    ·rename_i hc
     exfalso
     rcases hf with ⟨q,q'⟩ | ⟨q1,q2⟩
     ·have:=q';rw [show (Ztg d).Phase=Zsg d from rfl] at this;rw [this] at hc;simp at hc
     ·rw [show (Ztg d).Phase=Zsg d from rfl] at q1
      rw [q1] at r3
      rw [q2] at r2
      omega
    ·exact h2x
   have hS:(Zua (Ztg d)).Sides=d.Diner.Sides:=by
    rw [Zhg];exact map_same hsame
   have hB:Zug d=d.Diner.Sides:=by
    unfold Zug
    rw [hS]
    refine map_same fun x hx=>?_
    have hnil:Zqg d.Diner.ID (Zng d x) d.Thirst x=[]:=by
     rw [hS] at m2
     have:∀y∈Zqg d.Diner.ID (Zng d x) d.Thirst x,y∈d.Diner.Sides.flatMap fun x=>Zqg d.Diner.ID (Zng d x) d.Thirst x:=fun y hy=>List.mem_flatMap.2 ⟨x,hx,hy⟩
     rw [m2] at this
     cases hc:Zqg d.Diner.ID (Zng d x) d.Thirst x with
     | nil=>rfl
     | cons y l=>exact absurd (this y (by rw [hc];simp)) (by simp)
    exact botM_nil hnil
   unfold Zwg
   rw [hB,r1,r2]
  ·right
   rw [r1,r2]
   omega
set_option maxRecDepth 100000
set_option maxHeartbeats 4000000
def e122:EC:=.seq (.reg [(Qa 2 (.box 66 8 (.t 0))),(Qa 3 (.mv (.c .ff)))]) (.seq (.reg [(Qa 4 (.fld 0 (.t 2))),(Qa 5 (.load (.t 4))),(Qa 6 (.load (.t 1))),(Qa 7 (.bin .eql (.t 5) (.t 6))),(Qa 8 (.mv (.t 7))),(Qg 9 8 true (.fld 2 (.t 2))),(Qg 10 8 true (.load (.t 9))),(Qg 11 8 true (.bin .eql (.t 10) (.c (.iv 0)))),(Qa 12 (.pick (.t 8) (.t 11) (.c .ff))),(Qa 3 (.mv (.t 12)))]) (.ret))
theorem ok122:FnOK Tryz.prog 122 Tryz.f122 e122 [.t 3] 2 11:=⟨by kernel_rfl,⟨_,rfl,by kernel_rfl⟩,by kernel_rfl,by kernel_rfl⟩
noncomputable def Z2h:Bool→Option Bool
| x3=>
 some x3
noncomputable def Z3h (x1:Side) (x2:Int):Option Bool:=
 ifb (decide (x1.Peer=x2)) (
 Z2h (decide (x1.State=0))) (
 Z2h false)
theorem Z4h (x1:Side) (x2:Int) (r:Bool) (h:Z3h x1 x2=some r):Zq2 Tryz.prog 122 [.agg (Side.row x1),.elt (Z05 x2) 0] (.bv r):=by
 refine Zu2 ok122 rfl rfl fun w0 H0=>?_
 rw [Z3h] at h
 refine Zl2 12 ?_;dsimp only [e122,go_sem];refine ⟨by simp,?_⟩;refine Zi4 (fun (x3:Bool)=>(⟨(an 3 (.bv x3::an 9 [])),[],[]⟩:St)) Z2h r ?_ fun J1=>?_
 ·intro x3 h;rw [Z2h] at h;(try dsimp only);exact Zt4 (res:=fun (r:Bool)=>.bv r) ok122 h
 ·refine Zs4 8 h rfl (fun _ h=>?_) fun _ h=>?_
  ·dsimp only [go_sem];refine Zl2 6 ?_;dsimp only [e122,go_sem];refine ⟨by simp,?_⟩;exact Zv4 J1 (s:=decide (x1.State=0)) h
  ·dsimp only [go_sem];refine Zl2 6 ?_;dsimp only [e122,go_sem];refine ⟨by simp,?_⟩;exact Zv4 J1 (s:=false) h
set_option maxRecDepth 100000
set_option maxHeartbeats 4000000
def e121:EC:=.seq (.reg [(Qa 2 (.box 3 1 (.t 0))),(Qa 3 (.mv (.c .ff)))]) (.seq (.reg [(Qa 4 (.fld 0 (.t 1))),(Qa 5 (.fld 2 (.t 4))),(Qa 6 (.load (.t 5))),(Qa 7 (.mkf 122 [(.t 2)])),(Qa 8 (.call 99 [(.t 6),(.t 7)])),(Qa 9 (.not (.t 8))),(Qa 3 (.mv (.t 9)))]) (.ret))
theorem ok121:FnOK Tryz.prog 121 Tryz.f121 e121 [.t 3] 2 8:=⟨by kernel_rfl,⟨_,rfl,by kernel_rfl⟩,by kernel_rfl,by kernel_rfl⟩
noncomputable def Z5h (x1:Int) (x2:Drinker):Option Bool:=
 (Zt9 x2.Diner.Sides ((fun z=>Z3h z x1))).bind fun x3=>
 some (!x3)
theorem Z6h (x1:Int) (x2:Drinker) (r:Bool) (h:Z5h x1 x2=some r):Zq2 Tryz.prog 121 [.iv x1,.elt (Drinker.row x2) 0] (.bv r):=by
 refine Zu2 ok121 rfl rfl fun w0 H0=>?_
 rw [Z5h] at h
 refine Zl2 11 ?_;dsimp only [e121,go_sem];refine ⟨by simp,?_⟩;obtain ⟨x3,ex3,h⟩:=Option.bind_eq_some_iff.1 h;refine Zy4 trivial ((Zw4.refl _).block 0 rfl rfl) (Zu9 x2.Diner.Sides _ _ ((fun z=>Z3h z x1)) ⟨by kernel_rfl,rfl,fun z r hz=>Z4h z x1 r hz⟩ _ ex3) (h:=?_);refine Zl2 3 ?_;dsimp only [e121,go_sem];refine ⟨by simp,?_⟩;exact Zt4 (res:=fun (r:Bool)=>.bv r) ok121 h
set_option maxRecDepth 100000
set_option maxHeartbeats 4000000
def e77:EC:=.seq (.reg [(Qa 2 (.box 63 5 (.t 0))),(Qa 4 (.alloc 63 [.iv 0,.iv 0,.nl,.iv 0,.nl])),(Qa 5 (.mv (.c (.iv 0))))]) (.seq (.reg [(Qa 8 (.mkf 121 [(.t 2)])),(Qa 6 (.mv (.t 8)))]) (.seq (.reg [(Qa 9 (.loadA 5 (.t 2))),(Qa 10 (.call 58 [(.t 9)])),(Qa 7 (.mv (.t 10)))]) (.seq (.blk 0 (.seq (.reg [(Qa 12 (.mv (.t 7))),(Qa 13 (.bin .neq (.t 12) (.c (.iv 0)))),(Qa 11 (.mv (.t 13)))]) (.ite (.t 11) (.skip) (.seq (.reg [(Qa 15 (.fld 3 (.t 2))),(Qa 16 (.load (.t 15))),(Qa 17 (.bin .neq (.t 16) (.c (.iv 0)))),(Qa 14 (.mv (.t 17)))]) (.ite (.t 14) (.reg [(Qa 7 (.mv (.c (.iv 152))))]) (.seq (.reg [(Qa 19 (.mv (.t 1))),(Qa 20 (.mv (.t 6))),(Qa 21 (.call 103 [(.t 19),(.t 20)])),(Qa 18 (.mv (.t 21)))]) (.ite (.t 18) (.reg [(Qa 7 (.mv (.c (.iv 151))))]) (.skip)))))))) (.seq (.seq (.reg [(Qa 22 (.mv (.t 7))),(Qa 23 (.bin .neq (.t 22) (.c (.iv 0))))]) (.ite (.t 23) (.seq (.reg [(Qa 24 (.build [.iv 0,.iv 0,.nl,.iv 0,.nl] [])),(Qa 25 (.mv (.t 7))),(Qb (.store 5 (.t 4) (.t 24))),(Qa 5 (.mv (.t 25)))]) (.ret)) (.skip))) (.seq (.reg [(Qa 26 (.loadA 5 (.t 2))),(Qa 27 (.call 120 [(.t 26)])),(Qb (.store 5 (.t 2) (.t 27)))]) (.seq (.reg [(Qa 28 (.mv (.t 1))),(Qa 29 (.call 123 [(.t 28)])),(Qa 30 (.fld 3 (.t 2))),(Qb (.store 1 (.t 30) (.c (.iv 1)))),(Qa 31 (.fld 4 (.t 2))),(Qb (.store 1 (.t 31) (.t 29)))]) (.seq (.reg [(Qa 32 (.loadA 5 (.t 2))),(Qb (.store 5 (.t 4) (.t 32))),(Qa 5 (.mv (.c (.iv 0))))]) (.ret))))))))
theorem ok77:FnOK Tryz.prog 77 Tryz.f77 e77 [.c 4 (some 5),.t 5] 2 31:=⟨by kernel_rfl,⟨_,rfl,by kernel_rfl⟩,by kernel_rfl,by kernel_rfl⟩
noncomputable def Z7h (x1:Drinker) (x2:(List Int)):Int→Option (Drinker×Int)
| x5=>
 ifb (!decide (x5=0)) (
 some ((Drinker.mk ((Diner.mk 0 0 (([]:(List Side))))) 0 (([]:(List Int)))),x5)) (
 (Zeb x1).bind fun x6=>
 (Z6e x2).bind fun x7=>
 some ((Drinker.mk x6.Diner 1 x7),0))
noncomputable def Z8h (x1:Drinker) (x2:(List Int)):Option (Drinker×Int):=
 (Z9b x1).bind fun x3=>
 ifb (!decide (x3=0)) (
 (Z7h x1 x2) x3) (
 ifb (!decide (x1.Thirst=0)) (
 (Z7h x1 x2) 152) (
 (Zt7 x2 ((fun z=>Z5h z x1))).bind fun x4=>
 ifb x4 (
 (Z7h x1 x2) 151) (
 (Z7h x1 x2) x3)))
theorem k_drink_Open (x1:Drinker) (x2:(List Int)) (r:(Drinker×Int)) (h:Z8h x1 x2=some r):Zq2 Tryz.prog 77 [.agg (Drinker.row x1),.sl 1 (List.map Z05 x2)] (.tup [.agg (Drinker.row r.1),.iv r.2]):=by
 refine Zu2 ok77 rfl rfl fun w0 H0=>?_
 rw [Z8h] at h
 refine Zl2 14 ?_;dsimp only [e77,go_sem];refine ⟨by simp,?_⟩;obtain ⟨x3,ex3,h⟩:=Option.bind_eq_some_iff.1 h;refine Zz2 trivial (Zab x1 _ ex3) (h:=?_);refine Zl2 10 ?_;dsimp only [e77,go_sem];refine ⟨by simp,?_⟩
 refine Zi4 (fun (x5:Int)=>(⟨(.any :: .sl 1 (List.map Z05 x2) :: .ptr 0 0 :: .any :: .ptr 1 0 :: .any :: .any :: .iv x5::an 25 []),[some ⟨63,[.iv x1.Diner.ID,.iv x1.Diner.Phase,.sl 8 (List.map Side.row x1.Diner.Sides),.iv x1.Thirst,.sl 1 (List.map Z05 x1.Need)]⟩,some ⟨63,[.iv 0,.iv 0,.nl,.iv 0,.nl]⟩],[]⟩:St)) (Z7h x1 x2) r ?_ fun J1=>?_
 ·intro x5 h;rw [Z7h] at h;(try dsimp only);refine Zl2 7 ?_;dsimp only [e77,go_sem];refine ⟨by simp,?_⟩;refine Zk4 h rfl (fun _ h=>?_) fun _ h=>?_
  ·refine Zl2 7 ?_;dsimp only [e77,go_sem];refine ⟨by simp,?_⟩;exact Zt4 (res:=fun (r:(Drinker×Int))=>.tup [.agg (Drinker.row r.1),.iv r.2]) ok77 h
  ·refine Zl2 4 ?_;dsimp only [e77,go_sem];refine ⟨by simp,?_⟩;obtain ⟨x6,ex6,h⟩:=Option.bind_eq_some_iff.1 h;refine Zz2 trivial (Zfb x1 _ ex6) (h:=?_);refine Zl2 5 ?_;dsimp only [e77,go_sem];refine ⟨by simp,?_⟩;obtain ⟨x7,ex7,h⟩:=Option.bind_eq_some_iff.1 h;refine Zz2 trivial (k_set_Of x2 _ ex7) (h:=?_);refine Zl2 11 ?_;dsimp only [e77,go_sem];refine ⟨by simp,?_⟩;exact Zt4 (res:=fun (r:(Drinker×Int))=>.tup [.agg (Drinker.row r.1),.iv r.2]) ok77 h
 ·refine Zk4 h rfl (fun _ h=>?_) fun _ h=>?_
  ·refine Zl2 1 ?_;dsimp only [e77,go_sem];refine ⟨by simp,?_⟩;exact Zv4 J1 (s:=x3) h
  ·refine Zl2 7 ?_;dsimp only [e77,go_sem];refine ⟨by simp,?_⟩;refine Zk4 h rfl (fun _ h=>?_) fun _ h=>?_
   ·refine Zl2 3 ?_;dsimp only [e77,go_sem];refine ⟨by simp,?_⟩;exact Zv4 J1 (s:=152) h
   ·refine Zl2 4 ?_;dsimp only [e77,go_sem];refine ⟨by simp,?_⟩;obtain ⟨x4,ex4,h⟩:=Option.bind_eq_some_iff.1 h;refine Zy4 trivial ((Zw4.refl _).block 0 rfl rfl) (Zu7 x2 _ _ ((fun z=>Z5h z x1)) ⟨by kernel_rfl,rfl,fun z r hz=>Z6h z x1 r hz⟩ _ ex4) (h:=?_);refine Zl2 2 ?_;dsimp only [e77,go_sem];refine ⟨by simp,?_⟩;refine Zk4 h rfl (fun _ h=>?_) fun _ h=>?_
    ·refine Zl2 3 ?_;dsimp only [e77,go_sem];refine ⟨by simp,?_⟩;exact Zv4 J1 (s:=151) h
    ·refine Zl2 1 ?_;dsimp only [e77,go_sem];refine ⟨by simp,?_⟩;exact Zv4 J1 (s:=x3) h
set_option maxRecDepth 100000
set_option maxHeartbeats 4000000
def e75:EC:=.seq (.reg [(Qa 1 (.box 63 5 (.t 0))),(Qa 2 (.alloc 63 [.iv 0,.iv 0,.nl,.iv 0,.nl])),(Qa 3 (.mv (.c (.iv 0))))]) (.seq (.seq (.reg [(Qa 5 (.loadA 5 (.t 1))),(Qa 6 (.call 58 [(.t 5)])),(Qa 4 (.mv (.t 6)))]) (.seq (.reg [(Qa 7 (.mv (.t 4))),(Qa 8 (.bin .neq (.t 7) (.c (.iv 0))))]) (.ite (.t 8) (.seq (.reg [(Qa 9 (.build [.iv 0,.iv 0,.nl,.iv 0,.nl] [])),(Qa 10 (.mv (.t 4))),(Qb (.store 5 (.t 2) (.t 9))),(Qa 3 (.mv (.t 10)))]) (.ret)) (.skip)))) (.seq (.seq (.reg [(Qa 11 (.fld 3 (.t 1))),(Qa 12 (.load (.t 11))),(Qa 13 (.bin .eql (.t 12) (.c (.iv 0))))]) (.ite (.t 13) (.seq (.reg [(Qa 14 (.build [.iv 0,.iv 0,.nl,.iv 0,.nl] [])),(Qb (.store 5 (.t 2) (.t 14))),(Qa 3 (.mv (.c (.iv 152))))]) (.ret)) (.skip))) (.seq (.reg [(Qa 15 (.loadA 5 (.t 1))),(Qa 16 (.call 120 [(.t 15)])),(Qb (.store 5 (.t 1) (.t 16)))]) (.seq (.reg [(Qa 17 (.fld 3 (.t 1))),(Qb (.store 1 (.t 17) (.c (.iv 0)))),(Qa 18 (.fld 4 (.t 1))),(Qb (.store 1 (.t 18) (.c .nl)))]) (.seq (.reg [(Qa 19 (.loadA 5 (.t 1))),(Qb (.store 5 (.t 2) (.t 19))),(Qa 3 (.mv (.c (.iv 0))))]) (.ret))))))
theorem ok75:FnOK Tryz.prog 75 Tryz.f75 e75 [.c 2 (some 5),.t 3] 1 19:=⟨by kernel_rfl,⟨_,rfl,by kernel_rfl⟩,by kernel_rfl,by kernel_rfl⟩
noncomputable def Z9h (x1:Drinker):Option (Drinker×Int):=
 (Z9b x1).bind fun x2=>
 ifb (!decide (x2=0)) (
 some ((Drinker.mk ((Diner.mk 0 0 (([]:(List Side))))) 0 (([]:(List Int)))),x2)) (
 ifb (decide (x1.Thirst=0)) (
 some ((Drinker.mk ((Diner.mk 0 0 (([]:(List Side))))) 0 (([]:(List Int)))),152)) (
 (Zeb x1).bind fun x3=>
 some ((Drinker.mk x3.Diner 0 (([]:(List Int)))),0)))
theorem k_drink_Close (x1:Drinker) (r:(Drinker×Int)) (h:Z9h x1=some r):Zq2 Tryz.prog 75 [.agg (Drinker.row x1)] (.tup [.agg (Drinker.row r.1),.iv r.2]):=by
 refine Zu2 ok75 rfl rfl fun w0 H0=>?_
 rw [Z9h] at h
 refine Zl2 10 ?_;dsimp only [e75,go_sem];refine ⟨by simp,?_⟩;obtain ⟨x2,ex2,h⟩:=Option.bind_eq_some_iff.1 h;refine Zz2 trivial (Zab x1 _ ex2) (h:=?_);refine Zl2 7 ?_;dsimp only [e75,go_sem];refine ⟨by simp,?_⟩;refine Zk4 h rfl (fun _ h=>?_) fun _ h=>?_
 ·refine Zl2 7 ?_;dsimp only [e75,go_sem];refine ⟨by simp,?_⟩;exact Zt4 (res:=fun (r:(Drinker×Int))=>.tup [.agg (Drinker.row r.1),.iv r.2]) ok75 h
 ·refine Zl2 8 ?_;dsimp only [e75,go_sem];refine ⟨by simp,?_⟩;refine Zk4 h rfl (fun _ h=>?_) fun _ h=>?_
  ·refine Zl2 6 ?_;dsimp only [e75,go_sem];refine ⟨by simp,?_⟩;exact Zt4 (res:=fun (r:(Drinker×Int))=>.tup [.agg (Drinker.row r.1),.iv r.2]) ok75 h
  ·refine Zl2 4 ?_;dsimp only [e75,go_sem];refine ⟨by simp,?_⟩;obtain ⟨x3,ex3,h⟩:=Option.bind_eq_some_iff.1 h;refine Zz2 trivial (Zfb x1 _ ex3) (h:=?_);refine Zl2 15 ?_;dsimp only [e75,go_sem];refine ⟨by simp,?_⟩;exact Zt4 (res:=fun (r:(Drinker×Int))=>.tup [.agg (Drinker.row r.1),.iv r.2]) ok75 h
set_option maxRecDepth 100000
set_option maxHeartbeats 4000000
def e137:EC:=.seq (.reg [(Qa 3 (.box 66 8 (.t 0))),(Qa 4 (.mv (.c .ff)))]) (.seq (.reg [(Qa 5 (.fld 0 (.t 3))),(Qa 6 (.load (.t 5))),(Qa 7 (.load (.t 1))),(Qa 8 (.bin .eql (.t 6) (.t 7))),(Qa 9 (.mv (.t 8))),(Qg 10 9 true (.fld 1 (.t 3))),(Qg 11 9 true (.load (.t 10))),(Qg 12 9 true (.fld 1 (.t 2))),(Qg 13 9 true (.load (.t 12))),(Qg 14 9 true (.bin .eql (.t 11) (.t 13))),(Qa 15 (.pick (.t 9) (.t 14) (.c .ff))),(Qa 4 (.mv (.t 15)))]) (.ret))
theorem ok137:FnOK Tryz.prog 137 Tryz.f137 e137 [.t 4] 3 13:=⟨by kernel_rfl,⟨_,rfl,by kernel_rfl⟩,by kernel_rfl,by kernel_rfl⟩
noncomputable def Zah:Bool→Option Bool
| x4=>
 some x4
noncomputable def Zbh (x1:Side) (x2:Int) (x3:Msg):Option Bool:=
 ifb (decide (x1.Peer=x2)) (
 Zah (decide (x1.Epoch=x3.Epoch))) (
 Zah false)
theorem k_drink_Get_1 (x1:Side) (x2:Int) (x3:Msg) (r:Bool) (h:Zbh x1 x2 x3=some r):Zq2 Tryz.prog 137 [.agg (Side.row x1),.elt (Z05 x2) 0,.elt (Msg.row x3) 0] (.bv r):=by
 refine Zu2 ok137 rfl rfl fun w0 H0=>?_
 rw [Zbh] at h
 refine Zl2 12 ?_;dsimp only [e137,go_sem];refine ⟨by simp,?_⟩;refine Zi4 (fun (x4:Bool)=>(⟨(an 4 (.bv x4::an 11 [])),[],[]⟩:St)) Zah r ?_ fun J1=>?_
 ·intro x4 h;rw [Zah] at h;(try dsimp only);exact Zt4 (res:=fun (r:Bool)=>.bv r) ok137 h
 ·refine Zs4 9 h rfl (fun _ h=>?_) fun _ h=>?_
  ·dsimp only [go_sem];refine Zl2 8 ?_;dsimp only [e137,go_sem];refine ⟨by simp,?_⟩;exact Zv4 J1 (s:=decide (x1.Epoch=x3.Epoch)) h
  ·dsimp only [go_sem];refine Zl2 8 ?_;dsimp only [e137,go_sem];refine ⟨by simp,?_⟩;exact Zv4 J1 (s:=false) h
set_option maxRecDepth 100000
set_option maxHeartbeats 4000000
def e91:EC:=.seq (.reg [(Qa 3 (.box 63 5 (.t 0))),(Qa 4 (.box 3 1 (.t 1))),(Qa 5 (.box 93 3 (.t 2))),(Qa 6 (.alloc 63 [.iv 0,.iv 0,.nl,.iv 0,.nl])),(Qa 7 (.mv (.c (.iv 0))))]) (.seq (.seq (.reg [(Qa 13 (.loadA 5 (.t 3))),(Qa 14 (.call 58 [(.t 13)])),(Qa 8 (.mv (.t 14)))]) (.seq (.reg [(Qa 15 (.mv (.t 8))),(Qa 16 (.bin .neq (.t 15) (.c (.iv 0))))]) (.ite (.t 16) (.seq (.reg [(Qa 17 (.build [.iv 0,.iv 0,.nl,.iv 0,.nl] [])),(Qa 18 (.mv (.t 8))),(Qb (.store 5 (.t 6) (.t 17))),(Qa 7 (.mv (.t 18)))]) (.ret)) (.skip)))) (.seq (.reg [(Qa 19 (.loadA 5 (.t 3))),(Qa 20 (.call 120 [(.t 19)])),(Qb (.store 5 (.t 3) (.t 20)))]) (.seq (.reg [(Qa 21 (.fld 0 (.t 3))),(Qa 22 (.fld 2 (.t 21))),(Qa 23 (.load (.t 22))),(Qa 24 (.mkf 137 [(.t 4),(.t 5)])),(Qa 25 (.call 116 [(.t 23),(.t 24)])),(Qa 9 (.mv (.t 25)))]) (.seq (.seq (.reg [(Qa 26 (.mv (.t 9))),(Qa 27 (.bin .lss (.t 26) (.c (.iv 0)))),(Qa 28 (.mv (.t 27))),(Qg 29 28 false (.fld 2 (.t 5))),(Qg 30 28 false (.load (.t 29))),(Qg 31 28 false (.bin .neq (.t 30) (.c (.iv 0)))),(Qa 32 (.pick (.t 28) (.c .tt) (.t 31))),(Qa 33 (.mv (.t 32))),(Qg 34 33 false (.fld 0 (.t 5))),(Qg 35 33 false (.load (.t 34))),(Qg 36 33 false (.bin .neq (.t 35) (.c (.iv 3)))),(Qg 37 33 false (.mv (.t 36))),(Qg 38 37 true (.fld 0 (.t 5))),(Qg 39 37 true (.load (.t 38))),(Qg 40 37 true (.bin .neq (.t 39) (.c (.iv 4)))),(Qg 41 33 false (.pick (.t 37) (.t 40) (.c .ff))),(Qa 42 (.pick (.t 33) (.c .tt) (.t 41)))]) (.ite (.t 42) (.seq (.reg [(Qa 44 (.fld 0 (.t 3))),(Qa 45 (.loadA 3 (.t 44))),(Qa 46 (.load (.t 4))),(Qa 47 (.loadA 3 (.t 5))),(Qa 48 (.call 138 [(.t 45),(.t 46),(.t 47)])),(Qa 43 (.mv (.t 48))),(Qa 49 (.ext (.t 43) 0)),(Qa 50 (.ext (.t 43) 1)),(Qa 10 (.alloc 61 [.iv 0,.iv 0,.nl])),(Qb (.store 3 (.t 10) (.t 49))),(Qa 11 (.mv (.t 50)))]) (.seq (.seq (.reg [(Qa 51 (.mv (.t 11))),(Qa 52 (.bin .neq (.t 51) (.c (.iv 0))))]) (.ite (.t 52) (.seq (.reg [(Qa 53 (.build [.iv 0,.iv 0,.nl,.iv 0,.nl] [])),(Qa 54 (.mv (.t 11))),(Qb (.store 5 (.t 6) (.t 53))),(Qa 7 (.mv (.t 54)))]) (.ret)) (.skip))) (.seq (.reg [(Qa 55 (.loadA 3 (.t 10))),(Qa 56 (.fld 0 (.t 3))),(Qb (.store 3 (.t 56) (.t 55)))]) (.seq (.reg [(Qa 57 (.loadA 5 (.t 3))),(Qb (.store 5 (.t 6) (.t 57))),(Qa 7 (.mv (.c (.iv 0))))]) (.ret))))) (.skip))) (.seq (.reg [(Qa 58 (.fld 0 (.t 3))),(Qa 59 (.fld 2 (.t 58))),(Qa 60 (.load (.t 59))),(Qa 61 (.mv (.t 9))),(Qa 62 (.idx 8 (.t 60) (.t 61))),(Qa 63 (.fld 6 (.t 62))),(Qa 12 (.mv (.t 63)))]) (.seq (.seq (.reg [(Qa 64 (.fld 0 (.t 5))),(Qa 65 (.load (.t 64))),(Qa 66 (.bin .eql (.t 65) (.c (.iv 4))))]) (.ite (.t 66) (.reg [(Qa 67 (.fld 0 (.t 3))),(Qa 68 (.fld 2 (.t 67))),(Qa 69 (.load (.t 68))),(Qa 70 (.mv (.t 9))),(Qa 71 (.idx 8 (.t 69) (.t 70))),(Qa 72 (.fld 7 (.t 71))),(Qa 12 (.mv (.t 72)))]) (.skip))) (.seq (.seq (.reg [(Qa 73 (.mv (.t 12))),(Qa 74 (.nilchk (.t 73))),(Qa 75 (.load (.t 74)))]) (.ite (.t 75) (.seq (.reg [(Qa 76 (.build [.iv 0,.iv 0,.nl,.iv 0,.nl] [])),(Qb (.store 5 (.t 6) (.t 76))),(Qa 7 (.mv (.c (.iv 132))))]) (.ret)) (.skip))) (.seq (.reg [(Qa 77 (.mv (.t 12))),(Qa 78 (.nilchk (.t 77))),(Qb (.store 1 (.t 78) (.c .tt)))]) (.seq (.reg [(Qa 79 (.loadA 5 (.t 3))),(Qb (.store 5 (.t 6) (.t 79))),(Qa 7 (.mv (.c (.iv 0))))]) (.ret))))))))))
theorem ok91:FnOK Tryz.prog 91 Tryz.f91 e91 [.c 6 (some 5),.t 7] 3 77:=⟨by kernel_rfl,⟨_,rfl,by kernel_rfl⟩,by kernel_rfl,by kernel_rfl⟩
noncomputable def Zch (x1:Drinker):Option ((List Side)×(List Int)):=
 (Zaa x1.Diner.Sides).bind fun x2=>
 (Zbb x1.Need).bind fun x3=>
 some (x2,x3)
theorem Zdh (x1:Drinker) (r:((List Side)×(List Int))) (h:Zch x1=some r):FunT Tryz.prog 120 [.agg [.iv x1.Diner.ID,.iv x1.Diner.Phase,.sl 8 (List.map Side.row x1.Diner.Sides),.iv x1.Thirst,.sl 1 (List.map Z05 x1.Need)]] [none,none,none,none] [] (.agg [.iv x1.Diner.ID,.iv x1.Diner.Phase,.osl 0,.iv x1.Thirst,.osl 1]) [none,none,none,none] [some ⟨66,8,List.map Side.row r.1⟩,some ⟨3,1,List.map Z05 r.2⟩]:=by
 refine Zt5 ok120 rfl rfl rfl (by first | rfl | simp [go_sem]) fun w0 M0=>?_
 rw [Zch] at h
 dsimp only [lun,List.cons_append,List.nil_append]
 refine Zl2 6 ?_;dsimp only [e120,go_sem];refine ⟨by simp,?_⟩;refine Zh3 (by kernel_rfl) fun all hall hs hnap haf=>?_;dsimp only [go_sem];refine Zf5 hall hs haf hnap 5 7 ?_;dsimp only [go_sem];refine ⟨by simp,?_⟩;refine Zu3 3 rfl ?_;obtain ⟨x2,ex2,h⟩:=Option.bind_eq_some_iff.1 h;refine Zb5 hall rfl trivial (Zba x1.Diner.Sides _ ex2) (h:=?_);dsimp only [go_sem];refine Zf5 hall hs haf hnap 2 4 ?_;dsimp only [go_sem];refine ⟨by simp,?_⟩;refine Zu3 6 rfl ?_;obtain ⟨x3,ex3,h⟩:=Option.bind_eq_some_iff.1 h
 refine Zb5 hall rfl trivial (Zcb x1.Need _ ex3) (h:=?_);dsimp only [go_sem];refine Zu3 9 rfl ?_;refine Zz3 hall rfl trivial ?_;dsimp only [go_sem];refine Zf5 hall hs haf hnap 1 1 ?_;dsimp only [go_sem];refine ⟨by simp,?_⟩;refine Zu3 11 rfl ?_;refine Zz3 hall rfl trivial ?_;dsimp only [go_sem];refine Zt3 rfl ?_ _;refine Zl2 5 ?_;dsimp only [e120,go_sem];refine ⟨by simp,?_⟩;obtain rfl:=Option.some.inj h;exact Zu5 ok120 rfl (by simp [go_sem])
noncomputable def Zeh (x1:Drinker) (x2:Int) (x3:Msg) (x5:((List Side)×(List Int))) (x6:Int):Bool→Option (Drinker×Int)
| x7=>
 ifb x7 (
 (Zha ((Diner.mk x1.Diner.ID x1.Diner.Phase x5.1)) x2 x3).bind fun x8=>
 ifb (!decide (x8.2=0)) (
 some ((Drinker.mk ((Diner.mk 0 0 (([]:(List Side))))) 0 (([]:(List Int)))),x8.2)) (
 some ((Drinker.mk x8.1 x1.Thirst x5.2),0))) (
 (at_ x5.1 x6).bind fun x9=>
 ifb (decide (x3.Kind=4)) (
 ifb x9.Ask (
 some ((Drinker.mk ((Diner.mk 0 0 (([]:(List Side))))) 0 (([]:(List Int)))),132)) (
 some ((Drinker.mk ((Diner.mk x1.Diner.ID x1.Diner.Phase (x5.1.set (x6).toNat ((Side.mk x9.Peer x9.Epoch x9.State x9.Fork x9.Dirty x9.Token x9.Bottle true))))) x1.Thirst x5.2),0))) (
 ifb x9.Bottle (
 some ((Drinker.mk ((Diner.mk 0 0 (([]:(List Side))))) 0 (([]:(List Int)))),132)) (
 some ((Drinker.mk ((Diner.mk x1.Diner.ID x1.Diner.Phase (x5.1.set (x6).toNat ((Side.mk x9.Peer x9.Epoch x9.State x9.Fork x9.Dirty x9.Token true x9.Ask))))) x1.Thirst x5.2),0))))
noncomputable def Zfh (x1:Drinker) (x2:Int) (x3:Msg):Option (Drinker×Int):=
 (Z9b x1).bind fun x4=>
 ifb (!decide (x4=0)) (
 some ((Drinker.mk ((Diner.mk 0 0 (([]:(List Side))))) 0 (([]:(List Int)))),x4)) (
 (Zch x1).bind fun x5=>
 (Z37 x5.1 ((fun z=>Zbh z x2 x3))).bind fun x6=>
 ifb (decide (x6<0)) (
 (Zeh x1 x2 x3 x5 x6) true) (
 ifb (!decide (x3.Num=0)) (
 (Zeh x1 x2 x3 x5 x6) true) (
 ifb (!decide (x3.Kind=3)) (
 (Zeh x1 x2 x3 x5 x6) (!decide (x3.Kind=4))) (
 (Zeh x1 x2 x3 x5 x6) false))))
theorem k_drink_Get (x1:Drinker) (x2:Int) (x3:Msg) (r:(Drinker×Int)) (h:Zfh x1 x2 x3=some r):Zq2 Tryz.prog 91 [.agg (Drinker.row x1),.iv x2,.agg (Msg.row x3)] (.tup [.agg (Drinker.row r.1),.iv r.2]):=by
 refine Zu2 ok91 rfl rfl fun w0 H0=>?_
 rw [Zfh] at h
 refine Zl2 12 ?_;dsimp only [e91,go_sem];refine ⟨by simp,?_⟩;obtain ⟨x4,ex4,h⟩:=Option.bind_eq_some_iff.1 h;refine Zz2 trivial (Zab x1 _ ex4) (h:=?_);refine Zl2 7 ?_;dsimp only [e91,go_sem];refine ⟨by simp,?_⟩;refine Zk4 h rfl (fun _ h=>?_) fun _ h=>?_
 ·refine Zl2 7 ?_;dsimp only [e91,go_sem];refine ⟨by simp,?_⟩;exact Zt4 (res:=fun (r:(Drinker×Int))=>.tup [.agg (Drinker.row r.1),.iv r.2]) ok91 h
 ·refine Zl2 4 ?_;dsimp only [e91,go_sem];refine ⟨by simp,?_⟩;obtain ⟨x5,ex5,h⟩:=Option.bind_eq_some_iff.1 h;refine Zw5 [false,false,false,false] [] trivial (Zdh x1 _ ex5) (h:=?_);dsimp only [go_sem];refine Zl2 8 ?_;dsimp only [e91,go_sem];refine ⟨by simp,?_⟩;obtain ⟨x6,ex6,h⟩:=Option.bind_eq_some_iff.1 h;refine Zy4 trivial ((((Zw4.refl _).slice 0 rfl).block 1 rfl rfl).block 2 rfl rfl) (Z47 x5.1 _ _ ((fun z=>Zbh z x2 x3)) ⟨by kernel_rfl,rfl,fun z r hz=>k_drink_Get_1 z x2 x3 r hz⟩ _ ex6) (h:=?_)
  refine Zl2 8 ?_;dsimp only [e91,go_sem];refine ⟨by simp,?_⟩;refine Zi4 (fun (x7:Bool)=>(⟨(an 3 (.ptr 0 0 :: .ptr 1 0 :: .ptr 2 0 :: .ptr 3 0 :: .any :: .any :: .iv x6::an 32 (.bv x7::an 37 []))),[some ⟨63,[.iv x1.Diner.ID,.iv x1.Diner.Phase,.osl 0,.iv x1.Thirst,.osl 1]⟩,some ⟨3,[.iv x2]⟩,some ⟨93,[.iv x3.Kind,.iv x3.Epoch,.iv x3.Num]⟩,some ⟨63,[.iv 0,.iv 0,.nl,.iv 0,.nl]⟩],[some ⟨66,8,List.map Side.row x5.1⟩,some ⟨3,1,List.map Z05 x5.2⟩]⟩:St)) (Zeh x1 x2 x3 x5 x6) r ?_ fun J1=>?_
  ·intro x7 h;rw [Zeh] at h;(try dsimp only);refine Zk4 h rfl (fun _ h=>?_) fun _ h=>?_
   ·refine Zl2 6 ?_;dsimp only [e91,go_sem];refine ⟨by simp,?_⟩;refine Z83 0 rfl ?_;dsimp only [go_sem];obtain ⟨x8,ex8,h⟩:=Option.bind_eq_some_iff.1 h;refine Zz2 trivial (k_dine_Get ((Diner.mk x1.Diner.ID x1.Diner.Phase x5.1)) x2 x3 _ ex8) (h:=?_);refine Zl2 13 ?_;dsimp only [e91,go_sem];refine ⟨by simp,?_⟩;refine Zk4 h rfl (fun _ h=>?_) fun _ h=>?_
    ·refine Zl2 7 ?_;dsimp only [e91,go_sem];refine ⟨by simp,?_⟩;exact Zt4 (res:=fun (r:(Drinker×Int))=>.tup [.agg (Drinker.row r.1),.iv r.2]) ok91 h
    ·refine Zl2 13 ?_;dsimp only [e91,go_sem];refine ⟨by simp,?_⟩;refine Z83 1 rfl ?_;dsimp only [go_sem];exact Zt4 (res:=fun (r:(Drinker×Int))=>.tup [.agg (Drinker.row r.1),.iv r.2]) ok91 h
   ·refine Zl2 7 ?_;dsimp only [e91,go_sem];refine ⟨by simp,?_⟩;obtain ⟨x9,ex9,h⟩:=Option.bind_eq_some_iff.1 h;refine Zi5 Side.row ex9 trivial rfl rfl rfl ?_;refine Zl2 10 ?_;dsimp only [e91,go_sem];refine ⟨by simp,?_⟩;refine Zk4 h rfl (fun _ h=>?_) fun _ h=>?_
    ·refine Zl2 5 ?_;dsimp only [e91,go_sem];refine ⟨by simp,?_⟩;refine Zi5 Side.row ex9 trivial rfl rfl rfl ?_;refine Zl2 8 ?_;dsimp only [e91,go_sem];refine ⟨by simp,?_⟩;refine Zj5 Side.row ex9 trivial rfl rfl rfl ?_;refine Zl2 1 ?_;dsimp only [e91,go_sem];refine ⟨by simp,?_⟩;refine Zk4 h rfl (fun _ h=>?_) fun _ h=>?_
     ·refine Zl2 6 ?_;dsimp only [e91,go_sem];refine ⟨by simp,?_⟩;exact Zt4 (res:=fun (r:(Drinker×Int))=>.tup [.agg (Drinker.row r.1),.iv r.2]) ok91 h
     ·refine Zl2 5 ?_;dsimp only [e91,go_sem];refine ⟨by simp,?_⟩;refine Zo5 [.bv true] Side.row (y':=(Side.mk x9.Peer x9.Epoch x9.State x9.Fork x9.Dirty x9.Token x9.Bottle true)) ex9 trivial rfl rfl rfl (by first | exact Zb4 _ | simp [go_sem]) rfl rfl rfl rfl ?_;refine Zl2 7 ?_;dsimp only [e91,go_sem];refine ⟨by simp,?_⟩;refine Z83 0 rfl ?_;dsimp only [go_sem];refine Z83 1 rfl ?_;dsimp only [go_sem];exact Zt4 (res:=fun (r:(Drinker×Int))=>.tup [.agg (Drinker.row r.1),.iv r.2]) ok91 h
    ·refine Zl2 6 ?_;dsimp only [e91,go_sem];refine ⟨by simp,?_⟩;refine Zj5 Side.row ex9 trivial rfl rfl rfl ?_;refine Zl2 1 ?_;dsimp only [e91,go_sem];refine ⟨by simp,?_⟩;refine Zk4 h rfl (fun _ h=>?_) fun _ h=>?_
     ·refine Zl2 6 ?_;dsimp only [e91,go_sem];refine ⟨by simp,?_⟩;exact Zt4 (res:=fun (r:(Drinker×Int))=>.tup [.agg (Drinker.row r.1),.iv r.2]) ok91 h
     ·refine Zl2 5 ?_;dsimp only [e91,go_sem];refine ⟨by simp,?_⟩;refine Zo5 [.bv true] Side.row (y':=(Side.mk x9.Peer x9.Epoch x9.State x9.Fork x9.Dirty x9.Token true x9.Ask)) ex9 trivial rfl rfl rfl (by first | exact Zb4 _ | simp [go_sem]) rfl rfl rfl rfl ?_;refine Zl2 7 ?_;dsimp only [e91,go_sem];refine ⟨by simp,?_⟩;refine Z83 0 rfl ?_;dsimp only [go_sem];refine Z83 1 rfl ?_;dsimp only [go_sem];exact Zt4 (res:=fun (r:(Drinker×Int))=>.tup [.agg (Drinker.row r.1),.iv r.2]) ok91 h
  ·refine Zs4 28 h rfl (fun _ h=>?_) fun _ h=>?_
   ·dsimp only [go_sem];refine Zl2 15 ?_;dsimp only [e91,go_sem];refine ⟨by simp,?_⟩;exact Zv4 J1 (s:=true) h
   ·dsimp only [go_sem];refine Zl2 5 ?_;dsimp only [e91,go_sem];refine ⟨by simp,?_⟩;refine Zs4 33 h rfl (fun _ h=>?_) fun _ h=>?_
    ·dsimp only [go_sem];refine Zl2 10 ?_;dsimp only [e91,go_sem];refine ⟨by simp,?_⟩;exact Zv4 J1 (s:=true) h
    ·dsimp only [go_sem];refine Zl2 4 ?_;dsimp only [e91,go_sem];refine ⟨by simp,?_⟩;refine Zs4 37 h rfl (fun _ h=>?_) fun _ h=>?_
     ·dsimp only [go_sem];refine Zl2 6 ?_;dsimp only [e91,go_sem];refine ⟨by simp,?_⟩;exact Zv4 J1 (s:=!decide (x3.Kind=4)) h
     ·dsimp only [go_sem];refine Zl2 6 ?_;dsimp only [e91,go_sem];refine ⟨by simp,?_⟩;exact Zv4 J1 (s:=false) h
theorem Zgh (id:Int) (f:Side→Side):∀(l:List Side) (q:Int),(∀x∈l,(f x).Peer=x.Peer∧∀q,Zia id q x=true→Zia id q (f x)=true)→Zja id q l=true→Zja id q (l.map f)=true
 | [],_,_,_=>rfl
 | x::l,q,h,hk=>by
   obtain ⟨h1,h2⟩:=h x (by simp)
   simp only [List.map_cons,Zja,Bool.and_eq_true] at hk ⊢
   refine ⟨h2 q hk.1,?_⟩
   rw [h1]
   exact Zgh id f l x.Peer (fun y hy=>h y (by simp [hy])) hk.2
theorem okD_map {d:Diner} (h:okD d=true) {p:Int} (h0:0≤p) (h2:p≤2) (f:Side→Side) (hf:∀x∈d.Sides,(f x).Peer=x.Peer∧∀q,Zia d.ID q x=true→Zia d.ID q (f x)=true):okD ⟨d.ID,p,d.Sides.map f⟩=true:=by
 simp only [okD,Bool.and_eq_true,decide_eq_true_eq] at h ⊢
 exact ⟨h.1,h0,h2,by simpa using h.2.2.2.1,Zgh d.ID f d.Sides (-1) hf h.2.2.2.2⟩
theorem sideD_of {id q:Int} {x y:Side} (hp:y.Peer=x.Peer) (he:y.Epoch=x.Epoch) (hs:y.State=x.State) (hd:(x.Dirty=true→x.Fork=true)→y.Dirty=true→y.Fork=true) (h:Zia id q x=true):Zia id q y=true:=by
 unfold Zia at h ⊢
 rw [hp,he,hs]
 simp only [Bool.and_eq_true] at h ⊢
 refine ⟨h.1,h.2.1,h.2.2.1,h.2.2.2.1,h.2.2.2.2.1,h.2.2.2.2.2.1,?_⟩
 have h7:=h.2.2.2.2.2.2
 cases hyd:y.Dirty with
 | false=>rfl
 | true=>
   have:x.Dirty=true→x.Fork=true:=fun e=>by
    rw [e] at h7
    cases hf:x.Fork with
    | true=>rfl
    | false=>rw [hf] at h7;simp at h7
   rw [hd this hyd];rfl
theorem fireD_ok {d:Diner} (h:okD d=true):okD (Zua d)=true:=by
 have hh:=h
 simp only [okD,Bool.and_eq_true,decide_eq_true_eq] at hh
 have hp:0≤(Zua d).Phase∧(Zua d).Phase≤2:=by
  rcases Z1h d with ⟨q,_⟩ | ⟨_,q⟩
  ·rw [q];exact ⟨hh.2.1,hh.2.2.1⟩
  ·rw [q];omega
 have:=okD_map h hp.1 hp.2 (Zgg d) fun x hx=>by
  obtain ⟨p1,p2,p3,_⟩:=Zjg d x
  refine ⟨p1,fun q=>sideD_of p1 p2 p3 fun hd=>?_⟩
  unfold Zgg
  split
  ·rename_i hc
   rw [Bool.and_eq_true,List.all_eq_true] at hc
   exact fun _=>hc.2 (Zra d.Phase x) (List.mem_map_of_mem hx)
  ·exact Zbg _ _ hd
 rw [←Zhg] at this
 rw [show Zua d=⟨d.ID,(Zua d).Phase,(Zua d).Sides⟩ by rw [←Zig d]]
 exact this
theorem once_ok {d:Drinker} (h:okD d.Diner=true):okD (Zwg d).Diner=true:=by
 have h1:=fireD_ok (pre_ok h)
 have hh:=h1
 simp only [okD,Bool.and_eq_true,decide_eq_true_eq] at hh
 have:=okD_map h1 hh.2.1 hh.2.2.1 (fun x=>Zpg (Zng d x) d.Thirst x) fun x _=>by
  obtain ⟨p1,p2,p3,p4,p5,_⟩:=Zrg (Zng d x) d.Thirst x
  exact ⟨p1,fun q=>sideD_of p1 p2 p3 fun hd e=>by rw [p4];rw [p5] at e;exact hd e⟩
 rw [Zig] at this
 exact this
def fireN:Nat→Drinker→List Mail→Drinker×List Mail
 | 0,d,out=>(d,out)
 | n+1,d,out=>if Zwg d=d then (d,out) else fireN n (Zwg d) (out++Zxg d)
def fireDr (d:Drinker):Drinker×List Mail:=fireN 300 d []
theorem Zhh (l:List Int) (hl:l.length≤1000000):Zbb l=some l:=by
 simp only [Zbb]
 rw [Zh6 _ _ (by omega) (by simp;omega)];rfl
theorem s_EqualInt (l m:List Int) (hl:l.length≤1000000):Z2c l m=some (decide (l=m)):=by
 simp only [Z2c,Z39]
 by_cases h:l.length=m.length
 ·simp only [h,decide_true,Bool.not_true,Zd6]
  rw [Z09 l m _ (fun x y=>decide (x=y)) h (by omega) (fun k x y hx hy=>by
   simp only [Z1c,Zi6 hx,Zc6,Zg6 hx,Zg6 hy,Option.bind_some,Zl6 hx (show l.length≤4000000000000000000 by omega),Ze6]
   cases decide (x=y)<;>rfl) (by simp only [Z1c,Zj6,Zd6,Z0c,Option.map_some]),Z19 l m h]
 ·simp [h,Z29 h]
theorem s_drOwn (d:Drinker) (hs:d.Diner.Sides.length≤1000000) (hn:d.Need.length≤1000000):Zeb d=some d:=by
 simp only [Zeb,Zna _ hs,Zhh _ hn,Option.bind_some]
theorem s_drSame (a b:Drinker) (hs:a.Diner.Sides.length≤1000000) (hn:a.Need.length≤1000000):Z5c a b=some (decide (a=b)):=by
 obtain ⟨⟨i,p,s⟩,t,n⟩:=a
 obtain ⟨⟨i',p',s'⟩,t',n'⟩:=b
 simp only at hs hn
 simp only [Z5c,Zyb,Zxb,Z4c,s_EqualSide s s' hs,s_EqualInt n n' hn,Option.bind_some,Drinker.mk.injEq,Diner.mk.injEq]
 by_cases h1:i=i'<;>by_cases h2:p=p'<;>by_cases h3:s=s'<;>by_cases h4:t=t'<;>by_cases h5:n=n'<;>simp [h1,h2,h3,h4,h5]
theorem bits_le (l:List Side):bits l≤4*l.length:=by
 induction l with
 | nil=>simp [bits]
 | cons x l ih=>
   have:Zzg x≤4:=by unfold Zzg bn;split<;>split<;>split<;>split<;>omega
   unfold bits at ih ⊢
   simp only [List.map_cons,List.sum_cons,List.length_cons]
   omega
theorem mu_le {d:Drinker} (h:okD d.Diner=true):mu d≤257:=by
 have h1:=Zoa h
 have h2:=bits_le d.Diner.Sides
 have:rank d.Thirst d.Diner.Phase≤5:=by unfold rank;(repeat' split)<;>omega
 unfold mu;omega
theorem Zih {d:Diner} (h:okD d=true):0≤d.Phase∧d.Phase≤2:=by
 simp only [okD,Bool.and_eq_true,decide_eq_true_eq] at h
 exact ⟨h.2.1,h.2.2.1⟩
theorem fire_loop (x3:Drinker) (hN:x3.Need.length≤1000000):∀(n:Nat) (d:Drinker) (out:List Mail),d.Need=x3.Need→okD d.Diner=true→mu d≤n→out.length+bits d.Diner.Sides≤600000→
  loop (Z5d x3) (d.Diner.ID,d.Diner.Phase,d.Diner.Sides,d.Thirst,out)=some ((fireN (n+1) d out).1,(fireN (n+1) d out).2,0):=fun n=>by
 have step:∀(d:Drinker) (out:List Mail),d.Need=x3.Need→okD d.Diner=true→out.length+bits d.Diner.Sides≤600000→Z5d x3 (d.Diner.ID,d.Diner.Phase,d.Diner.Sides,d.Thirst,out)=if Zwg d=d then some (.inr (d,out,0)) else some (.inl ((Zwg d).Diner.ID,(Zwg d).Diner.Phase,(Zwg d).Diner.Sides,(Zwg d).Thirst,out++Zxg d)):=fun d out hd hk ho=>by
  have hl:=Zoa hk
  have hp:=Zih hk
  have e:(⟨⟨d.Diner.ID,d.Diner.Phase,d.Diner.Sides⟩,d.Thirst,x3.Need⟩:Drinker)=d:=by rw [←hd]
  dsimp only [Z5d]
  have ho2:=s_once d hk (by rw [hd];exact hN) out (by omega)
  rw [hd] at ho2
  rw [e,s_drOwn d (by omega) (by rw [hd];exact hN),Option.bind_some,ho2,Option.bind_some]
  dsimp only
  have e2:(⟨⟨(Zwg d).Diner.ID,(Zwg d).Diner.Phase,(Zwg d).Diner.Sides⟩,(Zwg d).Thirst,x3.Need⟩:Drinker)=Zwg d:=by rw [←hd];rfl
  rw [e2,s_drSame d _ (by omega) (by rw [hd];exact hN),Option.bind_some]
  by_cases hq:Zwg d=d
  ·rw [if_pos hq,decide_eq_true hq.symm,Zc6]
   have hm:Zxg d=[]:=by
    rcases once_mu hp.1 hp.2 with h1 | h1
    ·exact h1.2
    ·rw [hq] at h1;omega
   rw [hm,List.append_nil,hq];rfl
  ·rw [if_neg hq,decide_eq_false fun e=>hq e.symm,Zd6]
 induction n with
 | zero=>
   intro d out hd hk hm ho
   have hp:=Zih hk
   have hq:Zwg d=d:=by
    rcases once_mu hp.1 hp.2 with h1 | h1
    ·exact h1.1
    ·omega
   rw [Zg4,step d out hd hk ho,if_pos hq]
   unfold fireN
   rw [if_pos hq]
 | succ n ih=>
   intro d out hd hk hm ho
   have hp:=Zih hk
   rw [Zg4,step d out hd hk ho]
   unfold fireN
   by_cases hq:Zwg d=d
   ·rw [if_pos hq,if_pos hq]
   ·rw [if_neg hq,if_neg hq]
    have hb:=Z0h d
    refine ih (Zwg d) (out++Zxg d) hd (once_ok hk) ?_ (by rw [List.length_append];omega)
    rcases once_mu hp.1 hp.2 with h1 | h1
    ·exact absurd h1.1 hq
    ·omega
theorem fireN_more:∀(n m:Nat) (d:Drinker) (out:List Mail),okD d.Diner=true→mu d<n→fireN (n+m) d out=fireN n d out
 | 0,_,_,_,_,h=>by omega
 | n+1,m,d,out,hk,h=>by
   have hp:=Zih hk
   rw [show n+1+m=(n+m)+1 by omega]
   unfold fireN
   by_cases hq:Zwg d=d
   ·rw [if_pos hq,if_pos hq]
   ·rw [if_neg hq,if_neg hq]
    rcases once_mu hp.1 hp.2 with h1 | h1
    ·exact absurd h1.1 hq
    ·exact fireN_more n m (Zwg d) _ (once_ok hk) (by omega)
def okI:Option Int→List Int→Bool
 | _,[]=>true
 | p,x::r=>(match p with | none=>true | some q=>decide (q<x))&&okI (some x) r
def Zjh (d:Diner) (p:Int):Bool:=d.Sides.any fun x=>decide (x.Peer=p)
def okDr (d:Drinker):Bool:=okD d.Diner&&(decide (0≤d.Thirst)&&(decide (d.Thirst≤2)&&(okI none d.Need&&(!(decide (d.Thirst=0)&&decide (0<d.Need.length))&&d.Need.all (Zjh d.Diner)))))
def Zkh:Drinker:=⟨Zpa,0,[]⟩
theorem s_setValid (l:List Int) (hl:l.length≤1000000):Z5b l=some (okI none l):=by
 unfold Z5b
 refine Zr8 l (Z4b l) (fun pre=>(pre.length:Int)) (fun pre post=>some (okI pre.getLast? post)) (fun pre x post h=>?_) ?_
 ·have hx:=Zt8 h
  have hm:=Zu8 h
  have j2:∀z,Z3b (pre.length:Int) z=if z then some (.inr false) else some (.inl ((pre.length+1:Nat):Int)):=fun z=>by
   cases z with
   | true=>rfl
   | false=>dsimp only [Z3b];rw [Zd6,Zk6 (by omega)];rfl
  dsimp only [Z4b]
  rw [Zi6 hx,Zc6]
  rcases List.eq_nil_or_concat pre with rfl | ⟨q,y,rfl⟩
  ·left
   rw [show decide ((0:Int)<(([]:List Int).length:Nat))=false from rfl,Zd6,j2]
   exact ⟨rfl,rfl⟩
  ·rw [List.concat_eq_append] at *
   have hy:l[q.length]?=some y:=by rw [h];simp
   rw [decide_eq_true (show (0:Int)<((q++[y]).length:Nat) by rw [Zy8];omega),Zc6]
   have e1:wr (((q++[y]).length:Nat)-1)=(q.length:Int):=by rw [Zy8] at hm ⊢;rw [Zf6 (by omega) (by omega)];omega
   rw [e1,Zg6 hy,Option.bind_some,Zg6 hx,Option.bind_some,j2]
   by_cases hc:x≤y
   ·right
    refine ⟨false,by rw [decide_eq_true hc];rfl,?_⟩
    have:¬y<x:=by omega
    simp [okI,this]
   ·left
    have:y<x:=by omega
    refine ⟨by rw [decide_eq_false hc,Zy8 (q++[y])];rfl,?_⟩
    simp [okI,this]
 ·dsimp only [Z4b]
  rw [Zj6,Zd6];rfl
theorem Zlh (d:Drinker) (hn:d.Need.length≤1000000):Z9b d=some (if okDr d then 0 else 150):=by
 simp only [Z9b,Zma,Option.bind_some]
 unfold okDr
 cases hk:okD d.Diner with
 | false=>rfl
 | true=>
   have hl:=Zoa hk
   rw [if_pos rfl,show decide ((0:Int)=0)=true from rfl,Bool.not_true,Zd6]
   by_cases h1:d.Thirst<0
   ·rw [decide_eq_true h1,Zc6,decide_eq_false (show ¬0≤d.Thirst by omega)];rfl
   ·rw [decide_eq_false h1,Zd6,decide_eq_true (show 0≤d.Thirst by omega)]
    by_cases h2:2<d.Thirst
    ·rw [decide_eq_true h2,decide_eq_false (show ¬d.Thirst≤2 by omega)];rfl
    ·rw [decide_eq_false h2,decide_eq_true (show d.Thirst≤2 by omega)]
     dsimp only [Z8b]
     rw [Zd6,s_setValid _ hn,Option.bind_some]
     cases hv:okI none d.Need with
     | false=>rfl
     | true=>
       rw [Bool.not_true,Zd6]
       have j3:∀z,Z7b d z=some (if (!z&&d.Need.all (Zjh d.Diner))=true then 0 else 150):=fun z=>by
        cases z with
        | true=>rfl
        | false=>
          dsimp only [Z7b]
          rw [Zd6,Zz7 d.Need (fun z=>Zza z d) (fun p=>!Zjh d.Diner p) (by omega) (fun p _=>by
           simp only [Zza]
           rw [Zyg d.Diner.Sides (fun z=>Zxa z p) (fun x=>decide (x.Peer=p)) (by omega) (fun x _=>rfl),Option.bind_some]
           rfl),Option.bind_some]
          have e1:d.Need.any (fun p=>!Zjh d.Diner p)=!d.Need.all (Zjh d.Diner):=Z38 _ _ _ fun _=>rfl
          rw [e1]
          cases d.Need.all (Zjh d.Diner)<;>rfl
       rw [Z25]
       simp only [j3,Bool.true_and]
       have e3:decide ((0:Int)<(d.Need.length:Nat))=decide (0<d.Need.length):=by rw [decide_eq_decide];omega
       rw [e3]
       cases decide (d.Thirst=0)<;>rfl
theorem s_drFire (d:Drinker) (hn:d.Need.length≤1000000):Z6d d=some (if okDr d then ((fireDr d).1,(fireDr d).2,0) else (Zkh,[],150)):=by
 simp only [Z6d,Zlh d hn,Option.bind_some]
 cases hk:okDr d with
 | false=>rfl
 | true=>
   have hk2:okD d.Diner=true:=by unfold okDr at hk;rw [Bool.and_eq_true] at hk;exact hk.1
   have hl:=Zoa hk2
   have hb:=bits_le d.Diner.Sides
   have hm:=mu_le hk2
   rw [if_pos rfl,show decide ((0:Int)=0)=true from rfl,Bool.not_true,Zd6,s_drOwn d (by omega) hn,Option.bind_some,fire_loop d hn 299 d [] rfl hk2 (by omega) (by simp only [List.length_nil];omega),if_pos rfl]
   rfl
def Zmh (d:Diner) (p:Int):Bool:=!d.Sides.any fun x=>decide (x.Peer=p)&&decide (x.State=0)
def Znh (d:Drinker) (need:List Int):Drinker×Int:=if okDr d then (if d.Thirst=0 then (if need.any (Zmh d.Diner) then (Zkh,151) else (⟨d.Diner,1,setL need⟩,0)) else (Zkh,152)) else (Zkh,150)
def Zoh (d:Drinker):Drinker×Int:=if okDr d then (if d.Thirst=0 then (Zkh,152) else (⟨d.Diner,0,[]⟩,0)) else (Zkh,150)
theorem okDr_D {d:Drinker} (h:okDr d=true):okD d.Diner=true:=by unfold okDr at h;rw [Bool.and_eq_true] at h;exact h.1
theorem s_drOpen (d:Drinker) (need:List Int) (hn:d.Need.length≤1000000) (hm:need.length≤1000000):Z8h d need=some (Znh d need):=by
 simp only [Z8h,Zlh d hn,Option.bind_some]
 unfold Znh
 cases hk:okDr d with
 | false=>rfl
 | true=>
   have hl:=Zoa (okDr_D hk)
   rw [if_pos rfl,show decide ((0:Int)=0)=true from rfl,Bool.not_true,Zd6,if_pos rfl]
   by_cases h1:d.Thirst=0
   ·rw [decide_eq_true h1,Bool.not_true,Zd6,if_pos h1,Zz7 need (fun z=>Z5h z d) (Zmh d.Diner) (by omega) (fun p _=>by
     simp only [Z5h]
     rw [Zyg d.Diner.Sides (fun z=>Z3h z p) (fun x=>decide (x.Peer=p)&&decide (x.State=0)) (by omega) (fun x _=>by
      simp only [Z3h,Z2h]
      cases decide (x.Peer=p)<;>rfl),Option.bind_some]
     rfl),Option.bind_some]
    cases need.any (Zmh d.Diner) with
    | true=>rfl
    | false=>
      rw [Zd6,if_neg (by simp)]
      dsimp only [Z7h]
      rw [show decide ((0:Int)=0)=true from rfl,Bool.not_true,Zd6,s_drOwn d (by omega) hn,Option.bind_some,s_setL need hm,Option.bind_some]
   ·rw [decide_eq_false h1,Bool.not_false,Zc6,if_neg h1];rfl
theorem s_drClose (d:Drinker) (hn:d.Need.length≤1000000):Z9h d=some (Zoh d):=by
 simp only [Z9h,Zlh d hn,Option.bind_some]
 unfold Zoh
 cases hk:okDr d with
 | false=>rfl
 | true=>
   have hl:=Zoa (okDr_D hk)
   rw [if_pos rfl,show decide ((0:Int)=0)=true from rfl,Bool.not_true,Zd6,if_pos rfl]
   by_cases h1:d.Thirst=0
   ·rw [decide_eq_true h1,Zc6,if_pos h1];rfl
   ·rw [decide_eq_false h1,Zd6,if_neg h1,s_drOwn d (by omega) hn,Option.bind_some]
def viaD (d:Drinker) (peer:Int) (m:Msg):Drinker×Int:=if (getD' d.Diner peer m).2=0 then (⟨(getD' d.Diner peer m).1,d.Thirst,d.Need⟩,0) else (Zkh,(getD' d.Diner peer m).2)
def Zph (d:Drinker) (peer:Int) (m:Msg):Drinker×Int:=
 if okDr d then match d.Diner.Sides.findIdx? (fun x=>decide (x.Peer=peer)&&decide (x.Epoch=m.Epoch)) with
  | none=>viaD d peer m
  | some i=>match d.Diner.Sides[i]? with
    | none=>viaD d peer m
    | some x=>if decide (m.Num=0)&&(decide (m.Kind=3)||decide (m.Kind=4)) then
       (if m.Kind=4 then (if x.Ask then (Zkh,132) else (⟨⟨d.Diner.ID,d.Diner.Phase,d.Diner.Sides.set i {x with Ask:=true}⟩,d.Thirst,d.Need⟩,0))
       else (if x.Bottle then (Zkh,132) else (⟨⟨d.Diner.ID,d.Diner.Phase,d.Diner.Sides.set i {x with Bottle:=true}⟩,d.Thirst,d.Need⟩,0)))
      else viaD d peer m
 else (Zkh,150)
theorem s_drGet (d:Drinker) (peer:Int) (m:Msg) (hn:d.Need.length≤1000000):Zfh d peer m=some (Zph d peer m):=by
 simp only [Zfh,Zlh d hn,Option.bind_some]
 unfold Zph
 cases hk:okDr d with
 | false=>rfl
 | true=>
   have hl:=Zoa (okDr_D hk)
   have hown:Zch d=some (d.Diner.Sides,d.Need):=by
    simp only [Zch,Zna _ (show d.Diner.Sides.length≤1000000 by omega),Zhh _ hn,Option.bind_some]
   have hvia:Zeh d peer m (d.Diner.Sides,d.Need) (plc (d.Diner.Sides.findIdx? (fun x=>decide (x.Peer=peer)&&decide (x.Epoch=m.Epoch)))) true=some (viaD d peer m):=by
    dsimp only [Zeh]
    rw [Zc6,s_Get,Option.bind_some]
    unfold viaD
    by_cases h0:(getD' d.Diner peer m).2=0
    ·rw [show (⟨d.Diner.ID,d.Diner.Phase,d.Diner.Sides⟩:Diner)=d.Diner from rfl,decide_eq_true h0,if_pos h0];rfl
    ·rw [show (⟨d.Diner.ID,d.Diner.Phase,d.Diner.Sides⟩:Diner)=d.Diner from rfl,decide_eq_false h0,if_neg h0];rfl
   rw [if_pos rfl,show decide ((0:Int)=0)=true from rfl,Bool.not_true,Zd6,if_pos rfl,hown,Option.bind_some]
   dsimp only
   rw [Zx7 d.Diner.Sides (fun z=>Zbh z peer m) (fun x=>decide (x.Peer=peer)&&decide (x.Epoch=m.Epoch)) (by omega) (fun x _=>by
    simp only [Zbh,Zah]
    cases decide (x.Peer=peer)<;>rfl),Option.bind_some,plc_neg]
   have hfi:=Z69 (fun x:Side=>decide (x.Peer=peer)&&decide (x.Epoch=m.Epoch)) d.Diner.Sides
   cases hf:d.Diner.Sides.findIdx? (fun x=>decide (x.Peer=peer)&&decide (x.Epoch=m.Epoch)) with
   | none=>rw [hf] at hvia;exact hvia
   | some i=>
     rw [hf] at hfi hvia
     obtain ⟨x,hx,_⟩:=hfi
     dsimp only
     rw [hx]
     dsimp only
     rw [Option.isNone_some,Zd6]
     by_cases n0:m.Num=0
     ·rw [decide_eq_true n0,Bool.not_true,Zd6,Bool.true_and]
      have main:(m.Kind=3∨m.Kind=4)→Zeh d peer m (d.Diner.Sides,d.Need) (plc (some i)) false=some (if m.Kind=4 then (if x.Ask then (Zkh,132) else (⟨⟨d.Diner.ID,d.Diner.Phase,d.Diner.Sides.set i {x with Ask:=true}⟩,d.Thirst,d.Need⟩,0))
       else (if x.Bottle then (Zkh,132) else (⟨⟨d.Diner.ID,d.Diner.Phase,d.Diner.Sides.set i {x with Bottle:=true}⟩,d.Thirst,d.Need⟩,0))):=fun _=>by
       dsimp only [Zeh,plc]
       rw [Zd6,Zg6 hx,Option.bind_some,Int.toNat_natCast]
       by_cases k4:m.Kind=4
       ·rw [decide_eq_true k4,Zc6,if_pos k4]
        cases x.Ask<;>rfl
       ·rw [decide_eq_false k4,Zd6,if_neg k4]
        cases x.Bottle<;>rfl
      by_cases k3:m.Kind=3
      ·rw [decide_eq_true k3,Bool.not_true,Zd6,Bool.true_or,if_pos rfl]
       exact main (.inl k3)
      ·rw [decide_eq_false k3,Bool.not_false,Zc6,Bool.false_or]
       by_cases k4:m.Kind=4
       ·rw [decide_eq_true k4,if_pos rfl]
        exact main (.inr k4)
       ·rw [decide_eq_false k4,if_neg (by simp)]
        exact hvia
     ·rw [decide_eq_false n0,Bool.not_false,Zc6,Bool.false_and,if_neg (by simp)]
      exact hvia
set_option maxRecDepth 100000
set_option maxHeartbeats 4000000
def e113:EC:=.seq (.reg [(Qa 2 (.box 48 2 (.t 0))),(Qa 4 (.mv (.c .ff)))]) (.seq (.reg [(Qa 5 (.mv (.t 1))),(Qa 6 (.bin .geq (.t 5) (.c (.iv 0)))),(Qa 7 (.mv (.t 6))),(Qg 8 7 true (.mv (.t 1))),(Qg 9 7 true (.fld 0 (.t 2))),(Qg 10 7 true (.load (.t 9))),(Qg 11 7 true (.len (.t 10))),(Qg 12 7 true (.bin .lss (.t 8) (.t 11))),(Qa 13 (.pick (.t 7) (.t 12) (.c .ff))),(Qa 4 (.mv (.t 13)))]) (.ret))
theorem ok113:FnOK Tryz.prog 113 Tryz.f113 e113 [.t 4] 2 12:=⟨by kernel_rfl,⟨_,rfl,by kernel_rfl⟩,by kernel_rfl,by kernel_rfl⟩
noncomputable def Zqh:Bool→Option Bool
| x3=>
 some x3
noncomputable def Zrh (x1:Scene) (x2:Int):Option Bool:=
 ifb (decide (0≤x2)) (
 Zqh (decide (x2<(ln Diner.row x1.Diners)))) (
 Zqh false)
theorem Zsh (x1:Scene) (x2:Int) (r:Bool) (h:Zrh x1 x2=some r):Zq2 Tryz.prog 113 [.agg (Scene.row x1),.iv x2] (.bv r):=by
 refine Zu2 ok113 rfl rfl fun w0 H0=>?_
 rw [Zrh] at h
 refine Zl2 10 ?_;dsimp only [e113,go_sem];refine ⟨by simp,?_⟩;refine Zi4 (fun (x3:Bool)=>(⟨(an 4 (.bv x3::an 9 [])),[],[]⟩:St)) Zqh r ?_ fun J1=>?_
 ·intro x3 h;rw [Zqh] at h;(try dsimp only);exact Zt4 (res:=fun (r:Bool)=>.bv r) ok113 h
 ·refine Zs4 7 h rfl (fun _ h=>?_) fun _ h=>?_
  ·dsimp only [go_sem];refine Zl2 8 ?_;dsimp only [e113,go_sem];refine ⟨by simp,?_⟩;exact Zv4 J1 (s:=decide (x2<(ln Diner.row x1.Diners))) h
  ·dsimp only [go_sem];refine Zl2 8 ?_;dsimp only [e113,go_sem];refine ⟨by simp,?_⟩;exact Zv4 J1 (s:=false) h
set_option maxRecDepth 100000
set_option maxHeartbeats 4000000
def e104:EC:=.seq (.reg [(Qa 2 (.box 95 5 (.t 0))),(Qa 3 (.mv (.c .ff)))]) (.seq (.reg [(Qa 4 (.fld 0 (.t 2))),(Qa 5 (.load (.t 4))),(Qa 6 (.fld 1 (.t 2))),(Qa 7 (.load (.t 6))),(Qa 8 (.mm false [(.t 5),(.t 7)])),(Qa 9 (.bin .lss (.t 8) (.c (.iv 0)))),(Qa 10 (.mv (.t 9))),(Qg 11 10 false (.fld 0 (.t 2))),(Qg 12 10 false (.load (.t 11))),(Qg 13 10 false (.fld 1 (.t 2))),(Qg 14 10 false (.load (.t 13))),(Qg 15 10 false (.mm true [(.t 12),(.t 14)])),(Qg 16 10 false (.fld 0 (.t 1))),(Qg 17 10 false (.load (.t 16))),(Qg 18 10 false (.len (.t 17))),(Qg 19 10 false (.bin .geq (.t 15) (.t 18))),(Qa 20 (.pick (.t 10) (.c .tt) (.t 19))),(Qa 21 (.mv (.t 20))),(Qg 22 21 false (.fld 0 (.t 2))),(Qg 23 21 false (.load (.t 22))),(Qg 24 21 false (.fld 1 (.t 2))),(Qg 25 21 false (.load (.t 24))),(Qg 26 21 false (.bin .eql (.t 23) (.t 25))),(Qa 27 (.pick (.t 21) (.c .tt) (.t 26))),(Qa 3 (.mv (.t 27)))]) (.ret))
theorem ok104:FnOK Tryz.prog 104 Tryz.f104 e104 [.t 3] 2 26:=⟨by kernel_rfl,⟨_,rfl,by kernel_rfl⟩,by kernel_rfl,by kernel_rfl⟩
noncomputable def Zth:Bool→Option Bool
| x3=>
 some x3
noncomputable def Zuh (x1:Mail) (x2:Scene):Option Bool:=
 ifb (decide (((min x1.From x1.To))<0)) (
 Zth true) (
 ifb (decide ((ln Diner.row x2.Diners)≤((max x1.From x1.To)))) (
 Zth true) (
 Zth (decide (x1.From=x1.To))))
theorem Zvh (x1:Mail) (x2:Scene) (r:Bool) (h:Zuh x1 x2=some r):Zq2 Tryz.prog 104 [.agg (Mail.row x1),.elt (Scene.row x2) 0] (.bv r):=by
 refine Zu2 ok104 rfl rfl fun w0 H0=>?_
 rw [Zuh] at h
 refine Zl2 14 ?_;dsimp only [e104,go_sem];refine ⟨by simp,?_⟩;refine Zi4 (fun (x3:Bool)=>(⟨(an 3 (.bv x3::an 24 [])),[],[]⟩:St)) Zth r ?_ fun J1=>?_
 ·intro x3 h;rw [Zth] at h;(try dsimp only);exact Zt4 (res:=fun (r:Bool)=>.bv r) ok104 h
 ·refine Zs4 10 h rfl (fun _ h=>?_) fun _ h=>?_
  ·dsimp only [go_sem];refine Zl2 19 ?_;dsimp only [e104,go_sem];refine ⟨by simp,?_⟩;exact Zv4 J1 (s:=true) h
  ·dsimp only [go_sem];refine Zl2 11 ?_;dsimp only [e104,go_sem];refine ⟨by simp,?_⟩;refine Zs4 21 h rfl (fun _ h=>?_) fun _ h=>?_
   ·dsimp only [go_sem];refine Zl2 8 ?_;dsimp only [e104,go_sem];refine ⟨by simp,?_⟩;exact Zv4 J1 (s:=true) h
   ·dsimp only [go_sem];refine Zl2 8 ?_;dsimp only [e104,go_sem];refine ⟨by simp,?_⟩;exact Zv4 J1 (s:=decide (x1.From=x1.To)) h
set_option maxRecDepth 100000
set_option maxHeartbeats 4000000
def e105:EC:=.seq (.reg [(Qa 1 (.box 61 3 (.t 0))),(Qa 2 (.mv (.c .ff)))]) (.seq (.reg [(Qa 3 (.loadA 3 (.t 1))),(Qa 4 (.call 101 [(.t 3)])),(Qa 5 (.bin .neq (.t 4) (.c (.iv 0)))),(Qa 2 (.mv (.t 5)))]) (.ret))
theorem ok105:FnOK Tryz.prog 105 Tryz.f105 e105 [.t 2] 1 5:=⟨by kernel_rfl,⟨_,rfl,by kernel_rfl⟩,by kernel_rfl,by kernel_rfl⟩
noncomputable def Zwh (x1:Diner):Option Bool:=
 (Z6a x1).bind fun x2=>
 some (!decide (x2=0))
theorem Zxh (x1:Diner) (r:Bool) (h:Zwh x1=some r):Zq2 Tryz.prog 105 [.agg (Diner.row x1)] (.bv r):=by
 refine Zu2 ok105 rfl rfl fun w0 H0=>?_
 rw [Zwh] at h
 refine Zl2 8 ?_;dsimp only [e105,go_sem];refine ⟨by simp,?_⟩;obtain ⟨x2,ex2,h⟩:=Option.bind_eq_some_iff.1 h;refine Zz2 trivial (Z7a x1 _ ex2) (h:=?_);refine Zl2 3 ?_;dsimp only [e105,go_sem];refine ⟨by simp,?_⟩;exact Zt4 (res:=fun (r:Bool)=>.bv r) ok105 h
set_option maxRecDepth 100000
set_option maxHeartbeats 4000000
def Zyh:EC:=.seq (.reg [(Qa 9 (.bin .lss (.t 8) (.t 7)))]) (.seq (.ite (.t 9) (.skip) (.exit 0)) (.seq (.blk 1 (.seq (.reg [(Qa 10 (.mv (.t 8))),(Qa 5 (.mv (.t 10)))]) (.seq (.reg [(Qa 11 (.mv (.t 1))),(Qa 12 (.mv (.t 0))),(Qa 13 (.mv (.t 5))),(Qa 14 (.idx 3 (.t 12) (.t 13))),(Qa 15 (.loadA 3 (.t 14))),(Qa 16 (.callv (.t 11) [(.t 15)]))]) (.ite (.t 16) (.seq (.reg [(Qa 17 (.mv (.t 5))),(Qa 4 (.mv (.t 17)))]) (.ret)) (.skip))))) (.reg [(Qa 18 (.bin .add (.t 8) (.c (.iv 1)))),(Qa 8 (.mv (.t 18)))])))
def e145:EC:=.seq (.reg [(Qa 4 (.mv (.c (.iv 0))))]) (.seq (.seq (.reg [(Qa 6 (.mv (.t 0))),(Qa 7 (.len (.t 6))),(Qa 8 (.mv (.c (.iv 0))))]) (.blk 0 (.loop Zyh))) (.seq (.reg [(Qa 4 (.mv (.c (.iv (-1)))))]) (.ret)))
theorem ok145:FnOK Tryz.prog 145 Tryz.f145 e145 [.t 4] 2 17:=⟨by kernel_rfl,⟨_,rfl,by kernel_rfl⟩,by kernel_rfl,by kernel_rfl⟩
noncomputable def Zzh:Unit→Option Int
| ()=>
 some (-1)
noncomputable def Z0i (x1:(List Diner)) (p1:(Diner→Option Bool)):Int→Option (Int ⊕ Int)
| x5=>
 ifb (decide (x5<(ln Diner.row x1))) (
 (at_ x1 x5).bind fun x6=>
 (p1 x6).bind fun x7=>
 ifb x7 (
 Option.map Sum.inr (some x5)) (
 some (.inl (wr (x5+1))))) (
 Option.map Sum.inr (Zzh ()))
noncomputable def Z1i (x1:(List Diner)) (p1:(Diner→Option Bool)):Option Int:=
 loop (Z0i x1 p1) 0
theorem Z2i (x1:(List Diner)) (g1:Nat) (caps1:List AV) (p1:(Diner→Option Bool)) (hc1:CloOK Tryz.prog g1 caps1 (fun z=>[.agg (Diner.row z)]) p1 (fun z=>.bv z)) (r:Int) (h:Z1i x1 p1=some r):Zq2 Tryz.prog 145 [.sl 3 (List.map Diner.row x1),.clo g1 caps1] (.iv r):=by
 refine Zu2 ok145 rfl rfl fun w0 H0=>?_
 rw [Z1i] at h
 refine Zl2 11 ?_;dsimp only [e145,Zyh,go_sem];refine ⟨by simp,?_⟩;refine Zi4 (fun (_:Unit)=>(⟨(an 19 []),[],[]⟩:St)) Zzh r ?_ fun J1=>?_
 ·rintro ⟨⟩ h;rw [Zzh] at h;(try dsimp only);refine Zl2 4 ?_;dsimp only [e145,Zyh,go_sem];refine ⟨by simp,?_⟩;exact Zt4 (res:=fun (r:Int)=>.iv r) ok145 h
 ·refine Zl2 1 ?_;dsimp only [e145,Zyh,go_sem];refine ⟨by simp,?_⟩;refine Zj4 h (fun (x5:Int)=>(⟨(.sl 3 (List.map Diner.row x1) :: .clo g1 caps1::an 5 (.iv (ln Diner.row x1) :: .iv x5::an 10 [])),[],[]⟩:St)) (by simp [go_sem]) (by intro x5;first | rfl | simp [go_sem,Za4 _ hc1.pu]) ?_;rintro n1 x5 y1 h hin1 hout1;rw [Z0i] at h;(try dsimp only);refine Zl2 5 ?_;dsimp only [e145,Zyh,go_sem];refine ⟨by simp,?_⟩;refine Zk4 h rfl (fun _ h=>?_) fun _ h=>?_
  ·refine Zl2 13 ?_;dsimp only [e145,Zyh,go_sem];refine ⟨by simp,?_⟩;obtain ⟨x6,ex6,h⟩:=Option.bind_eq_some_iff.1 h;refine Zn4 Diner.row ex6 trivial rfl rfl rfl ?_;refine Zl2 1 ?_;dsimp only [e145,Zyh,go_sem];refine ⟨by simp,?_⟩;obtain ⟨x7,ex7,h⟩:=Option.bind_eq_some_iff.1 h;refine Zz4 trivial rfl hc1 (x:=x6) ex7 (by first | exact Zb4 _ | simp [go_sem]) (by first | rfl | simp [go_sem,hc1.pu]) ?_;refine Zl2 1 ?_;dsimp only [e145,Zyh,go_sem];refine ⟨by simp,?_⟩;refine Zk4 h rfl (fun _ h=>?_) fun _ h=>?_
   ·refine Zl2 5 ?_;dsimp only [e145,Zyh,go_sem];refine ⟨by simp,?_⟩;exact Zt4 (res:=fun (r:Int)=>.iv r) ok145 (Zh4 h hout1)
   ·refine Zl2 6 ?_;dsimp only [e145,Zyh,go_sem];refine ⟨by simp,?_⟩;exact Zu4 h hin1 (hok:=by first | rfl | simp [go_sem,Za4 _ hc1.pu])
  ·refine Zl2 1 ?_;dsimp only [e145,Zyh,go_sem];refine ⟨by simp,?_⟩;exact Zv4 J1 (s:=()) (Zh4 h hout1) (hok:=by first | rfl | simp [go_sem,Za4 _ hc1.pu])
set_option maxRecDepth 100000
set_option maxHeartbeats 4000000
def e107:EC:=.seq (.reg [(Qa 4 (.mv (.c .ff)))]) (.seq (.reg [(Qa 5 (.mv (.t 0))),(Qa 6 (.mv (.t 1))),(Qa 7 (.call 145 [(.t 5),(.t 6)])),(Qa 8 (.bin .geq (.t 7) (.c (.iv 0)))),(Qa 4 (.mv (.t 8)))]) (.ret))
theorem ok107:FnOK Tryz.prog 107 Tryz.f107 e107 [.t 4] 2 7:=⟨by kernel_rfl,⟨_,rfl,by kernel_rfl⟩,by kernel_rfl,by kernel_rfl⟩
noncomputable def Z3i (x1:(List Diner)) (p1:(Diner→Option Bool)):Option Bool:=
 (Z1i x1 p1).bind fun x2=>
 some (decide (0≤x2))
theorem Z4i (x1:(List Diner)) (g1:Nat) (caps1:List AV) (p1:(Diner→Option Bool)) (hc1:CloOK Tryz.prog g1 caps1 (fun z=>[.agg (Diner.row z)]) p1 (fun z=>.bv z)) (r:Bool) (h:Z3i x1 p1=some r):Zq2 Tryz.prog 107 [.sl 3 (List.map Diner.row x1),.clo g1 caps1] (.bv r):=by
 refine Zu2 ok107 rfl rfl fun w0 H0=>?_
 rw [Z3i] at h
 refine Zl2 8 ?_;dsimp only [e107,go_sem];refine ⟨by simp,?_⟩;obtain ⟨x2,ex2,h⟩:=Option.bind_eq_some_iff.1 h;refine Zz2 trivial (Z2i x1 _ _ p1 hc1 _ ex2) (hp:=(by first | rfl | simp [go_sem,hc1.pu])) (h:=?_);refine Zl2 3 ?_;dsimp only [e107,go_sem];refine ⟨by simp,?_⟩;exact Zt4 (res:=fun (r:Bool)=>.bv r) ok107 h
set_option maxRecDepth 100000
set_option maxHeartbeats 4000000
def Z5i:EC:=.seq (.reg [(Qa 9 (.bin .lss (.t 8) (.t 7)))]) (.seq (.ite (.t 9) (.skip) (.exit 0)) (.seq (.blk 1 (.seq (.reg [(Qa 10 (.mv (.t 8))),(Qa 5 (.mv (.t 10)))]) (.seq (.reg [(Qa 11 (.mv (.t 1))),(Qa 12 (.mv (.t 0))),(Qa 13 (.mv (.t 5))),(Qa 14 (.idx 5 (.t 12) (.t 13))),(Qa 15 (.loadA 5 (.t 14))),(Qa 16 (.callv (.t 11) [(.t 15)]))]) (.ite (.t 16) (.seq (.reg [(Qa 17 (.mv (.t 5))),(Qa 4 (.mv (.t 17)))]) (.ret)) (.skip))))) (.reg [(Qa 18 (.bin .add (.t 8) (.c (.iv 1)))),(Qa 8 (.mv (.t 18)))])))
def e86:EC:=.seq (.reg [(Qa 4 (.mv (.c (.iv 0))))]) (.seq (.seq (.reg [(Qa 6 (.mv (.t 0))),(Qa 7 (.len (.t 6))),(Qa 8 (.mv (.c (.iv 0))))]) (.blk 0 (.loop Z5i))) (.seq (.reg [(Qa 4 (.mv (.c (.iv (-1)))))]) (.ret)))
theorem ok86:FnOK Tryz.prog 86 Tryz.f86 e86 [.t 4] 2 17:=⟨by kernel_rfl,⟨_,rfl,by kernel_rfl⟩,by kernel_rfl,by kernel_rfl⟩
noncomputable def Z6i:Unit→Option Int
| ()=>
 some (-1)
noncomputable def Z7i (x1:(List Mail)) (p1:(Mail→Option Bool)):Int→Option (Int ⊕ Int)
| x5=>
 ifb (decide (x5<(ln Mail.row x1))) (
 (at_ x1 x5).bind fun x6=>
 (p1 x6).bind fun x7=>
 ifb x7 (
 Option.map Sum.inr (some x5)) (
 some (.inl (wr (x5+1))))) (
 Option.map Sum.inr (Z6i ()))
noncomputable def Z8i (x1:(List Mail)) (p1:(Mail→Option Bool)):Option Int:=
 loop (Z7i x1 p1) 0
theorem Z9i (x1:(List Mail)) (g1:Nat) (caps1:List AV) (p1:(Mail→Option Bool)) (hc1:CloOK Tryz.prog g1 caps1 (fun z=>[.agg (Mail.row z)]) p1 (fun z=>.bv z)) (r:Int) (h:Z8i x1 p1=some r):Zq2 Tryz.prog 86 [.sl 5 (List.map Mail.row x1),.clo g1 caps1] (.iv r):=by
 refine Zu2 ok86 rfl rfl fun w0 H0=>?_
 rw [Z8i] at h
 refine Zl2 11 ?_;dsimp only [e86,Z5i,go_sem];refine ⟨by simp,?_⟩;refine Zi4 (fun (_:Unit)=>(⟨(an 19 []),[],[]⟩:St)) Z6i r ?_ fun J1=>?_
 ·rintro ⟨⟩ h;rw [Z6i] at h;(try dsimp only);refine Zl2 4 ?_;dsimp only [e86,Z5i,go_sem];refine ⟨by simp,?_⟩;exact Zt4 (res:=fun (r:Int)=>.iv r) ok86 h
 ·refine Zl2 1 ?_;dsimp only [e86,Z5i,go_sem];refine ⟨by simp,?_⟩;refine Zj4 h (fun (x5:Int)=>(⟨(.sl 5 (List.map Mail.row x1) :: .clo g1 caps1::an 5 (.iv (ln Mail.row x1) :: .iv x5::an 10 [])),[],[]⟩:St)) (by simp [go_sem]) (by intro x5;first | rfl | simp [go_sem,Za4 _ hc1.pu]) ?_;rintro n1 x5 y1 h hin1 hout1;rw [Z7i] at h;(try dsimp only);refine Zl2 5 ?_;dsimp only [e86,Z5i,go_sem];refine ⟨by simp,?_⟩;refine Zk4 h rfl (fun _ h=>?_) fun _ h=>?_
  ·refine Zl2 13 ?_;dsimp only [e86,Z5i,go_sem];refine ⟨by simp,?_⟩;obtain ⟨x6,ex6,h⟩:=Option.bind_eq_some_iff.1 h;refine Zn4 Mail.row ex6 trivial rfl rfl rfl ?_;refine Zl2 1 ?_;dsimp only [e86,Z5i,go_sem];refine ⟨by simp,?_⟩;obtain ⟨x7,ex7,h⟩:=Option.bind_eq_some_iff.1 h;refine Zz4 trivial rfl hc1 (x:=x6) ex7 (by first | exact Zb4 _ | simp [go_sem]) (by first | rfl | simp [go_sem,hc1.pu]) ?_;refine Zl2 1 ?_;dsimp only [e86,Z5i,go_sem];refine ⟨by simp,?_⟩;refine Zk4 h rfl (fun _ h=>?_) fun _ h=>?_
   ·refine Zl2 5 ?_;dsimp only [e86,Z5i,go_sem];refine ⟨by simp,?_⟩;exact Zt4 (res:=fun (r:Int)=>.iv r) ok86 (Zh4 h hout1)
   ·refine Zl2 6 ?_;dsimp only [e86,Z5i,go_sem];refine ⟨by simp,?_⟩;exact Zu4 h hin1 (hok:=by first | rfl | simp [go_sem,Za4 _ hc1.pu])
  ·refine Zl2 1 ?_;dsimp only [e86,Z5i,go_sem];refine ⟨by simp,?_⟩;exact Zv4 J1 (s:=()) (Zh4 h hout1) (hok:=by first | rfl | simp [go_sem,Za4 _ hc1.pu])
set_option maxRecDepth 100000
set_option maxHeartbeats 4000000
def e108:EC:=.seq (.reg [(Qa 4 (.mv (.c .ff)))]) (.seq (.reg [(Qa 5 (.mv (.t 0))),(Qa 6 (.mv (.t 1))),(Qa 7 (.call 86 [(.t 5),(.t 6)])),(Qa 8 (.bin .geq (.t 7) (.c (.iv 0)))),(Qa 4 (.mv (.t 8)))]) (.ret))
theorem ok108:FnOK Tryz.prog 108 Tryz.f108 e108 [.t 4] 2 7:=⟨by kernel_rfl,⟨_,rfl,by kernel_rfl⟩,by kernel_rfl,by kernel_rfl⟩
noncomputable def Zai (x1:(List Mail)) (p1:(Mail→Option Bool)):Option Bool:=
 (Z8i x1 p1).bind fun x2=>
 some (decide (0≤x2))
theorem Zbi (x1:(List Mail)) (g1:Nat) (caps1:List AV) (p1:(Mail→Option Bool)) (hc1:CloOK Tryz.prog g1 caps1 (fun z=>[.agg (Mail.row z)]) p1 (fun z=>.bv z)) (r:Bool) (h:Zai x1 p1=some r):Zq2 Tryz.prog 108 [.sl 5 (List.map Mail.row x1),.clo g1 caps1] (.bv r):=by
 refine Zu2 ok108 rfl rfl fun w0 H0=>?_
 rw [Zai] at h
 refine Zl2 8 ?_;dsimp only [e108,go_sem];refine ⟨by simp,?_⟩;obtain ⟨x2,ex2,h⟩:=Option.bind_eq_some_iff.1 h;refine Zz2 trivial (Z9i x1 _ _ p1 hc1 _ ex2) (hp:=(by first | rfl | simp [go_sem,hc1.pu])) (h:=?_);refine Zl2 3 ?_;dsimp only [e108,go_sem];refine ⟨by simp,?_⟩;exact Zt4 (res:=fun (r:Bool)=>.bv r) ok108 h
set_option maxRecDepth 100000
set_option maxHeartbeats 4000000
def e59:EC:=.seq (.reg [(Qa 1 (.box 48 2 (.t 0))),(Qa 2 (.mv (.c (.iv 0))))]) (.seq (.reg [(Qa 7 (.mkf 104 [(.t 1)])),(Qa 3 (.mv (.t 7)))]) (.seq (.reg [(Qa 4 (.mv (.c (.clo 105 []))))]) (.seq (.seq (.reg [(Qa 9 (.fld 0 (.t 1))),(Qa 10 (.load (.t 9))),(Qa 11 (.call 106 [(.t 10)])),(Qa 8 (.mv (.t 11))),(Qa 12 (.ext (.t 8) 0)),(Qa 13 (.ext (.t 8) 1)),(Qa 5 (.alloc 53 [.iv 0,.nl])),(Qb (.store 2 (.t 5) (.t 12))),(Qa 6 (.mv (.t 13)))]) (.seq (.reg [(Qa 14 (.mv (.t 6))),(Qa 15 (.not (.t 14))),(Qa 16 (.mv (.t 15))),(Qg 17 16 false (.fld 0 (.t 1))),(Qg 18 16 false (.load (.t 17))),(Qg 19 16 false (.mv (.t 4))),(Qg 20 16 false (.call 107 [(.t 18),(.t 19)])),(Qa 21 (.pick (.t 16) (.c .tt) (.t 20))),(Qa 22 (.mv (.t 21))),(Qg 23 22 false (.fld 1 (.t 1))),(Qg 24 22 false (.load (.t 23))),(Qg 25 22 false (.mv (.t 3))),(Qg 26 22 false (.call 108 [(.t 24),(.t 25)])),(Qa 27 (.pick (.t 22) (.c .tt) (.t 26)))]) (.ite (.t 27) (.seq (.reg [(Qa 2 (.mv (.c (.iv 142))))]) (.ret)) (.skip)))) (.seq (.reg [(Qa 2 (.mv (.c (.iv 0))))]) (.ret)))))
theorem ok59:FnOK Tryz.prog 59 Tryz.f59 e59 [.t 2] 1 27:=⟨by kernel_rfl,⟨_,rfl,by kernel_rfl⟩,by kernel_rfl,by kernel_rfl⟩
noncomputable def Zci:Bool→Option Int
| x5=>
 ifb x5 (
 some 142) (
 some 0)
noncomputable def Zdi (x1:Scene):Option Int:=
 (Zg9 x1.Diners).bind fun x2=>
 ifb (!x2.2) (
 Zci true) (
 (Z3i x1.Diners ((fun z=>Zwh z))).bind fun x3=>
 ifb x3 (
 Zci true) (
 (Zai x1.Mail ((fun z=>Zuh z x1))).bind fun x4=>
 Zci x4))
theorem k_table_Check (x1:Scene) (r:Int) (h:Zdi x1=some r):Zq2 Tryz.prog 59 [.agg (Scene.row x1)] (.iv r):=by
 refine Zu2 ok59 rfl rfl fun w0 H0=>?_
 rw [Zdi] at h
 refine Zl2 19 ?_;dsimp only [e59,go_sem];refine ⟨by simp,?_⟩;obtain ⟨x2,ex2,h⟩:=Option.bind_eq_some_iff.1 h;refine Zz2 trivial (k_place_Graph x1.Diners _ ex2) (h:=?_);refine Zl2 12 ?_;dsimp only [e59,go_sem];refine ⟨by simp,?_⟩;refine Zi4 (fun (x5:Bool)=>(⟨(an 27 [.bv x5]),[],[]⟩:St)) Zci r ?_ fun J1=>?_
 ·intro x5 h;rw [Zci] at h;(try dsimp only);refine Zk4 h rfl (fun _ h=>?_) fun _ h=>?_
  ·refine Zl2 4 ?_;dsimp only [e59,go_sem];refine ⟨by simp,?_⟩;exact Zt4 (res:=fun (r:Int)=>.iv r) ok59 h
  ·refine Zl2 5 ?_;dsimp only [e59,go_sem];refine ⟨by simp,?_⟩;exact Zt4 (res:=fun (r:Int)=>.iv r) ok59 h
 ·refine Zs4 16 h rfl (fun _ h=>?_) fun _ h=>?_
  ·dsimp only [go_sem];refine Zl2 12 ?_;dsimp only [e59,go_sem];refine ⟨by simp,?_⟩;exact Zv4 J1 (s:=true) h
  ·dsimp only [go_sem];refine Zl2 3 ?_;dsimp only [e59,go_sem];refine ⟨by simp,?_⟩;obtain ⟨x3,ex3,h⟩:=Option.bind_eq_some_iff.1 h;refine Zz2 trivial (Z4i x1.Diners _ _ ((fun z=>Zwh z)) ⟨by kernel_rfl,rfl,fun z r hz=>Zxh z r hz⟩ _ ex3) (h:=?_);refine Zl2 2 ?_;dsimp only [e59,go_sem];refine ⟨by simp,?_⟩;refine Zs4 22 h rfl (fun _ h=>?_) fun _ h=>?_
   ·dsimp only [go_sem];refine Zl2 6 ?_;dsimp only [e59,go_sem];refine ⟨by simp,?_⟩;exact Zv4 J1 (s:=true) h
   ·dsimp only [go_sem];refine Zl2 3 ?_;dsimp only [e59,go_sem];refine ⟨by simp,?_⟩;obtain ⟨x4,ex4,h⟩:=Option.bind_eq_some_iff.1 h;refine Zy4 trivial ((Zw4.refl _).block 0 rfl rfl) (Zbi x1.Mail _ _ ((fun z=>Zuh z x1)) ⟨by kernel_rfl,rfl,fun z r hz=>Zvh z x1 r hz⟩ _ ex4) (h:=?_);refine Zl2 2 ?_;dsimp only [e59,go_sem];refine ⟨by simp,?_⟩;exact Zv4 J1 (s:=x4) h
set_option maxRecDepth 100000
set_option maxHeartbeats 4000000
def e134:EC:=.seq (.reg [(Qa 4 (.mv (.c .nl)))]) (.seq (.seq (.reg [(Qa 5 (.mv (.t 1))),(Qa 6 (.bin .lss (.t 5) (.c (.iv 0))))]) (.ite (.t 6) (.reg [(Qa 7 .bad),(Qb .bad)]) (.skip))) (.seq (.seq (.reg [(Qa 8 (.mv (.t 1))),(Qa 9 (.mv (.t 0))),(Qa 10 (.cap (.t 9))),(Qa 11 (.mv (.t 0))),(Qa 12 (.len (.t 11))),(Qa 13 (.bin .sub (.t 10) (.t 12))),(Qa 14 (.bin .sub (.t 8) (.t 13))),(Qa 1 (.mv (.t 14)))]) (.seq (.reg [(Qa 15 (.mv (.t 1))),(Qa 16 (.bin .gtr (.t 15) (.c (.iv 0))))]) (.ite (.t 16) (.reg [(Qa 17 (.mv (.t 0))),(Qa 18 (.mv (.t 0))),(Qa 19 (.cap (.t 18))),(Qa 20 (.slice 5 (.t 17) none (some (.t 19)))),(Qa 21 (.mv (.t 1))),(Qa 22 (.apz 95 5 40 [.iv 0,.iv 0,.iv 0,.iv 0,.iv 0] (.t 20) (.t 21))),(Qa 23 (.mv (.t 0))),(Qa 24 (.len (.t 23))),(Qa 25 (.slice 5 (.t 22) none (some (.t 24)))),(Qa 0 (.mv (.t 25)))]) (.skip)))) (.seq (.reg [(Qa 26 (.mv (.t 0))),(Qa 4 (.mv (.t 26)))]) (.ret))))
theorem ok134:FnOK Tryz.prog 134 Tryz.f134 e134 [.t 4] 2 25:=⟨by kernel_rfl,⟨_,rfl,by kernel_rfl⟩,by kernel_rfl,by kernel_rfl⟩
noncomputable def Zei (_x1:(List Mail)) (_x2:Int):Option (List Mail):=
 none
theorem k_slices_Grow_Mail (x1:(List Mail)) (x2:Int) (r:(List Mail)) (h:Zei x1 x2=some r):Zq2 Tryz.prog 134 [.sl 5 (List.map Mail.row x1),.iv x2] (.sl 5 (List.map Mail.row r)):=by
 simp [Zei] at h
set_option maxRecDepth 100000
set_option maxHeartbeats 4000000
def Zfi:EC:=.seq (.reg [(Qa 28 (.bin .lss (.t 27) (.t 26)))]) (.seq (.ite (.t 28) (.skip) (.exit 2)) (.seq (.blk 3 (.seq (.reg [(Qa 29 (.idx 1 (.t 25) (.t 27))),(Qa 30 (.load (.t 29))),(Qa 8 (.mv (.t 30)))]) (.reg [(Qa 31 (.mv (.t 6))),(Qa 32 (.mv (.t 8))),(Qa 33 (.app 95 5 40 (.t 31) (.t 32))),(Qa 6 (.mv (.t 33)))]))) (.reg [(Qa 34 (.bin .add (.t 27) (.c (.iv 1)))),(Qa 27 (.mv (.t 34)))])))
def Zgi:EC:=.seq (.reg [(Qa 12 (.bin .lss (.t 11) (.t 10)))]) (.seq (.ite (.t 12) (.skip) (.exit 0)) (.seq (.blk 1 (.seq (.reg [(Qa 13 (.idx 1 (.t 9) (.t 11))),(Qa 14 (.load (.t 13))),(Qa 5 (.mv (.t 14)))]) (.seq (.reg [(Qa 15 (.mv (.t 3))),(Qa 16 (.mv (.t 5))),(Qa 17 (.len (.t 16))),(Qa 18 (.bin .add (.t 15) (.t 17))),(Qa 3 (.mv (.t 18)))]) (.seq (.reg [(Qa 19 (.mv (.t 3))),(Qa 20 (.bin .lss (.t 19) (.c (.iv 0))))]) (.ite (.t 20) (.reg [(Qa 21 .bad),(Qb .bad)]) (.skip)))))) (.reg [(Qa 22 (.bin .add (.t 11) (.c (.iv 1)))),(Qa 11 (.mv (.t 22)))])))
def e88:EC:=.seq (.reg [(Qa 2 (.mv (.c .nl)))]) (.seq (.reg [(Qa 3 (.mv (.c (.iv 0))))]) (.seq (.seq (.reg [(Qa 9 (.mv (.t 0))),(Qa 10 (.len (.t 9))),(Qa 11 (.mv (.c (.iv 0))))]) (.blk 0 (.loop Zgi))) (.seq (.reg [(Qa 23 (.mv (.t 3))),(Qa 24 (.call 134 [(.c .nl),(.t 23)])),(Qa 6 (.mv (.t 24)))]) (.seq (.seq (.reg [(Qa 25 (.mv (.t 0))),(Qa 26 (.len (.t 25))),(Qa 27 (.mv (.c (.iv 0))))]) (.blk 2 (.loop Zfi))) (.seq (.reg [(Qa 35 (.mv (.t 6))),(Qa 2 (.mv (.t 35)))]) (.ret))))))
theorem ok88:FnOK Tryz.prog 88 Tryz.f88 e88 [.t 2] 1 35:=⟨by kernel_rfl,⟨_,rfl,by kernel_rfl⟩,by kernel_rfl,by kernel_rfl⟩
noncomputable def Zhi:(List Mail)→Option (List Mail)
| x4=>
 some x4
noncomputable def Zii (x1:Int):Unit→Option (List Mail)
| ()=>
 ifb (decide (0<(wr (x1-(wr (0-0)))))) (
 (apz_ 40 (wr (x1-(wr (0-0)))) ((Mail.mk 0 0 ((Msg.mk 0 0 0))))).bind fun x2=>
 (sub_ x2 0 0).bind fun x3=>
 Zhi x3) (
 Zhi (([]:List Mail)))
noncomputable def Zji (x1:Int):Option (List Mail):=
 ifb (decide (x1<0)) (
 none) (
 (Zii x1) ())
theorem Zki (x1:Int) (r:(List Mail)) (h:Zji x1=some r):FunT Tryz.prog 134 [.nl,.iv x1] [] [] (.osl 0) [] [some ⟨95,5,List.map Mail.row r⟩]:=by
 refine Zt5 ok134 rfl rfl rfl (by first | rfl | simp [go_sem]) fun w0 M0=>?_
 rw [Zji] at h
 dsimp only [lun,List.cons_append,List.nil_append]
 refine Zl2 10 ?_;dsimp only [e134,go_sem];refine ⟨by simp,?_⟩;refine Zi4 (fun (_:Unit)=>(⟨(.nl :: .iv x1::an 25 []),[],[]⟩:St)) (Zii x1) r ?_ fun J1=>?_
 ·rintro ⟨⟩ h;rw [Zii] at h;(try dsimp only);refine Zl2 5 ?_;dsimp only [e134,go_sem];refine ⟨by simp,?_⟩;refine V_capN trivial rfl ?_;refine Zl2 11 ?_;dsimp only [e134,go_sem];refine ⟨by simp,?_⟩;refine Zi4 (fun (x4:(List Mail))=>(⟨(.osl 0::an 26 []),[],[some ⟨95,5,List.map Mail.row x4⟩]⟩:St)) Zhi r ?_ fun J2=>?_
  ·intro x4 h;rw [Zhi] at h;(try dsimp only);refine Zl2 5 ?_;dsimp only [e134,go_sem];refine ⟨by simp,?_⟩;obtain rfl:=Option.some.inj h;exact Zu5 ok134 rfl (by simp [go_sem])
  ·refine Zk4 h rfl (fun _ h=>?_) fun _ h=>?_
   ·refine Zl2 3 ?_;dsimp only [e134,go_sem];refine ⟨by simp,?_⟩;refine V_capN trivial rfl ?_;refine V_sliceN trivial rfl rfl rfl ?_;refine Zl2 1 ?_;dsimp only [e134,go_sem];refine ⟨by simp,?_⟩;obtain ⟨x2,ex2,h⟩:=Option.bind_eq_some_iff.1 h;refine V_apzM Mail.row ex2 trivial rfl rfl rfl rfl ?_;refine Zl2 2 ?_;dsimp only [e134,go_sem];refine ⟨by simp,?_⟩;obtain ⟨x3,ex3,h⟩:=Option.bind_eq_some_iff.1 h;refine V_cutM Mail.row ex3 trivial rfl rfl rfl rfl ?_;refine Zl2 2 ?_;dsimp only [e134,go_sem];refine ⟨by simp,?_⟩;refine Z54 1 0 rfl rfl rfl ?_
    dsimp only [go_sem];exact Zv4 J2 (s:=x3) h
   ·refine Zl2 1 ?_;dsimp only [e134,go_sem];refine ⟨by simp,?_⟩;refine V_own 0 95 5 rfl rfl ?_;dsimp only [go_sem];exact Zv4 J2 (s:=([]:List Mail)) h
 ·refine Zk4 h rfl (fun _ h=>?_) fun _ h=>?_
  ·cases h
  ·refine Zl2 1 ?_;dsimp only [e134,go_sem];refine ⟨by simp,?_⟩;exact Zv4 J1 (s:=()) h
noncomputable def Zli:(List Mail)→Option (List Mail)
| x31=>
 some x31
noncomputable def Zmi (x1:(List (List Mail))):(Int×(List Mail))→Option ((Int×(List Mail)) ⊕ (List Mail))
| (x21,x22)=>
 ifb (decide (x21<(ln (Z15 5 Mail.row) x1))) (
 (at_ x1 x21).bind fun x23=>
 (Zc4 40 x22 x23).bind fun x24=>
 some (.inl (wr (x21+1),x24))) (
 Option.map Sum.inr (Zli x22))
noncomputable def Zni (x1:(List (List Mail))):Int→Option (List Mail)
| x15=>
 (Zji x15).bind fun x16=>
 loop (Zmi x1) (0,x16)
noncomputable def Zoi (x5:Int) (x6:Int) (x7:(List Mail)):Unit→Option ((Int×Int) ⊕ (List Mail))
| ()=>
 some (.inl (wr (x5+(ln Mail.row x7)),wr (x6+1)))
noncomputable def Zpi (x1:(List (List Mail))):(Int×Int)→Option ((Int×Int) ⊕ (List Mail))
| (x5,x6)=>
 ifb (decide (x6<(ln (Z15 5 Mail.row) x1))) (
 (at_ x1 x6).bind fun x7=>
 ifb (decide ((wr (x5+(ln Mail.row x7)))<0)) (
 none) (
 (Zoi x5 x6 x7) ())) (
 Option.map Sum.inr ((Zni x1) x5))
noncomputable def Zqi (x1:(List (List Mail))):Option (List Mail):=
 loop (Zpi x1) (0,0)
theorem Zri (x1:(List (List Mail))) (r:(List Mail)) (h:Zqi x1=some r):FunO Tryz.prog 88 [.sl 1 (List.map (Z15 5 Mail.row) x1)] 95 5 (List.map Mail.row r):=by
 refine Z95 ok88 rfl fun w0 H0=>?_
 rw [Zqi] at h
 refine Zl2 15 ?_;dsimp only [e88,Zgi,Zfi,go_sem];refine ⟨by simp,?_⟩;refine Zi4 (fun (x15:Int)=>(⟨(.sl 1 (List.map (Z15 5 Mail.row) x1) :: .any :: .any :: .iv x15::an 32 []),[],[]⟩:St)) (Zni x1) r ?_ fun J1=>?_
 ·intro x15 h;rw [Zni] at h;(try dsimp only);refine Zl2 3 ?_;dsimp only [e88,Zgi,Zfi,go_sem];refine ⟨by simp,?_⟩;obtain ⟨x16,ex16,h⟩:=Option.bind_eq_some_iff.1 h;refine Zw5 [] [] trivial (Zki x15 _ ex16) (h:=?_);dsimp only [go_sem];refine Zl2 9 ?_;dsimp only [e88,Zgi,Zfi,go_sem];refine ⟨by simp,?_⟩;refine Zi4 (fun (x31:(List Mail))=>(⟨(an 6 (.osl 0::an 29 [])),[],[some ⟨95,5,List.map Mail.row x31⟩]⟩:St)) Zli r ?_ fun J3=>?_
  ·intro x31 h;rw [Zli] at h;(try dsimp only);refine Zl2 5 ?_;dsimp only [e88,Zgi,Zfi,go_sem];refine ⟨by simp,?_⟩;exact Zh5 Mail.row ok88 h rfl rfl
  ·refine Zl2 1 ?_;dsimp only [e88,Zgi,Zfi,go_sem];refine ⟨by simp,?_⟩;refine Zj4 h (fun ((x21,x22):(Int×(List Mail)))=>(⟨(an 6 (.osl 0::an 18 (.sl 1 (List.map (Z15 5 Mail.row) x1) :: .iv (ln (Z15 5 Mail.row) x1) :: .iv x21::an 8 []))),[],[some ⟨95,5,List.map Mail.row x22⟩]⟩:St)) (by simp [go_sem]) (by rintro ⟨x21,x22⟩;first | rfl | simp [go_sem]) ?_;rintro n1 ⟨x21,x22⟩ y1 h hin1 hout1;rw [Zmi] at h;(try dsimp only);refine Zl2 5 ?_;dsimp only [e88,Zgi,Zfi,go_sem];refine ⟨by simp,?_⟩
   refine Zk4 h rfl (fun _ h=>?_) fun _ h=>?_
   ·refine Zl2 5 ?_;dsimp only [e88,Zgi,Zfi,go_sem];refine ⟨by simp,?_⟩;obtain ⟨x23,ex23,h⟩:=Option.bind_eq_some_iff.1 h;refine Zn4 (Z15 5 Mail.row) ex23 trivial rfl rfl rfl ?_;refine Zl2 6 ?_;dsimp only [e88,Zgi,Zfi,go_sem];refine ⟨by simp,?_⟩;obtain ⟨x24,ex24,h⟩:=Option.bind_eq_some_iff.1 h;refine Zq4 Mail.row ex24 trivial rfl rfl rfl ?_;refine Zl2 7 ?_;dsimp only [e88,Zgi,Zfi,go_sem];refine ⟨by simp,?_⟩;refine Z54 1 0 rfl rfl rfl ?_;dsimp only [go_sem];exact Zu4 h hin1
   ·refine Zl2 1 ?_;dsimp only [e88,Zgi,Zfi,go_sem];refine ⟨by simp,?_⟩;exact Zv4 J3 (s:=x22) (Zh4 h hout1)
 ·refine Zl2 1 ?_;dsimp only [e88,Zgi,Zfi,go_sem];refine ⟨by simp,?_⟩;refine Zj4 h (fun ((x5,x6):(Int×Int))=>(⟨(.sl 1 (List.map (Z15 5 Mail.row) x1) :: .any :: .any :: .iv x5::an 5 (.sl 1 (List.map (Z15 5 Mail.row) x1) :: .iv (ln (Z15 5 Mail.row) x1) :: .iv x6::an 24 [])),[],[]⟩:St)) (by simp [go_sem]) (by rintro ⟨x5,x6⟩;first | rfl | simp [go_sem]) ?_;rintro n1 ⟨x5,x6⟩ y1 h hin1 hout1;rw [Zpi] at h;(try dsimp only);refine Zl2 5 ?_;dsimp only [e88,Zgi,Zfi,go_sem];refine ⟨by simp,?_⟩
  refine Zk4 h rfl (fun _ h=>?_) fun _ h=>?_
  ·refine Zl2 5 ?_;dsimp only [e88,Zgi,Zfi,go_sem];refine ⟨by simp,?_⟩;obtain ⟨x7,ex7,h⟩:=Option.bind_eq_some_iff.1 h;refine Zn4 (Z15 5 Mail.row) ex7 trivial rfl rfl rfl ?_;refine Zl2 16 ?_;dsimp only [e88,Zgi,Zfi,go_sem];refine ⟨by simp,?_⟩;refine Zi4 (fun (_:Unit)=>(⟨(.sl 1 (List.map (Z15 5 Mail.row) x1) :: .any :: .any :: .iv (wr (x5+(ln Mail.row x7)))::an 5 (.sl 1 (List.map (Z15 5 Mail.row) x1) :: .iv (ln (Z15 5 Mail.row) x1) :: .iv x6::an 24 [])),[],[]⟩:St)) (Zoi x5 x6 x7) y1 ?_ fun J2=>?_
   ·rintro ⟨⟩ h;rw [Zoi] at h;(try dsimp only);refine Zl2 5 ?_;dsimp only [e88,Zgi,Zfi,go_sem];refine ⟨by simp,?_⟩;exact Zu4 h hin1
   ·refine Zk4 h rfl (fun _ h=>?_) fun _ h=>?_
    ·cases h
    ·refine Zl2 1 ?_;dsimp only [e88,Zgi,Zfi,go_sem];refine ⟨by simp,?_⟩;exact Zv4 J2 (s:=()) h
  ·refine Zl2 1 ?_;dsimp only [e88,Zgi,Zfi,go_sem];refine ⟨by simp,?_⟩;exact Zv4 J1 (s:=x5) (Zh4 h hout1)
theorem k_slices_Concat_Mail (x1:(List (List Mail))) (r:(List Mail)) (h:Zqi x1=some r):Zq2 Tryz.prog 88 [.sl 1 (List.map (Z15 5 Mail.row) x1)] (.sl 5 (List.map Mail.row r)):=(Zri x1 r h).sealed
set_option maxRecDepth 100000
set_option maxHeartbeats 4000000
def Zsi:EC:=.seq (.seq (.reg [(Qa 11 (.mv (.t 5))),(Qa 12 (.mv (.t 0))),(Qa 13 (.len (.t 12))),(Qa 14 (.bin .lss (.t 11) (.t 13)))]) (.ite (.t 14) (.skip) (.exit 0))) (.seq (.blk 1 (.seq (.drw [(Qa 17 (.mv (.t 0))),(Qa 18 (.mv (.t 5))),(Qa 19 (.idx 5 (.t 17) (.t 18))),(Qa 20 (.loadA 5 (.t 19))),(Qa 21 (.mv (.t 1))),(Qa 22 (.mv (.t 5))),(Qa 23 (.idx 5 (.t 21) (.t 22))),(Qa 24 (.loadA 5 (.t 23))),(Qa 25 (.eqs true [true,true,true,true,true] (.t 20) (.t 24)))] [[],[],[0,1],[2],[],[],[4,5],[6],[3,7]] [[2],[2],[0,1,3],[2,8],[6],[6],[4,5,7],[6,8],[3,7]]) (.ite (.t 25) (.seq (.reg [(Qa 4 (.mv (.c .ff)))]) (.ret)) (.skip)))) (.reg [(Qa 15 (.mv (.t 5))),(Qa 16 (.bin .add (.t 15) (.c (.iv 1)))),(Qa 5 (.mv (.t 16)))]))
def e56:EC:=.seq (.reg [(Qa 4 (.mv (.c .ff)))]) (.seq (.seq (.reg [(Qa 6 (.mv (.t 0))),(Qa 7 (.len (.t 6))),(Qa 8 (.mv (.t 1))),(Qa 9 (.len (.t 8))),(Qa 10 (.bin .neq (.t 7) (.t 9)))]) (.ite (.t 10) (.seq (.reg [(Qa 4 (.mv (.c .ff)))]) (.ret)) (.skip))) (.seq (.seq (.reg [(Qa 5 (.mv (.c (.iv 0))))]) (.blk 0 (.loop Zsi))) (.seq (.reg [(Qa 4 (.mv (.c .tt)))]) (.ret))))
theorem ok56:FnOK Tryz.prog 56 Tryz.f56 e56 [.t 4] 2 24:=⟨by kernel_rfl,⟨_,rfl,by kernel_rfl⟩,by kernel_rfl,by kernel_rfl⟩
noncomputable def Zti:Unit→Option Bool
| ()=>
 some true
noncomputable def Zui (x1:(List Mail)) (x2:(List Mail)):Int→Option (Int ⊕ Bool)
| x6=>
 ifb (decide (x6<(ln Mail.row x1))) (
 (at_ x1 x6).bind fun x7=>
 (at_ x2 x6).bind fun x8=>
 ifb (!(decide (x7.From=x8.From)&&(decide (x7.To=x8.To)&&(decide (x7.Msg.Kind=x8.Msg.Kind)&&(decide (x7.Msg.Epoch=x8.Msg.Epoch)&&(decide (x7.Msg.Num=x8.Msg.Num)&&true)))))) (
 Option.map Sum.inr (some false)) (
 some (.inl (wr (x6+1))))) (
 Option.map Sum.inr (Zti ()))
noncomputable def Zvi (x1:(List Mail)) (x2:(List Mail)):Option Bool:=
 ifb (!decide ((ln Mail.row x1)=(ln Mail.row x2))) (
 some false) (
 loop (Zui x1 x2) 0)
theorem Zwi (x1:(List Mail)) (x2:(List Mail)) (r:Bool) (h:Zvi x1 x2=some r):Zq2 Tryz.prog 56 [.sl 5 (List.map Mail.row x1),.sl 5 (List.map Mail.row x2)] (.bv r):=by
 refine Zu2 ok56 rfl rfl fun w0 H0=>?_
 rw [Zvi] at h
 refine Zl2 13 ?_;dsimp only [e56,Zsi,go_sem];refine ⟨by simp,?_⟩;refine Zk4 h rfl (fun _ h=>?_) fun _ h=>?_
 ·refine Zl2 4 ?_;dsimp only [e56,Zsi,go_sem];refine ⟨by simp,?_⟩;exact Zt4 (res:=fun (r:Bool)=>.bv r) ok56 h
 ·refine Zl2 6 ?_;dsimp only [e56,Zsi,go_sem];refine ⟨by simp,?_⟩;refine Zi4 (fun (_:Unit)=>(⟨(an 26 []),[],[]⟩:St)) Zti r ?_ fun J1=>?_
  ·rintro ⟨⟩ h;rw [Zti] at h;(try dsimp only);refine Zl2 4 ?_;dsimp only [e56,Zsi,go_sem];refine ⟨by simp,?_⟩;exact Zt4 (res:=fun (r:Bool)=>.bv r) ok56 h
  ·refine Zl2 1 ?_;dsimp only [e56,Zsi,go_sem];refine ⟨by simp,?_⟩;refine Zj4 h (fun (x6:Int)=>(⟨(.sl 5 (List.map Mail.row x1) :: .sl 5 (List.map Mail.row x2)::an 3 (.iv x6::an 20 [])),[],[]⟩:St)) (by simp [go_sem]) (by intro x6;first | rfl | simp [go_sem]) ?_;rintro n1 x6 y1 h hin1 hout1;rw [Zui] at h;(try dsimp only);refine Zl2 8 ?_;dsimp only [e56,Zsi,go_sem];refine ⟨by simp,?_⟩;refine Zk4 h rfl (fun _ h=>?_) fun _ h=>?_
   ·refine Zl2 4 ?_;dsimp only [e56,Zsi,go_sem];refine ⟨by simp,?_⟩;refine Zh3 (by kernel_rfl) fun all hall hs hnap haf=>?_;dsimp only [go_sem];refine Zf5 hall hs haf hnap 4 5 ?_;dsimp only [go_sem];refine ⟨by simp,?_⟩;obtain ⟨x7,ex7,h⟩:=Option.bind_eq_some_iff.1 h;refine Zo4 hall hs haf hnap 2 Mail.row ex7 rfl rfl trivial rfl rfl rfl rfl ?_;refine Zf5 hall hs haf hnap 1 3 ?_;dsimp only [go_sem];refine ⟨by simp,?_⟩;obtain ⟨x8,ex8,h⟩:=Option.bind_eq_some_iff.1 h;refine Zo4 hall hs haf hnap 6 Mail.row ex8 rfl rfl trivial rfl rfl rfl rfl ?_
    refine Zf5 hall hs haf hnap 2 0 ?_;dsimp only [go_sem];refine ⟨by simp,?_⟩;refine Zt3 rfl ?_ _;refine Zk4 h rfl (fun _ h=>?_) fun _ h=>?_
    ·refine Zl2 4 ?_;dsimp only [e56,Zsi,go_sem];refine ⟨by simp,?_⟩;exact Zt4 (res:=fun (r:Bool)=>.bv r) ok56 (Zh4 h hout1)
    ·refine Zl2 7 ?_;dsimp only [e56,Zsi,go_sem];refine ⟨by simp,?_⟩;exact Zu4 h hin1
   ·refine Zl2 1 ?_;dsimp only [e56,Zsi,go_sem];refine ⟨by simp,?_⟩;exact Zv4 J1 (s:=()) (Zh4 h hout1)
set_option maxRecDepth 100000
set_option maxHeartbeats 4000000
def e25:EC:=.seq (.reg [(Qa 2 (.box 48 2 (.t 0))),(Qa 3 (.box 48 2 (.t 1))),(Qa 4 (.mv (.c .ff)))]) (.seq (.reg [(Qa 5 (.fld 0 (.t 2))),(Qa 6 (.load (.t 5))),(Qa 7 (.fld 0 (.t 3))),(Qa 8 (.load (.t 7))),(Qa 9 (.call 70 [(.t 6),(.t 8)])),(Qa 10 (.mv (.t 9))),(Qg 11 10 true (.fld 1 (.t 2))),(Qg 12 10 true (.load (.t 11))),(Qg 13 10 true (.fld 1 (.t 3))),(Qg 14 10 true (.load (.t 13))),(Qg 15 10 true (.call 56 [(.t 12),(.t 14)])),(Qa 16 (.pick (.t 10) (.t 15) (.c .ff))),(Qa 4 (.mv (.t 16)))]) (.ret))
theorem ok25:FnOK Tryz.prog 25 Tryz.f25 e25 [.t 4] 2 15:=⟨by kernel_rfl,⟨_,rfl,by kernel_rfl⟩,by kernel_rfl,by kernel_rfl⟩
noncomputable def Zxi:Bool→Option Bool
| x5=>
 some x5
noncomputable def Zyi (x1:Scene) (x2:Scene):Option Bool:=
 (Z78 x1.Diners x2.Diners).bind fun x3=>
 ifb x3 (
 (Zvi x1.Mail x2.Mail).bind fun x4=>
 Zxi x4) (
 Zxi false)
theorem k_narthexref14_Same (x1:Scene) (x2:Scene) (r:Bool) (h:Zyi x1 x2=some r):Zq2 Tryz.prog 25 [.agg (Scene.row x1),.agg (Scene.row x2)] (.bv r):=by
 refine Zu2 ok25 rfl rfl fun w0 H0=>?_
 rw [Zyi] at h
 refine Zl2 12 ?_;dsimp only [e25,go_sem];refine ⟨by simp,?_⟩;obtain ⟨x3,ex3,h⟩:=Option.bind_eq_some_iff.1 h;refine Zz2 trivial (Z88 x1.Diners x2.Diners _ ex3) (h:=?_);refine Zl2 1 ?_;dsimp only [e25,go_sem];refine ⟨by simp,?_⟩;refine Zi4 (fun (x5:Bool)=>(⟨(an 4 (.bv x5::an 12 [])),[],[]⟩:St)) Zxi r ?_ fun J1=>?_
 ·intro x5 h;rw [Zxi] at h;(try dsimp only);exact Zt4 (res:=fun (r:Bool)=>.bv r) ok25 h
 ·refine Zs4 10 h rfl (fun _ h=>?_) fun _ h=>?_
  ·dsimp only [go_sem];refine Zl2 4 ?_;dsimp only [e25,go_sem];refine ⟨by simp,?_⟩;obtain ⟨x4,ex4,h⟩:=Option.bind_eq_some_iff.1 h;refine Zz2 trivial (Zwi x1.Mail x2.Mail _ ex4) (h:=?_);refine Zl2 3 ?_;dsimp only [e25,go_sem];refine ⟨by simp,?_⟩;exact Zv4 J1 (s:=x4) h
  ·dsimp only [go_sem];refine Zl2 8 ?_;dsimp only [e25,go_sem];refine ⟨by simp,?_⟩;exact Zv4 J1 (s:=false) h
theorem Zzi (l:List Mail) (p:Mail→Option Bool) (q:Mail→Bool) (hl:l.length≤4000000000000000000) (hp:∀x∈l,p x=some (q x)):Z8i l p=some (plc (l.findIdx? q)):=by
 unfold Z8i
 refine Zp6 l _ q hl (fun k x hx=>?_) ?_
 ·simp only [Z7i,Zi6 hx,Zc6,Zg6 hx,Option.bind_some,hp x (List.mem_iff_getElem?.2 ⟨k,hx⟩),Zl6 hx hl]
  cases q x<;>rfl
 ·simp only [Z7i,Zj6,Zd6,Z6i,Option.map_some]
theorem Z0j (l:List Mail) (p:Mail→Option Bool) (q:Mail→Bool) (hl:l.length≤4000000000000000000) (hp:∀x∈l,p x=some (q x)):Zai l p=some (l.any q):=by
 unfold Zai
 rw [Zzi l p q hl hp,Option.bind_some,Zn6,Zq6]
theorem Z1j (l:List Diner) (p:Diner→Option Bool) (q:Diner→Bool) (hl:l.length≤4000000000000000000) (hp:∀x∈l,p x=some (q x)):Z1i l p=some (plc (l.findIdx? q)):=by
 unfold Z1i
 refine Zp6 l _ q hl (fun k x hx=>?_) ?_
 ·simp only [Z0i,Zi6 hx,Zc6,Zg6 hx,Option.bind_some,hp x (List.mem_iff_getElem?.2 ⟨k,hx⟩),Zl6 hx hl]
  cases q x<;>rfl
 ·simp only [Z0i,Zj6,Zd6,Zzh,Option.map_some]
theorem Z2j (l:List Diner) (p:Diner→Option Bool) (q:Diner→Bool) (hl:l.length≤4000000000000000000) (hp:∀x∈l,p x=some (q x)):Z3i l p=some (l.any q):=by
 unfold Z3i
 rw [Z1j l p q hl hp,Option.bind_some,Zn6,Zq6]
def Z3j:Scene:=⟨[],[]⟩
def Z4j (n:Nat) (m:Mail):Bool:=!(decide (min m.From m.To<0)||(decide ((n:Int)≤max m.From m.To)||decide (m.From=m.To)))
def okS (s:Scene):Bool:=(Zn9 s.Diners).2&&(s.Diners.all okD&&s.Mail.all (Z4j s.Diners.length))
theorem s_tCheck1 (m:Mail) (s:Scene):Zuh m s=some (!Z4j s.Diners.length m):=by
 simp only [Zuh,Zth,Z4j,Z25,Bool.not_not]
 cases decide (min m.From m.To<0)<;>cases decide ((s.Diners.length:Int)≤max m.From m.To)<;>rfl
theorem s_tCheck (s:Scene) (hD:fewD s.Diners) (hM:s.Mail.length≤1000000):Zdi s=some (if okS s then 0 else 142):=by
 simp only [Zdi,s_Graph _ hD,Option.bind_some,Zci]
 rw [show okS s=((Zn9 s.Diners).2&&(s.Diners.all okD&&s.Mail.all (Z4j s.Diners.length))) from rfl]
 cases h1:(Zn9 s.Diners).2 with
 | false=>simp
 | true=>
   rw [Z2j s.Diners _ (fun d=>!okD d) (by have:=hD.1;omega) (fun d _=>by
    simp only [Zwh,Zma,Option.bind_some]
    cases okD d<;>rfl)]
   rw [Z0j s.Mail _ (fun m=>!Z4j s.Diners.length m) (by omega) (fun m _=>s_tCheck1 m s)]
   have e1:s.Diners.any (fun d=>!okD d)=!s.Diners.all okD:=Z38 _ _ _ fun _=>rfl
   have e2:s.Mail.any (fun m=>!Z4j s.Diners.length m)=!s.Mail.all (Z4j s.Diners.length):=Z38 _ _ _ fun _=>rfl
   rw [e1,e2]
   cases s.Diners.all okD<;>cases s.Mail.all (Z4j s.Diners.length)<;>rfl
def Z5j (s:Scene) (a:Int):Bool:=decide (0≤a)&&decide (a<s.Diners.length)
theorem s_there (s:Scene) (a:Int):Zrh s a=some (Z5j s a):=by
 simp only [Zrh,Zqh,Z5j,Z25]
 cases decide (0≤a)<;>rfl
theorem s_Grow (n:Nat) (hn:n≤3000000):Zji n=some []:=by
 have e0:wr (0-0)=0:=Zf6 (by omega) (by omega)
 have e1:wr ((n:Int)-0)=n:=by rw [Zf6 (by omega) (by omega)];omega
 simp only [Zji,Zii,Zhi,e0,e1]
 rw [decide_eq_false (by omega),Zd6]
 by_cases h:0<n
 ·rw [decide_eq_true (by omega),Zc6]
  unfold apz_
  rw [if_pos ⟨by omega,by omega,by omega⟩,Option.bind_some]
  unfold sub_
  rw [if_pos ⟨by omega,by omega,by omega⟩]
  simp
 ·rw [decide_eq_false (by omega),Zd6]
theorem s_Concat (a b:List Mail) (ha:a.length≤1000000) (hb:b.length≤1000000):Zqi [a,b]=some (a++b):=by
 have g0:at_ [a,b] 0=some a:=rfl
 have g1:at_ [a,b] (wr (0+1))=some b:=by rw [Zf6 (by omega) (by omega)];rfl
 have l0:ln (Z15 5 Mail.row) [a,b]=2:=by rw [Z25];rfl
 have w1:wr (0+1)=1:=Zf6 (by omega) (by omega)
 have w2:wr (1+1)=2:=Zf6 (by omega) (by omega)
 have s1:wr (0+ln Mail.row a)=(a.length:Int):=by rw [Z25,Zf6 (by omega) (by omega)];omega
 have s2:wr ((a.length:Int)+ln Mail.row b)=((a.length+b.length:Nat):Int):=by rw [Z25,Zf6 (by omega) (by omega)];omega
 unfold Zqi
 rw [Zg4]
 dsimp only [Zpi]
 rw [l0,show decide ((0:Int)<2)=true from rfl,Zc6,g0,Option.bind_some,s1,decide_eq_false (by omega),Zd6]
 dsimp only [Zoi]
 rw [s1,w1,Zg4]
 dsimp only [Zpi]
 rw [l0,show decide ((1:Int)<2)=true from rfl,Zc6,←w1,g1,Option.bind_some,s2,decide_eq_false (by omega),Zd6]
 dsimp only [Zoi]
 rw [s2,w1,w2,Zg4]
 dsimp only [Zpi]
 rw [l0,show decide ((2:Int)<2)=false from rfl,Zd6]
 dsimp only [Zni]
 rw [s_Grow _ (by omega),Option.bind_some]
 have k:loop (Zmi [a,b]) (0,[])=some (a++b):=by
  rw [Zg4]
  dsimp only [Zmi]
  rw [l0,show decide ((0:Int)<2)=true from rfl,Zc6,g0,Option.bind_some,Zh6 _ _ (by omega) (by simp;omega),Option.bind_some,List.nil_append,w1]
  dsimp only
  rw [Zg4]
  dsimp only [Zmi]
  rw [l0,show decide ((1:Int)<2)=true from rfl,Zc6,←w1,g1,Option.bind_some,Zh6 _ _ (by omega) (by omega),Option.bind_some,w1,w2]
  dsimp only
  rw [Zg4]
  dsimp only [Zmi]
  rw [l0,show decide ((2:Int)<2)=false from rfl,Zd6]
  rfl
 rw [k];rfl
def actS (s:Scene) (a:Int) (d:Diner):Scene:=⟨s.Diners.map fun x=>if x.ID=a then Zua d else x,s.Mail++Zva d⟩
def actP (s:Scene) (a:Int) (r:Diner×Int):Scene×Int:=if r.2=0 then (if okD r.1 then (actS s a r.1,0) else (Z3j,130)) else (Z3j,r.2)
theorem okD_fireD {d:Diner} (h:okD d=true):(Zua d).Sides.length≤64:=by
 have:=Zoa h
 unfold Zua
 split<;>simp<;>omega
def Z6j (s:Scene) (a:Int) (q:Diner→Diner×Int):Scene×Int:=
 if okS s then (if Z5j s a then (match at_ s.Diners a with | some d=>actP s a (q d) | none=>(Z3j,140)) else (Z3j,140)) else (Z3j,142)
theorem Z7j {s:Scene} {a:Int} (h:Z5j s a=true):∃d,at_ s.Diners a=some d∧s.Diners[a.toNat]?=some d:=by
 simp only [Z5j,Bool.and_eq_true,decide_eq_true_eq] at h
 exact at_lt h.1 h.2
def Z8j (s:Scene) (a b:Int):Option Nat:=s.Mail.findIdx? fun m=>decide (m.From=a)&&decide (m.To=b)
def Z9j (s:Scene) (a b:Int):Scene×Int:=
 if okS s then (if Z5j s a&&Z5j s b then (match Z8j s a b with
  | none=>(Z3j,141)
  | some i=>match s.Mail[i]?,at_ s.Diners b with
    | some m,some d=>actP ⟨s.Diners,s.Mail.take i++s.Mail.drop (i+1)⟩ b (getD' d a m.Msg)
    | _,_=>(Z3j,140)) else (Z3j,140)) else (Z3j,142)
def actA (s:Scene) (k a b:Int):Scene×Int:=if k=0 then Z6j s a (fun d=>turnD d 0 1) else if k=1 then Z6j s a (fun d=>turnD d 2 0) else Z9j s a b
theorem Zaj (l m:List Mail) (hl:l.length≤1000000):Zvi l m=some (decide (l=m)):=by
 simp only [Zvi,Z39]
 by_cases h:l.length=m.length
 ·simp only [h,decide_true,Bool.not_true,Zd6]
  rw [Z09 l m _ (fun x y=>decide (x=y)) h (by omega) (fun k x y hx hy=>by
   simp only [Zui,Zi6 hx,Zc6,Zg6 hx,Zg6 hy,Option.bind_some,Mail_eqB,Zl6 hx (show l.length≤4000000000000000000 by omega),Ze6,Option.map_some]
   cases decide (x=y)<;>rfl) (by simp only [Zui,Zj6,Zd6,Zti,Option.map_some]),Z19 l m h]
 ·simp [h,Z29 h]
theorem s_Same14 (s t:Scene) (hD:fewD s.Diners) (hM:s.Mail.length≤900000):Zyi s t=some (decide (s=t)):=by
 obtain ⟨l,m⟩:=s
 obtain ⟨l',m'⟩:=t
 simp only [Zyi,Zxi,s_r12Same _ _ hD,Zaj m m' (by simp only at hM;omega),Option.bind_some,Scene.mk.injEq]
 by_cases h1:l=l'<;>by_cases h2:m=m'<;>simp [h1,h2]
theorem ids {l:List Diner} (h:(Zn9 l).2=true) {k:Nat} {d:Diner} (hd:l[k]?=some d):d.ID=k:=by
 unfold Zn9 at h
 split at h
 ·rename_i h1
  simp only [Bool.and_eq_true] at h1
  have:=((Z8d l l 0).1 h1.1 k d hd).1
  simpa using this
 ·simp at h
set_option maxRecDepth 100000
set_option maxHeartbeats 4000000
def e78:EC:=.seq (.reg [(Qa 1 (.box 53 2 (.t 0))),(Qa 2 (.alloc 48 [.nl,.nl])),(Qa 3 (.mv (.c (.iv 0))))]) (.seq (.reg [(Qa 9 (.loadA 2 (.t 1))),(Qa 10 (.call 124 [(.t 9)])),(Qa 8 (.mv (.t 10))),(Qa 11 (.ext (.t 8) 0)),(Qa 12 (.ext (.t 8) 1)),(Qa 13 (.ext (.t 8) 2)),(Qa 4 (.mv (.t 11))),(Qa 5 (.mv (.t 12))),(Qa 6 (.mv (.t 13)))]) (.seq (.seq (.reg [(Qa 14 (.mv (.t 6))),(Qa 15 (.bin .neq (.t 14) (.c (.iv 0))))]) (.ite (.t 15) (.seq (.reg [(Qa 16 (.build [.nl,.nl] [])),(Qa 17 (.mv (.t 6))),(Qb (.store 2 (.t 2) (.t 16))),(Qa 3 (.mv (.t 17)))]) (.ret)) (.skip))) (.seq (.reg [(Qa 19 (.loadA 2 (.t 1))),(Qa 20 (.mv (.t 4))),(Qa 21 (.call 125 [(.t 19),(.t 20)])),(Qa 18 (.mv (.t 21))),(Qa 22 (.ext (.t 18) 0)),(Qa 23 (.ext (.t 18) 1)),(Qa 7 (.mv (.t 22))),(Qa 6 (.mv (.t 23)))]) (.seq (.reg [(Qa 24 (.mv (.t 7))),(Qa 25 (.build [.nl,.nl] [(0,1,(.t 24))])),(Qa 26 (.mv (.t 6))),(Qb (.store 2 (.t 2) (.t 25))),(Qa 3 (.mv (.t 26)))]) (.ret)))))
theorem ok78:FnOK Tryz.prog 78 Tryz.f78 e78 [.c 2 (some 2),.t 3] 1 26:=⟨by kernel_rfl,⟨_,rfl,by kernel_rfl⟩,by kernel_rfl,by kernel_rfl⟩
noncomputable def Zbj (x1:Graph):Option (Scene×Int):=
 (Zwf x1).bind fun x2=>
 ifb (!decide (x2.2.2=0)) (
 some ((Scene.mk (([]:(List Diner))) (([]:(List Mail)))),x2.2.2)) (
 (Zke x1 x2.1).bind fun x3=>
 some ((Scene.mk x3.1 (([]:(List Mail)))),x3.2))
theorem k_table_New (x1:Graph) (r:(Scene×Int)) (h:Zbj x1=some r):Zq2 Tryz.prog 78 [.agg (Graph.row x1)] (.tup [.agg (Scene.row r.1),.iv r.2]):=by
 refine Zu2 ok78 rfl rfl fun w0 H0=>?_
 rw [Zbj] at h
 refine Zl2 9 ?_;dsimp only [e78,go_sem];refine ⟨by simp,?_⟩;obtain ⟨x2,ex2,h⟩:=Option.bind_eq_some_iff.1 h;refine Zz2 trivial (k_colour_Run x1 _ ex2) (h:=?_);refine Zl2 14 ?_;dsimp only [e78,go_sem];refine ⟨by simp,?_⟩;refine Zk4 h rfl (fun _ h=>?_) fun _ h=>?_
 ·refine Zl2 7 ?_;dsimp only [e78,go_sem];refine ⟨by simp,?_⟩;exact Zt4 (res:=fun (r:(Scene×Int))=>.tup [.agg (Scene.row r.1),.iv r.2]) ok78 h
 ·refine Zl2 5 ?_;dsimp only [e78,go_sem];refine ⟨by simp,?_⟩;obtain ⟨x3,ex3,h⟩:=Option.bind_eq_some_iff.1 h;refine Zz2 trivial (k_place_Table x1 x2.1 _ ex3) (h:=?_);refine Zl2 14 ?_;dsimp only [e78,go_sem];refine ⟨by simp,?_⟩;exact Zt4 (res:=fun (r:(Scene×Int))=>.tup [.agg (Scene.row r.1),.iv r.2]) ok78 h
theorem lsf_le (p:Nat→Bool):∀(f k j:Nat),p j=true→k≤j→j≤k+f→lsf p f k≤j
 | 0,k,j,_,h1,_=>h1
 | f+1,k,j,h,h1,h2=>by
   simp only [lsf]
   split
   ·exact h1
   ·rename_i hp
    have:k≠j:=by rintro rfl;exact hp h
    exact lsf_le p f (k+1) j h (by omega) (by omega)
theorem countP_lt {α:Type} (p q:α→Bool):∀(l:List α),(∀x∈l,p x=true→q x=true)→(∃x∈l,q x=true∧p x=false)→l.countP p<l.countP q
 | [],_,⟨x,hx,_⟩=>absurd hx (by simp)
 | y::l,h,⟨x,hx,h1,h2⟩=>by
   have hle:l.countP p≤l.countP q:=List.countP_mono_left fun z hz=>h z (List.mem_cons_of_mem _ hz)
   rw [List.countP_cons,List.countP_cons]
   rcases List.mem_cons.1 hx with rfl | hx
   ·rw [h1,h2];simp;omega
   ·have:=countP_lt p q l (fun z hz=>h z (List.mem_cons_of_mem _ hz)) ⟨x,hx,h1,h2⟩
    have hy:=h y (by simp)
    cases hp:p y with
    | false=>simp;omega
    | true=>rw [hy hp];simp;omega
def zeros (g:Graph) (c:List Int):Nat:=(List.range g.N.toNat).countP fun a:Nat=>decide (cg c (a:Int)=0)
theorem zeros_le (g:Graph) (c:List Int):zeros g c≤g.N.toNat:=by
 have:=List.countP_le_length (p:=fun a:Nat=>decide (cg c (a:Int)=0)) (l:=List.range g.N.toNat)
 simpa [zeros] using this
structure ColN (g:Graph) (c:List Int) (n:Nat):Prop where
 len:(c.length:Int)=g.N
 lo:∀x∈c,0≤x
 hi:∀x∈c,x≤n
 ne:∀a b,b∈Zye g a→cg c a≠0→cg c b≠0→cg c a≠cg c b
theorem ColN.I {g:Graph} {c:List Int} {n:Nat} (h:ColN g c n) (hn:n≤100):ColI g c:=⟨h.len,h.lo,fun x hx=>by have:=h.hi x hx;omega⟩
theorem Zcj {g:Graph} {c:List Int} {a:Int} (h0:0≤a) (h:a<g.N):cg (Z0g g c) a=newC g c a.toNat:=by
 unfold cg Z0g
 rw [List.getElem?_map,List.getElem?_range (by omega)];rfl
theorem near_symm' {g:Graph} (hg:okG g=true) {a b:Int} (h:b∈Zye g a):a∈Zye g b:=by
 rw [Z2f hg] at *;exact h.symm
theorem Zdj {c near:List Int} {a:Int}:Zzf c near a=true↔cg c a=0∧∀b∈near,cg c b=0→b≤a:=by
 unfold Zzf
 simp only [Bool.and_eq_true,decide_eq_true_eq,Bool.not_eq_true',List.any_eq_false,Bool.and_eq_true,decide_eq_true_eq,not_and]
 constructor
 ·rintro ⟨h1,h2⟩;exact ⟨h1,fun b hb h0=>by have:=h2 b hb h0;omega⟩
 ·rintro ⟨h1,h2⟩;exact ⟨h1,fun b hb h0=>by have:=h2 b hb h0;omega⟩
theorem freshC_le {g:Graph} {c:List Int} {n:Nat} (hc:ColN g c n) (hn:n≤100) (a:Int):Zyf c (Zye g a)≤n+1:=by
 refine lsf_le _ _ _ _ ?_ (by omega) (by omega)
 simp only [Bool.not_eq_true']
 unfold Zxf
 rw [List.any_eq_false]
 intro b hb
 simp only [decide_eq_true_eq]
 intro he
 by_cases h:0≤b∧b<c.length
 ·have:=hc.hi _ (cg_mem (c:=c) h.1 h.2)
  omega
 ·unfold cg at he
  have hb0:0≤b.toNat:=Nat.zero_le _
  cases hq:c[b.toNat]? with
  | none=>rw [hq] at he;simp at he;omega
  | some y=>
    rw [hq] at he
    have:=hc.hi y (List.mem_iff_getElem?.2 ⟨_,hq⟩)
    simp at he;omega
theorem Zej (g:Graph) (c:List Int) (a:Nat):(Zzf c (Zye g a) a=true∧newC g c a=(Zyf c (Zye g a):Int))∨(Zzf c (Zye g a) a=false∧newC g c a=cg c a):=by
 unfold newC
 cases Zzf c (Zye g a) a<;>simp
theorem ColN.round {g:Graph} (hg:okG g=true) {c:List Int} {n:Nat} (hc:ColN g c n) (hn:n≤100):ColN g (Z0g g c) (n+1):=by
 obtain ⟨g1,g2,_,_,_⟩:=Z28 hg
 have hI:=hc.I hn
 have hmem:∀x∈Z0g g c,0≤x∧x≤n+1:=fun x hx=>by
  obtain ⟨a,ha,rfl⟩:=List.mem_map.1 hx
  have ha':=List.mem_range.1 ha
  have:=freshC_le hc hn a
  rcases Zej g c a with ⟨_,h2⟩ | ⟨_,h2⟩
  ·rw [h2];omega
  ·rw [h2]
   have hm:=cg_mem (c:=c) (a:=(a:Int)) (by omega) (by have:=hc.len;omega)
   have:=hc.lo _ hm
   have:=hc.hi _ hm
   omega
 refine ⟨by simp [Z0g];omega,fun x hx=>(hmem x hx).1,fun x hx=>by have:=(hmem x hx).2;omega,fun a b hb ha0 hb0=>?_⟩
 obtain ⟨b1,b2,b3,a1,a2⟩:=Z3f hg hb
 have hab:=near_symm' hg hb
 rw [Zcj a1 a2] at ha0 ⊢
 rw [Zcj b1 b2] at hb0 ⊢
 have ea:((a.toNat:Nat):Int)=a:=Int.toNat_of_nonneg a1
 have eb:((b.toNat:Nat):Int)=b:=Int.toNat_of_nonneg b1
 have ua:=(Z1g hg hI a).1
 have ub:=(Z1g hg hI b).1
 unfold Zxf at ua ub
 rw [List.any_eq_false] at ua ub
 have ua':=ua b hb
 have ub':=ub a hab
 simp only [decide_eq_true_eq] at ua' ub'
 rcases Zej g c a.toNat with ⟨h1,h2⟩ | ⟨h1,h2⟩<;>rcases Zej g c b.toNat with ⟨k1,k2⟩ | ⟨k1,k2⟩<;>rw [ea] at h1 h2<;>rw [eb] at k1 k2
 ·rw [Zdj] at h1 k1
  have:=h1.2 b hb k1.1
  have:=k1.2 a hab h1.1
  exact absurd (by omega) b3
 ·rw [h2,k2];exact fun e=>ua' e.symm
 ·rw [h2,k2];exact ub'
 ·rw [h2,k2]
  rw [h2] at ha0
  rw [k2] at hb0
  exact hc.ne a b hb ha0 hb0
theorem max_zero (p:Nat→Bool):∀n:Nat,(∃a,a<n∧p a=true)→∃a,a<n∧p a=true∧∀b,b<n→p b=true→b≤a
 | 0,⟨a,h,_⟩=>absurd h (by omega)
 | n+1,⟨a,h,hp⟩=>by
   cases hn:p n with
   | true=>exact ⟨n,by omega,hn,fun b hb _=>by omega⟩
   | false=>
     have:a≠n:=by rintro rfl;rw [hn] at hp;simp at hp
     obtain ⟨a',h1,h2,h3⟩:=max_zero p n ⟨a,by omega,hp⟩
     refine ⟨a',by omega,h2,fun b hb hpb=>?_⟩
     have:b≠n:=by rintro rfl;rw [hn] at hpb;simp at hpb
     exact h3 b (by omega) hpb
theorem Zfj {g:Graph} (hg:okG g=true) {c:List Int} {n:Nat} (hc:ColN g c n) (hn:n≤100) (h0:(0:Int)∈c):zeros g (Z0g g c)<zeros g c:=by
 have hI:=hc.I hn
 have ex:∃a,a<g.N.toNat∧(fun a:Nat=>decide (cg c (a:Int)=0)) a=true:=by
  obtain ⟨k,hk⟩:=List.mem_iff_getElem?.1 h0
  have hlt:=(List.getElem?_eq_some_iff.1 hk).1
  have:=hc.len
  refine ⟨k,by omega,?_⟩
  simp [cg,hk]
 obtain ⟨a,h1,h2,h3⟩:=max_zero _ _ ex
 simp only [decide_eq_true_eq] at h2 h3
 refine countP_lt _ _ _ (fun b hb hz=>?_) ⟨a,List.mem_range.2 h1,by simpa using h2,?_⟩
 ·have hb':=List.mem_range.1 hb
  have hf:=(Z1g hg hI b).2.1
  simp only [decide_eq_true_eq] at hz ⊢
  rw [Zcj (by omega) (by omega),Int.toNat_natCast] at hz
  rcases Zej g c b with ⟨k1,k2⟩ | ⟨k1,k2⟩
  ·rw [Zdj] at k1;exact k1.1
  ·rw [←k2];exact hz
 ·have ht:Zzf c (Zye g a) a=true:=by
   rw [Zdj]
   refine ⟨h2,fun b hb hb0=>?_⟩
   obtain ⟨b1,b2,_⟩:=Z3f hg hb
   have:=h3 b.toNat (by omega) (by rw [Int.toNat_of_nonneg b1];exact hb0)
   omega
  have hf:=(Z1g hg hI a).2.1
  simp only [decide_eq_false_iff_not]
  rw [Zcj (by omega) (by omega),Int.toNat_natCast]
  unfold newC
  rw [ht];simp;omega
def runL (g:Graph):Nat→List Int→Int→List Int×Int
 | 0,c,n=>(c,n)
 | f+1,c,n=>if (0:Int)∈c then runL g f (Z0g g c) (n+1) else (c,n)
theorem zeros_pos {g:Graph} {c:List Int} {n:Nat} (hc:ColN g c n) (h0:(0:Int)∈c):0<zeros g c:=by
 obtain ⟨k,hk⟩:=List.mem_iff_getElem?.1 h0
 have hlt:=(List.getElem?_eq_some_iff.1 hk).1
 have:=hc.len
 refine List.countP_pos_iff.2 ⟨k,List.mem_range.2 (by omega),?_⟩
 simp [cg,hk]
theorem runL_right {g:Graph} (hg:okG g=true):∀(f:Nat) (c:List Int) (n:Nat),ColN g c n→zeros g c≤f→n+f≤100→Z3e g (runL g f c n).1=true∧(runL g f c n).1.length≤64:=by
 obtain ⟨g1,g2,g3,g4,g5⟩:=Z28 hg
 have done:∀(c:List Int) (n:Nat),ColN g c n→(0:Int)∉c→Z3e g c=true∧c.length≤64:=fun c n hc h0=>by
  have hl:=hc.len
  refine ⟨?_,by omega⟩
  unfold Z3e
  rw [decide_eq_true hl,Bool.true_and,Bool.and_eq_true,List.all_eq_true,List.all_eq_true]
  have nz:∀a:Int,0≤a→a<g.N→cg c a≠0:=fun a h1 h2 h=>h0 (h ▸ cg_mem (c:=c) h1 (by omega))
  refine ⟨fun x hx=>?_,fun e he=>?_⟩
  ·have:=hc.lo x hx
   have:x≠0:=by rintro rfl;exact h0 hx
   simp;omega
  ·obtain ⟨e1,e2,e3⟩:=g4 e he
   have:=hc.ne e.A e.B ((Z2f hg).2 (.inl he)) (nz _ e1 (by omega)) (nz _ (by omega) e3)
   simpa using this
 intro f
 induction f with
 | zero=>
   intro c n hc hz _
   have h0:(0:Int)∉c:=fun h=>by have:=zeros_pos hc h;omega
   exact done c n hc h0
 | succ f ih=>
   intro c n hc hz hn
   simp only [runL]
   split
   ·rename_i h0
    have:=Zfj hg hc (by omega) h0
    have k:=ih (Z0g g c) (n+1) (hc.round hg (by omega)) (by omega) (by omega)
    rwa [show ((n+1:Nat):Int)=(n:Int)+1 from rfl] at k
   ·rename_i h0
    exact done c n hc h0
theorem run_loop {g:Graph} (hg:okG g=true):∀(f:Nat) (c:List Int) (n:Nat),ColN g c n→zeros g c≤f→n+f≤100→loop (Zvf g) (c,(n:Int))=some ((runL g f c n).1,(runL g f c n).2,0):=by
 obtain ⟨g1,g2,g3,g4,g5⟩:=Z28 hg
 have stop:∀(c:List Int) (n:Nat),ColN g c n→(0:Int)∉c→loop (Zvf g) (c,(n:Int))=some (c,(n:Int),0):=fun c n hc h0=>by
  have hl:=hc.len
  rw [Zg4]
  dsimp only [Zvf]
  rw [Z2g c 0 (by omega),Option.bind_some,decide_eq_false h0,Zd6]
  rfl
 intro f
 induction f with
 | zero=>
   intro c n hc hz _
   have h0:(0:Int)∉c:=fun h=>by have:=zeros_pos hc h;omega
   exact stop c n hc h0
 | succ f ih=>
   intro c n hc hz hn
   have hl:=hc.len
   simp only [runL]
   by_cases h0:(0:Int)∈c
   ·rw [if_pos h0,Zg4]
    dsimp only [Zvf]
    rw [Z2g c 0 (by omega),Option.bind_some,decide_eq_true h0,Zc6,s_Round g hg c (hc.I (by omega)),Option.bind_some,Zk6 (by omega)]
    have:=Zfj hg hc (by omega) h0
    exact ih (Z0g g c) (n+1) (hc.round hg (by omega)) (by omega) (by omega)
   ·rw [if_neg h0];exact stop c n hc h0
def c0 (g:Graph):List Int:=List.replicate g.N.toNat 0
def Zgj (g:Graph):List Int:=(runL g 64 (c0 g) 0).1
theorem cg_c0 (g:Graph) (a:Int):cg (c0 g) a=0:=by
 unfold cg c0
 rw [List.getElem?_replicate]
 split<;>rfl
theorem c0_ok {g:Graph} (hg:okG g=true):ColN g (c0 g) 0:=by
 obtain ⟨g1,_⟩:=Z28 hg
 refine ⟨by simp [c0];omega,fun x hx=>?_,fun x hx=>?_,fun a b _ h _=>absurd (cg_c0 g a) h⟩
 ·have:=List.eq_of_mem_replicate hx;omega
 ·have:=List.eq_of_mem_replicate hx;omega
theorem zeros64 {g:Graph} (hg:okG g=true) (c:List Int):zeros g c≤64:=by
 have:=zeros_le g c
 have:=(Z28 hg).2.1
 omega
theorem Zhj {g:Graph} (hg:okG g=true):Z3e g (Zgj g)=true∧(Zgj g).length≤64:=by
 have:=runL_right hg 64 (c0 g) 0 (c0_ok hg) (zeros64 hg _) (by omega)
 exact this
theorem s_Run (g:Graph) (hg:okG g=true):Zwf g=some (Zgj g,(runL g 64 (c0 g) 0).2,0):=by
 obtain ⟨g1,g2,_⟩:=Z28 hg
 simp only [Zwf,Z18,hg,if_true,Option.bind_some,decide_true,Bool.not_true,Zd6]
 have e:mk_ 8 g.N 0=some (c0 g):=by
  unfold mk_
  rw [if_pos ⟨by omega,by omega⟩];rfl
 rw [e,Option.bind_some]
 exact run_loop hg 64 (c0 g) 0 (c0_ok hg) (zeros64 hg _) (by omega)
def Zij (g:Graph):Scene:=⟨Z6f g (Zgj g),[]⟩
theorem s_New (g:Graph):Zbj g=some (if okG g then (Zij g,0) else (⟨[],[]⟩,30)):=by
 cases hg:okG g with
 | false=>
   have:Zwf g=some ([],0,30):=by
    simp only [Zwf,Z18,hg,Option.bind_some];rfl
   simp only [Zbj,this,Option.bind_some];rfl
 | true=>
   obtain ⟨h1,h2⟩:=Zhj hg
   simp only [Zbj,s_Run g hg,Option.bind_some,decide_true,Bool.not_true,Zd6,s_Table g _ (show (Zgj g).length≤1000000 by omega),hg,h1,if_true]
   rfl
theorem Zjj (id:Int):∀(l:List Side) (q:Int),l.Pairwise (fun x y=>x.Peer<y.Peer)→(∀x∈l,q<x.Peer∧x.Peer≠id∧x.Epoch=1∧x.State=0∧(x.Dirty=true→x.Fork=true))→Zja id q l=true
 | [],_,_,_=>rfl
 | x::l,q,h,hb=>by
   rw [List.pairwise_cons] at h
   obtain ⟨b1,b2,b3,b4,b5⟩:=hb x (by simp)
   have ih:=Zjj id l x.Peer h.2 fun y hy=>by
    have:=hb y (by simp [hy])
    exact ⟨h.1 y hy,this.2⟩
   simp only [Zja,ih,Bool.and_true,Zia,decide_eq_true b1,decide_eq_false b2,b3,b4]
   cases hd:x.Dirty with
   | false=>rfl
   | true=>rw [b5 hd];rfl
theorem LocD.ok {g:Graph} (hg:okG g=true) (hN:g.N≤60) {a:Nat} {d:Diner} (h:LocD d) (hid:d.ID=a) (hp:d.Sides.map (·.Peer)=Zye g a):okD d=true:=by
 have hlen:d.Sides.length=(Zye g a).length:=by rw [←hp];simp
 have hfew:=near_few hg (a:Int)
 have hpw:d.Sides.Pairwise fun x y=>x.Peer<y.Peer:=by
  have:=Zze hg (a:Int)
  rw [←hp,List.pairwise_map] at this
  exact this
 unfold okD
 rw [decide_eq_true (show 0≤d.ID by omega),decide_eq_true h.lo,decide_eq_true h.hi,decide_eq_true (show d.Sides.length<64 by omega),Zjj d.ID d.Sides (-1) hpw fun x hx=>?_]
 ·rfl
 ·have hm:x.Peer∈Zye g a:=by rw [←hp];exact List.mem_map_of_mem hx
  obtain ⟨n1,n2,n3,_⟩:=Z3f hg hm
  exact ⟨by omega,by omega,h.side x hx⟩
theorem Inv.okd {g:Graph} {s:Scene} (hg:okG g=true) (hN:g.N≤60) (h:Inv g s) {d:Diner} (hd:d∈s.Diners):okD d=true:=by
 obtain ⟨k,hk⟩:=List.mem_iff_getElem?.1 hd
 obtain ⟨h1,h2⟩:=h.shp k d hk
 exact (h.loc d hd).ok hg hN h1 h2
theorem Inv.few {g:Graph} {s:Scene} (hg:okG g=true) (h:Inv g s):fewD s.Diners:=by
 have:=(Z28 hg).2.1
 refine ⟨by have:=h.len;omega,fun d hd=>?_⟩
 obtain ⟨k,hk⟩:=List.mem_iff_getElem?.1 hd
 have h2:=(h.shp k d hk).2
 have:d.Sides.length=(Zye g k).length:=by rw [←h2];simp
 have:=near_few hg (k:Int)
 omega
theorem Inv.graph {g:Graph} {s:Scene} (hg:okG g=true) (h:Inv g s):Zn9 s.Diners=(g,true):=by
 rw [←graphP_T hg []]
 refine graphP_key (List.ext_getElem? fun k=>?_)
 have hl:=Z4g hg []
 have hl2:=h.len
 rw [List.getElem?_map,List.getElem?_map]
 by_cases hk:k<s.Diners.length
 ·have e:=Z3g (g:=g) (c:=[]) (a:=(k:Int)) (by omega) (by omega)
  have hx:s.Diners[k]?=some s.Diners[k]:=List.getElem?_eq_getElem hk
  obtain ⟨h1,h2⟩:=h.shp k _ hx
  rw [Int.toNat_natCast] at e
  rw [hx,e]
  simp only [Option.map_some,key,h1,h2,Z5f,List.map_map]
  congr 2
  exact (List.map_id _).symm
 ·rw [List.getElem?_eq_none (by omega),List.getElem?_eq_none (by omega)]
theorem mailG_ok {g:Graph} (hg:okG g=true) {n:Nat} (hn:(n:Int)=g.N) {m:Mail} (h:mailG g m):Z4j n m=true:=by
 obtain ⟨n1,n2,n3,n4,n5⟩:=Z3f hg h.2.2.2
 unfold Z4j
 rw [decide_eq_false (by omega),decide_eq_false (by omega),decide_eq_false (by omega)];rfl
theorem Inv.ok {g:Graph} {s:Scene} (hg:okG g=true) (hN:g.N≤60) (h:Inv g s):okS s=true:=by
 unfold okS
 rw [h.graph hg,Bool.true_and,Bool.and_eq_true,List.all_eq_true,List.all_eq_true]
 exact ⟨fun d hd=>h.okd hg hN hd,fun m hm=>mailG_ok hg h.len (h.mail m hm)⟩
theorem Inv.init {g:Graph} (hg:okG g=true) {c:List Int} (hr:Z3e g c=true):Inv g ⟨Z6f g c,[]⟩:=by
 have get:∀(k:Nat) d,(Z6f g c)[k]?=some d→(k:Int)<g.N∧d=Z5f g c k:=fun k d hd=>by
  have hk:=(List.getElem?_eq_some_iff.1 hd).1
  have hl:=Z4g hg c
  have e:=Z3g (g:=g) (c:=c) (a:=(k:Int)) (by omega) (by omega)
  rw [Int.toNat_natCast,hd] at e
  exact ⟨by omega,by simpa using e⟩
 refine ⟨Z4g hg c,fun k d hd=>?_,fun d hd=>?_,by simp,fun a b da db ha hb hab k hk=>?_⟩
 ·obtain ⟨_,rfl⟩:=get k d hd
  refine ⟨rfl,?_⟩
  simp only [Z5f,List.map_map]
  exact List.map_id _
 ·obtain ⟨k,hk⟩:=List.mem_iff_getElem?.1 hd
  obtain ⟨_,rfl⟩:=get k d hk
  refine ⟨Int.le_refl _,by show (0:Int)≤2;omega,fun x hx=>?_,fun h=>absurd h (by show ¬(0:Int)=2;omega)⟩
  obtain ⟨b,_,rfl⟩:=List.mem_map.1 hx
  exact ⟨rfl,rfl,fun h=>h⟩
 ·obtain ⟨_,rfl⟩:=get a da ha
  obtain ⟨_,rfl⟩:=get b db hb
  have hne:=Z9f hg hr hab
  have hba:=Z6g hg hab
  unfold hasD cnt
  rw [Z5g,if_pos hab,Z5g,if_pos hba]
  have hlt:decide (cg c a<cg c b)=!decide (cg c b<cg c a):=by
   rw [←decide_not,decide_eq_decide];omega
  simp only [Z4f,has,hlt,bn]
  by_cases hh:cg c b<cg c a<;>rcases hk with rfl | rfl<;>simp [hh]
theorem Zkj {l:List Diner} (hid:∀(k:Nat) x,l[k]?=some x→x.ID=k) (a:Nat) (y:Diner):(l.map fun x=>if x.ID=(a:Int) then y else x)=l.set a y:=by
 refine List.ext_getElem? fun k=>?_
 rw [List.getElem?_map,List.getElem?_set]
 by_cases hk:k<l.length
 ·have hx:l[k]?=some l[k]:=List.getElem?_eq_getElem hk
  have:=hid k _ hx
  rw [hx,Option.map_some]
  by_cases he:a=k
  ·subst he;simp [this,hk]
  ·rw [if_neg (by omega),if_neg he]
 ·rw [List.getElem?_eq_none (by omega)]
  split
  ·rename_i he;subst he;simp;omega
  ·rfl
theorem Inv.ids {g:Graph} {s:Scene} (h:Inv g s) (k:Nat) (x:Diner) (hx:s.Diners[k]?=some x):x.ID=k:=(h.shp k x hx).1
theorem actS_eq {g:Graph} {s:Scene} (h:Inv g s) (a:Nat) (d:Diner):actS s a d=⟨(s.Diners.set a d).set a (Zua d),s.Mail++Zva d⟩:=by
 unfold actS
 rw [Zkj h.ids a,List.set_set]
theorem set_get {l:List Diner} {a:Nat} {d d':Diner} (hd:l[a]?=some d):(l.set a d')[a]?=some d':=by
 have hlt:=(List.getElem?_eq_some_iff.1 hd).1
 rw [List.getElem?_set];simp [hlt]
theorem Inv.act {g:Graph} {s s1:Scene} (hg:okG g=true) (hN:g.N≤60) {a:Nat} {d:Diner} (h:Inv g s1) (hd:s1.Diners[a]?=some d) (he:s1.Diners=s.Diners.set a d) (hm:s1.Mail=s.Mail) (hs:∀(k:Nat) x,s.Diners[k]?=some x→x.ID=k):
  okD d=true∧Inv g (actS s a d):=by
 refine ⟨h.okd hg hN (List.mem_iff_getElem?.2 ⟨_,hd⟩),?_⟩
 have:=h.fire hg hd
 unfold actS
 rw [Zkj hs a]
 rw [he,List.set_set,hm] at this
 exact this
theorem Inv.phase {g:Graph} {s:Scene} (hg:okG g=true) (h:Inv g s) {a:Nat} {d:Diner} (hd:s.Diners[a]?=some d) {p:Int} (h0:0≤p) (h1:p<2):Inv g ⟨s.Diners.set a ⟨d.ID,p,d.Sides⟩,s.Mail⟩:=by
 have hl:=h.loc d (List.mem_iff_getElem?.2 ⟨_,hd⟩)
 exact h.set (d':=⟨d.ID,p,d.Sides⟩) hg hd rfl rfl ⟨h0,by show p≤2;omega,hl.side,fun e=>absurd e (by show ¬p=2;omega)⟩ h.mail (fun _ _ _ _ _=>rfl) (fun _ _ _ _=>rfl)
theorem Zlj {s:Scene} {a:Int}:Z5j s a=true↔0≤a∧a<s.Diners.length:=by simp [Z5j]
def fineE (e:Int):Bool:=decide (e=0)||(decide (e=134)||(decide (e=141)||decide (e=140)))
theorem turnS_inv {g:Graph} {s:Scene} (hg:okG g=true) (hN:g.N≤60) (h:Inv g s) (a p q:Int) (h0:0≤q) (h1:q<2):fineE (Z6j s a fun d=>turnD d p q).2=true∧((Z6j s a fun d=>turnD d p q).2=0→Inv g (Z6j s a fun d=>turnD d p q).1):=by
 unfold Z6j
 rw [h.ok hg hN,if_pos rfl]
 cases ht:Z5j s a with
 | false=>exact ⟨rfl,fun e=>absurd e (by show ¬(140:Int)=0;omega)⟩
 | true=>
   obtain ⟨a0,_⟩:=Zlj.1 ht
   obtain ⟨d,hd1,hd⟩:=Z7j ht
   have hok:=h.okd hg hN (List.mem_iff_getElem?.2 ⟨_,hd⟩)
   rw [if_pos rfl,hd1]
   dsimp only
   unfold turnD
   rw [hok,if_pos rfl]
   by_cases hp:d.Phase=p
   ·rw [if_pos hp]
    have h2:=h.phase hg hd (p:=q) h0 h1
    obtain ⟨k1,k2⟩:=Inv.act (s:=s) hg hN h2 (set_get hd) rfl rfl h.ids
    rw [Int.toNat_of_nonneg a0] at k2
    unfold actP
    rw [if_pos rfl,if_pos k1]
    exact ⟨rfl,fun _=>k2⟩
   ·rw [if_neg hp]
    exact ⟨rfl,fun e=>absurd e (by show ¬(134:Int)=0;omega)⟩
theorem Zmj {α:Type} {p q:α→Bool}:∀ {l:List α},(∀x∈l,p x=q x)→l.find? p=l.find? q
 | [],_=>rfl
 | x::l,h=>by
   rw [List.find?_cons,List.find?_cons,h x (by simp),Zmj fun y hy=>h y (by simp [hy])]
theorem Znj {M:List Mail} {i:Nat} {m:Mail} (hm:M[i]?=some m) (x:Mail):(M.take i++M.drop (i+1)).count x+(if m=x then 1 else 0)=M.count x:=by
 have hlt:=(List.getElem?_eq_some_iff.1 hm).1
 have e:M=M.take i++m::M.drop (i+1):=by
  have h1:=List.take_append_drop i M
  rw [List.drop_eq_getElem_cons hlt] at h1
  have h2:M[i]=m:=by rw [List.getElem?_eq_getElem hlt] at hm;simpa using hm
  rw [h2] at h1
  exact h1.symm
 have e2:M.count x=(M.take i++m::M.drop (i+1)).count x:=by rw [←e]
 rw [e2,List.count_append,List.count_append,List.count_cons]
 by_cases h:m=x
 ·simp [h];omega
 ·simp [h]
def Zoj (x:Side) (k:Int):Side:=if k=1 then {x with Fork:=true} else {x with Token:=true}
theorem Inv.recv {g:Graph} {s:Scene} (hg:okG g=true) (hN:g.N≤60) (h:Inv g s) {a b:Int} {m:Mail} (hmm:m∈s.Mail) (q1:m.From=a) (q2:m.To=b) {M':List Mail} (hsub:∀y∈M',y∈s.Mail) (hct:∀x,M'.count x+(if m=x then 1 else 0)=s.Mail.count x)
  {db:Diner} (hdb:s.Diners[b.toNat]?=some db):
  ∃x j,db.Sides.findIdx? (fun y=>decide (y.Peer=a)&&decide (y.Epoch=m.Msg.Epoch))=some j∧db.Sides[j]?=some x∧Z59 db a=some x∧(m.Msg.Kind=1∨m.Msg.Kind=2)∧
   (∀z:Int,Z59 ⟨db.ID,db.Phase,db.Sides.set j (Zoj x m.Msg.Kind)⟩ z=if z=a then some (Zoj x m.Msg.Kind) else Z59 db z)∧
   Inv g ⟨s.Diners.set b.toNat ⟨db.ID,db.Phase,db.Sides.set j (Zoj x m.Msg.Kind)⟩,M'⟩∧getD' db a m.Msg=(⟨db.ID,db.Phase,db.Sides.set j (Zoj x m.Msg.Kind)⟩,0):=by
 obtain ⟨m1,m2,m3,m4⟩:=h.mail m hmm
 rw [q1,q2] at m4
 have nab:=Z6g hg m4
 obtain ⟨b0,b1,_,a0,a1⟩:=Z3f hg m4
 have hlen:=h.len
 have hda:s.Diners[a.toNat]?=some s.Diners[a.toNat]:=List.getElem?_eq_getElem (by omega)
 obtain ⟨hid,hsh⟩:=h.shp _ _ hdb
 have hok:=h.okd hg hN (List.mem_iff_getElem?.2 ⟨_,hdb⟩)
 have hloc:=h.loc db (List.mem_iff_getElem?.2 ⟨_,hdb⟩)
 have hpw:=h.pw hg hdb
 have hsome:(Z59 db a).isSome=true:=by
  rw [Z7g,hsh,Int.toNat_of_nonneg b0];exact decide_eq_true nab
 obtain ⟨x,hx⟩:=Option.isSome_iff_exists.1 hsome
 obtain ⟨xm,xp⟩:=Zmg hx
 have hidx:=Z69 (fun x:Side=>decide (x.Peer=a)&&decide (x.Epoch=m.Msg.Epoch)) db.Sides
 have efun:∀y∈db.Sides,(decide (y.Peer=a)&&decide (y.Epoch=m.Msg.Epoch))=decide (y.Peer=a):=fun y hy=>by
  rw [m2,(hloc.side y hy).1];simp
 have efind:db.Sides.find? (fun y=>decide (y.Peer=a)&&decide (y.Epoch=m.Msg.Epoch))=some x:=by
  rw [←hx];unfold Z59
  exact Zmj efun
 cases hj:db.Sides.findIdx? (fun y=>decide (y.Peer=a)&&decide (y.Epoch=m.Msg.Epoch)) with
 | none=>rw [hj] at hidx;rw [efind] at hidx;exact absurd hidx (by simp)
 | some j=>
   rw [hj] at hidx
   obtain ⟨x',hx1,hx2⟩:=hidx
   rw [efind] at hx2
   have:x'=x:=by simpa using hx2.symm
   subst this
   have hk:m.Msg.Kind=1∨m.Msg.Kind=2:=m1
   have hme:m=⟨a,b,⟨m.Msg.Kind,1,0⟩⟩:=by
    obtain ⟨f,t,⟨k,e,n⟩⟩:=m
    dsimp only at q1 q2 m2 m3 ⊢
    rw [q1,q2,m2,m3]
   have hcnt:1≤cnt s.Mail m.Msg.Kind a b:=by
    unfold cnt
    have:=List.count_pos_iff.2 hmm
    rw [←hme];omega
   have hone:=h.one b.toNat a.toNat db _ hdb hda (by rw [Int.toNat_of_nonneg b0,Int.toNat_of_nonneg a0];exact nab) m.Msg.Kind hk
   rw [Int.toNat_of_nonneg b0,Int.toNat_of_nonneg a0] at hone
   have hhas:has x' m.Msg.Kind=false:=by
    cases hh:has x' m.Msg.Kind with
    | false=>rfl
    | true=>
      have:hasD db m.Msg.Kind a=1:=by unfold hasD;rw [hx];simp only [hh,bn];rfl
      omega
   have hgp:(Zoj x' m.Msg.Kind).Peer=x'.Peer:=by unfold Zoj;split<;>rfl
   have hjlt:=(List.getElem?_eq_some_iff.1 hx1).1
   have es:∀z:Int,Z59 ⟨db.ID,db.Phase,db.Sides.set j (Zoj x' m.Msg.Kind)⟩ z=if z=a then some (Zoj x' m.Msg.Kind) else Z59 db z:=fun z=>by
    have hsplit:db.Sides=db.Sides.take j++x'::db.Sides.drop (j+1):=by
     have h1:=List.take_append_drop j db.Sides
     rw [List.drop_eq_getElem_cons hjlt] at h1
     have h2:db.Sides[j]=x':=by rw [List.getElem?_eq_getElem hjlt] at hx1;simpa using hx1
     rw [h2] at h1;exact h1.symm
    have hjl:(db.Sides.take j).length=j:=by simp;omega
    have hset2:db.Sides.set j (Zoj x' m.Msg.Kind)=db.Sides.take j++Zoj x' m.Msg.Kind::db.Sides.drop (j+1):=by
     have:=Zx8 (db.Sides.take j) (db.Sides.drop (j+1)) x' (Zoj x' m.Msg.Kind)
     rw [←hsplit,hjl,Int.toNat_natCast] at this
     exact this
    unfold Z59
    dsimp only
    rw [hset2]
    have hpw2:=hpw
    rw [hsplit,List.pairwise_append,List.pairwise_cons] at hpw2
    have before:∀y∈db.Sides.take j,y.Peer≠a:=fun y hy=>by
     have:=hpw2.2.2 y hy x' (by simp);omega
    rw [List.find?_append,List.find?_cons,hgp]
    by_cases hz:z=a
    ·subst hz
     rw [decide_eq_true xp,if_pos rfl]
     have:(db.Sides.take j).find? (fun y=>decide (y.Peer=z))=none:=by
      rw [List.find?_eq_none];intro y hy;simpa using before y hy
     rw [this];rfl
    ·rw [if_neg hz]
     have e3:db.Sides.find? (fun y=>decide (y.Peer=z))=(db.Sides.take j++x'::db.Sides.drop (j+1)).find? (fun y=>decide (y.Peer=z)):=by rw [←hsplit]
     rw [e3,List.find?_append,List.find?_cons,decide_eq_false (show ¬x'.Peer=z by omega)]
   have hset:Inv g ⟨s.Diners.set b.toNat ⟨db.ID,db.Phase,db.Sides.set j (Zoj x' m.Msg.Kind)⟩,M'⟩:=by
    have smem:∀y∈db.Sides.set j (Zoj x' m.Msg.Kind),y=Zoj x' m.Msg.Kind∨y∈db.Sides:=fun y hy=>by
     rcases List.mem_or_eq_of_mem_set hy with h1 | h1
     ·exact .inr h1
     ·exact .inl h1
    have gloc:=hloc.side x' xm
    have gside:(Zoj x' m.Msg.Kind).Epoch=1∧(Zoj x' m.Msg.Kind).State=0∧((Zoj x' m.Msg.Kind).Dirty=true→(Zoj x' m.Msg.Kind).Fork=true):=by
     unfold Zoj;split
     ·exact ⟨gloc.1,gloc.2.1,fun _=>rfl⟩
     ·exact gloc
    refine h.set (d':=⟨db.ID,db.Phase,db.Sides.set j (Zoj x' m.Msg.Kind)⟩) hg hdb rfl ?_ ⟨hloc.lo,hloc.hi,fun y hy=>?_,fun h2 y hy=>?_⟩ (fun y hy=>?_) (fun k p q hp hq=>?_) (fun c hc k hk'=>?_)
    ·dsimp only
     rw [List.map_set,hgp]
     refine List.ext_getElem? fun n=>?_
     rw [List.getElem?_set]
     split
     ·rename_i hn;subst hn
      rw [List.getElem?_map,hx1];simp [hjlt]
     ·rfl
    ·rcases smem y hy with rfl | hy
     ·exact gside
     ·exact hloc.side y hy
    ·rcases smem y hy with rfl | hy
     ·have:=hloc.eat h2 x' xm
      unfold Zoj;split
      ·exact ⟨rfl,this.2⟩
      ·exact this
     ·exact hloc.eat h2 y hy
    ·exact h.mail y (hsub y hy)
    ·have:=hct ⟨p,q,⟨k,1,0⟩⟩
     rw [if_neg (by rw [hme];simp only [Mail.mk.injEq];omega)] at this
     exact this
    ·rw [Int.toNat_of_nonneg b0] at hc ⊢
     have e1:=hct ⟨b,c,⟨k,1,0⟩⟩
     have e2:=hct ⟨c,b,⟨k,1,0⟩⟩
     have hnab:a≠b:=fun e=>(Z3f hg m4).2.2.1 e.symm
     rw [if_neg (by rw [hme];simp only [Mail.mk.injEq];omega)] at e1
     unfold hasD
     rw [es]
     by_cases hca:c=a
     ·subst hca
      rw [if_pos rfl,hx]
      dsimp only
      by_cases hkk:k=m.Msg.Kind
      ·subst hkk
       have h1:has (Zoj x' m.Msg.Kind) m.Msg.Kind=true:=by
        unfold has Zoj
        rcases hk with h1 | h1<;>rw [h1]<;>rfl
       rw [if_pos hme] at e2
       rw [h1,hhas]
       unfold cnt
       simp only [bn,if_true,Bool.false_eq_true,if_false]
       omega
      ·have h1:has (Zoj x' m.Msg.Kind) k=has x' k:=by
        unfold has Zoj
        rcases hk with h2 | h2<;>rcases hk' with h3 | h3<;>rw [h2,h3]
        ·exact absurd (h3.trans h2.symm) hkk
        ·rfl
        ·rfl
        ·exact absurd (h3.trans h2.symm) hkk
       rw [if_neg (by rw [hme];simp only [Mail.mk.injEq,Msg.mk.injEq];omega)] at e2
       rw [h1]
       unfold cnt
       omega
     ·rw [if_neg hca]
      rw [if_neg (by rw [hme];simp only [Mail.mk.injEq];omega)] at e2
      unfold cnt
      omega
   refine ⟨x',j,rfl,hx1,hx,hk,es,hset,?_⟩
   have hres:(if (decide (m.Msg.Kind=1)&&decide (m.Msg.Num=0))=true then (if x'.Fork=true then (Zpa,132) else (⟨db.ID,db.Phase,db.Sides.set j {x' with Fork:=true}⟩,0))
    else if (decide (m.Msg.Kind=2)&&decide (m.Msg.Num=0))=true then (if x'.Token=true then (Zpa,132) else (⟨db.ID,db.Phase,db.Sides.set j {x' with Token:=true}⟩,0))
    else ((Zpa,133):Diner×Int))=(⟨db.ID,db.Phase,db.Sides.set j (Zoj x' m.Msg.Kind)⟩,0):=by
    unfold has at hhas
    unfold Zoj
    rcases hk with h1 | h1
    ·rw [h1] at hhas ⊢
     rw [m3]
     simp at hhas
     simp [hhas]
    ·rw [h1] at hhas ⊢
     rw [m3]
     simp at hhas
     simp [hhas]
   unfold getD'
   rw [hok,if_pos rfl,hj]
   dsimp only
   rw [hx1]
   dsimp only
   rw [hres]
theorem delivS_eq {g:Graph} {s:Scene} (hg:okG g=true) (hN:g.N≤60) (h:Inv g s) {a b:Int} (ht:Z5j s a=true) (ht':Z5j s b=true) {i:Nat} (hf:Z8j s a b=some i):
  ∃m db x d1,s.Mail[i]?=some m∧m.From=a∧m.To=b∧s.Diners[b.toNat]?=some db∧Z59 db a=some x∧(m.Msg.Kind=1∨m.Msg.Kind=2)∧d1.ID=db.ID∧d1.Phase=db.Phase∧(∀z:Int,Z59 d1 z=if z=a then some (Zoj x m.Msg.Kind) else Z59 db z)∧
   Inv g ⟨s.Diners.set b.toNat d1,s.Mail.take i++s.Mail.drop (i+1)⟩∧Z9j s a b=(actS ⟨s.Diners,s.Mail.take i++s.Mail.drop (i+1)⟩ b d1,0)∧Inv g (actS ⟨s.Diners,s.Mail.take i++s.Mail.drop (i+1)⟩ b d1):=by
 obtain ⟨a0,a1⟩:=Zlj.1 ht
 obtain ⟨b0,b1⟩:=Zlj.1 ht'
 obtain ⟨db,hdb1,hdb⟩:=Z7j ht'
 obtain ⟨da,_,hda⟩:=Z7j ht
 have hf0:=hf
 unfold Z8j at hf
 have hfi:=Z69 (fun m:Mail=>decide (m.From=a)&&decide (m.To=b)) s.Mail
 rw [hf] at hfi
 obtain ⟨m,hm,hq⟩:=hfi
 have hq':=List.find?_some hq
 simp only [Bool.and_eq_true,decide_eq_true_eq] at hq'
 obtain ⟨q1,q2⟩:=hq'
 have hmm:m∈s.Mail:=List.mem_iff_getElem?.2 ⟨_,hm⟩
 obtain ⟨x,j,_,_,hx,hk,es,hset,hgd⟩:=h.recv hg hN hmm q1 q2 (M':=s.Mail.take i++s.Mail.drop (i+1)) (fun y hy=>by
  rcases List.mem_append.1 hy with hy | hy
  ·exact List.mem_of_mem_take hy
  ·exact List.mem_of_mem_drop hy) (Znj hm) hdb
 obtain ⟨k1,k2⟩:=Inv.act (s:=⟨s.Diners,s.Mail.take i++s.Mail.drop (i+1)⟩) hg hN hset (set_get hdb) rfl rfl h.ids
 rw [Int.toNat_of_nonneg b0] at k2
 refine ⟨m,db,x,⟨db.ID,db.Phase,db.Sides.set j (Zoj x m.Msg.Kind)⟩,hm,q1,q2,hdb,hx,hk,rfl,rfl,es,hset,?_,k2⟩
 unfold Z9j
 rw [h.ok hg hN,if_pos rfl,ht,ht',Bool.true_and,if_pos rfl,hf0]
 dsimp only
 rw [hm,hdb1]
 dsimp only
 rw [hgd]
 unfold actP
 dsimp only
 rw [if_pos rfl,if_pos k1]
theorem delivS_inv {g:Graph} {s:Scene} (hg:okG g=true) (hN:g.N≤60) (h:Inv g s) (a b:Int):fineE (Z9j s a b).2=true∧((Z9j s a b).2=0→Inv g (Z9j s a b).1):=by
 cases ht:Z5j s a with
 | false=>
   unfold Z9j
   rw [h.ok hg hN,if_pos rfl,ht]
   exact ⟨rfl,fun e=>absurd e (by show ¬(140:Int)=0;omega)⟩
 | true=>
   cases ht':Z5j s b with
   | false=>
     unfold Z9j
     rw [h.ok hg hN,if_pos rfl,ht,ht']
     exact ⟨rfl,fun e=>absurd e (by show ¬(140:Int)=0;omega)⟩
   | true=>
     cases hf:Z8j s a b with
     | none=>
       unfold Z9j
       rw [h.ok hg hN,if_pos rfl,ht,ht',Bool.true_and,if_pos rfl,hf]
       exact ⟨rfl,fun e=>absurd e (by show ¬(141:Int)=0;omega)⟩
     | some i=>
       obtain ⟨m,db,x,d1,_,_,_,_,_,_,_,_,_,_,e,k⟩:=delivS_eq hg hN h ht ht' hf
       rw [e]
       exact ⟨rfl,fun _=>k⟩
theorem actA_inv {g:Graph} {s:Scene} (hg:okG g=true) (hN:g.N≤60) (h:Inv g s) (k a b:Int):fineE (actA s k a b).2=true∧((actA s k a b).2=0→Inv g (actA s k a b).1):=by
 unfold actA
 split
 ·exact turnS_inv hg hN h a 0 1 (by omega) (by omega)
 ·split
  ·exact turnS_inv hg hN h a 2 0 (by omega) (by omega)
  ·exact delivS_inv hg hN h a b
set_option maxRecDepth 100000
set_option maxHeartbeats 4000000
def e114:EC:=.seq (.reg [(Qa 1 (.box 66 8 (.t 0))),(Qa 2 (.mv (.c .ff)))]) (.seq (.reg [(Qa 3 (.fld 3 (.t 1))),(Qa 4 (.load (.t 3))),(Qa 2 (.mv (.t 4)))]) (.ret))
theorem ok114:FnOK Tryz.prog 114 Tryz.f114 e114 [.t 2] 1 4:=⟨by kernel_rfl,⟨_,rfl,by kernel_rfl⟩,by kernel_rfl,by kernel_rfl⟩
noncomputable def Zpj (x1:Side):Option Bool:=
 some x1.Fork
theorem Zqj (x1:Side) (r:Bool) (h:Zpj x1=some r):Zq2 Tryz.prog 114 [.agg (Side.row x1)] (.bv r):=by
 refine Zu2 ok114 rfl rfl fun w0 H0=>?_
 rw [Zpj] at h
 refine Zl2 11 ?_;dsimp only [e114,go_sem];refine ⟨by simp,?_⟩;exact Zt4 (res:=fun (r:Bool)=>.bv r) ok114 h
set_option maxRecDepth 100000
set_option maxHeartbeats 4000000
def e115:EC:=.seq (.reg [(Qa 1 (.box 66 8 (.t 0))),(Qa 2 (.mv (.c .ff)))]) (.seq (.reg [(Qa 3 (.fld 5 (.t 1))),(Qa 4 (.load (.t 3))),(Qa 2 (.mv (.t 4)))]) (.ret))
theorem ok115:FnOK Tryz.prog 115 Tryz.f115 e115 [.t 2] 1 4:=⟨by kernel_rfl,⟨_,rfl,by kernel_rfl⟩,by kernel_rfl,by kernel_rfl⟩
noncomputable def Zrj (x1:Side):Option Bool:=
 some x1.Token
theorem Zsj (x1:Side) (r:Bool) (h:Zrj x1=some r):Zq2 Tryz.prog 115 [.agg (Side.row x1)] (.bv r):=by
 refine Zu2 ok115 rfl rfl fun w0 H0=>?_
 rw [Zrj] at h
 refine Zl2 11 ?_;dsimp only [e115,go_sem];refine ⟨by simp,?_⟩;exact Zt4 (res:=fun (r:Bool)=>.bv r) ok115 h
set_option maxRecDepth 100000
set_option maxHeartbeats 4000000
def Ztj:EC:=.seq (.reg [(Qa 89 (.bin .lss (.t 88) (.t 87)))]) (.seq (.ite (.t 89) (.skip) (.exit 3)) (.seq (.blk 4 (.seq (.reg [(Qa 90 (.idx 5 (.t 86) (.t 88))),(Qa 91 (.loadA 5 (.t 90))),(Qa 16 (.alloc 95 [.iv 0,.iv 0,.iv 0,.iv 0,.iv 0])),(Qb (.store 5 (.t 16) (.t 91)))]) (.seq (.reg [(Qa 92 (.fld 2 (.t 16))),(Qa 93 (.fld 0 (.t 92))),(Qa 94 (.load (.t 93))),(Qa 95 (.mv (.t 2))),(Qa 96 (.bin .eql (.t 94) (.t 95))),(Qa 97 (.mv (.t 96))),(Qg 98 97 true (.fld 2 (.t 16))),(Qg 99 97 true (.fld 1 (.t 98))),(Qg 100 97 true (.load (.t 99))),(Qg 101 97 true (.fld 1 (.t 7))),(Qg 102 97 true (.load (.t 101))),(Qg 103 97 true (.bin .eql (.t 100) (.t 102))),(Qa 104 (.pick (.t 97) (.t 103) (.c .ff))),(Qa 105 (.mv (.t 104))),(Qg 106 105 true (.fld 0 (.t 16))),(Qg 107 105 true (.load (.t 106))),(Qg 108 105 true (.fld 1 (.t 16))),(Qg 109 105 true (.load (.t 108))),(Qg 110 105 true (.mm false [(.t 107),(.t 109)])),(Qg 111 105 true (.fld 0 (.t 4))),(Qg 112 105 true (.load (.t 111))),(Qg 113 105 true (.fld 1 (.t 4))),(Qg 114 105 true (.load (.t 113))),(Qg 115 105 true (.mm false [(.t 112),(.t 114)])),(Qg 116 105 true (.bin .eql (.t 110) (.t 115))),(Qa 117 (.pick (.t 105) (.t 116) (.c .ff))),(Qa 118 (.mv (.t 117))),(Qg 119 118 true (.fld 0 (.t 16))),(Qg 120 118 true (.load (.t 119))),(Qg 121 118 true (.fld 1 (.t 16))),(Qg 122 118 true (.load (.t 121))),(Qg 123 118 true (.mm true [(.t 120),(.t 122)])),(Qg 124 118 true (.fld 0 (.t 4))),(Qg 125 118 true (.load (.t 124))),(Qg 126 118 true (.fld 1 (.t 4))),(Qg 127 118 true (.load (.t 126))),(Qg 128 118 true (.mm true [(.t 125),(.t 127)])),(Qg 129 118 true (.bin .eql (.t 123) (.t 128))),(Qa 130 (.pick (.t 118) (.t 129) (.c .ff)))]) (.ite (.t 130) (.reg [(Qa 131 (.mv (.t 12))),(Qa 132 (.bin .add (.t 131) (.c (.iv 1)))),(Qa 12 (.mv (.t 132)))]) (.skip))))) (.reg [(Qa 133 (.bin .add (.t 88) (.c (.iv 1)))),(Qa 88 (.mv (.t 133)))])))
def Zuj:EC:=.seq (.reg [(Qa 76 (.bin .lss (.t 75) (.t 74)))]) (.seq (.ite (.t 76) (.skip) (.exit 1)) (.seq (.blk 2 (.seq (.reg [(Qa 77 (.idx 8 (.t 73) (.t 75))),(Qa 78 (.loadA 8 (.t 77))),(Qa 14 (.alloc 66 [.iv 0,.iv 0,.iv 0,.ff,.ff,.ff,.ff,.ff])),(Qb (.store 8 (.t 14) (.t 78)))]) (.seq (.reg [(Qa 79 (.mv (.t 11))),(Qa 80 (.loadA 8 (.t 14))),(Qa 81 (.callv (.t 79) [(.t 80)]))]) (.ite (.t 81) (.reg [(Qa 82 (.mv (.t 12))),(Qa 83 (.bin .add (.t 82) (.c (.iv 1)))),(Qa 12 (.mv (.t 83)))]) (.skip))))) (.reg [(Qa 84 (.bin .add (.t 75) (.c (.iv 1)))),(Qa 75 (.mv (.t 84)))])))
def e63:EC:=.seq (.reg [(Qa 3 (.box 48 2 (.t 0))),(Qa 4 (.box 30 2 (.t 1))),(Qa 6 (.mv (.c (.iv 0))))]) (.seq (.seq (.reg [(Qa 17 (.loadA 2 (.t 3))),(Qa 18 (.fld 0 (.t 4))),(Qa 19 (.load (.t 18))),(Qa 20 (.call 113 [(.t 17),(.t 19)])),(Qa 21 (.not (.t 20))),(Qa 22 (.mv (.t 21))),(Qg 23 22 false (.loadA 2 (.t 3))),(Qg 24 22 false (.fld 1 (.t 4))),(Qg 25 22 false (.load (.t 24))),(Qg 26 22 false (.call 113 [(.t 23),(.t 25)])),(Qg 27 22 false (.not (.t 26))),(Qa 28 (.pick (.t 22) (.c .tt) (.t 27)))]) (.ite (.t 28) (.seq (.reg [(Qa 6 (.mv (.c (.iv 0))))]) (.ret)) (.skip))) (.seq (.drw [(Qa 30 (.fld 0 (.t 3))),(Qa 31 (.load (.t 30))),(Qa 32 (.fld 0 (.t 4))),(Qa 33 (.load (.t 32))),(Qa 34 (.idx 3 (.t 31) (.t 33))),(Qa 35 (.loadA 3 (.t 34))),(Qa 36 (.fld 1 (.t 4))),(Qa 37 (.load (.t 36))),(Qa 38 (.call 65 [(.t 35),(.t 37)])),(Qa 29 (.mv (.t 38))),(Qa 39 (.ext (.t 29) 0)),(Qa 40 (.ext (.t 29) 1)),(Qa 7 (.alloc 66 [.iv 0,.iv 0,.iv 0,.ff,.ff,.ff,.ff,.ff])),(Qb (.store 8 (.t 7) (.t 39))),(Qa 8 (.mv (.t 40)))] [[],[0],[],[2],[1,3],[4],[],[6],[5,7],[8],[9],[9],[],[12,10,8,0,1,2,3,4,5,6,7,8,9,10,12],[11,13,0,1,2,3,4,5,6,7,8,9,10,11,12,13]] [[1],[0,4],[3],[2,4],[1,3,5],[4,8],[7],[6,8],[5,7,9],[8,10,11],[9,13],[9,14],[13],[10,12],[11]]) (.seq (.drw [(Qa 42 (.fld 0 (.t 3))),(Qa 43 (.load (.t 42))),(Qa 44 (.fld 1 (.t 4))),(Qa 45 (.load (.t 44))),(Qa 46 (.idx 3 (.t 43) (.t 45))),(Qa 47 (.loadA 3 (.t 46))),(Qa 48 (.fld 0 (.t 4))),(Qa 49 (.load (.t 48))),(Qa 50 (.call 65 [(.t 47),(.t 49)])),(Qa 41 (.mv (.t 50))),(Qa 51 (.ext (.t 41) 0)),(Qa 52 (.ext (.t 41) 1)),(Qa 9 (.alloc 66 [.iv 0,.iv 0,.iv 0,.ff,.ff,.ff,.ff,.ff])),(Qb (.store 8 (.t 9) (.t 51))),(Qa 10 (.mv (.t 52)))] [[],[0],[],[2],[1,3],[4],[],[6],[5,7],[8],[9],[9],[],[12,10,8,0,1,2,3,4,5,6,7,8,9,10,12],[11,13,0,1,2,3,4,5,6,7,8,9,10,11,12,13]] [[1],[0,4],[3],[2,4],[1,3,5],[4,8],[7],[6,8],[5,7,9],[8,10,11],[9,13],[9,14],[13],[10,12],[11]]) (.seq (.seq (.reg [(Qa 53 (.mv (.t 8))),(Qa 54 (.not (.t 53))),(Qa 55 (.mv (.t 54))),(Qg 56 55 false (.mv (.t 10))),(Qg 57 55 false (.not (.t 56))),(Qa 58 (.pick (.t 55) (.c .tt) (.t 57))),(Qa 59 (.mv (.t 58))),(Qg 60 59 false (.fld 1 (.t 7))),(Qg 61 59 false (.load (.t 60))),(Qg 62 59 false (.fld 1 (.t 9))),(Qg 63 59 false (.load (.t 62))),(Qg 64 59 false (.bin .neq (.t 61) (.t 63))),(Qa 65 (.pick (.t 59) (.c .tt) (.t 64)))]) (.ite (.t 65) (.seq (.reg [(Qa 6 (.mv (.c (.iv 0))))]) (.ret)) (.skip))) (.seq (.reg [(Qa 11 (.mv (.c .any)))]) (.seq (.seq (.reg [(Qa 66 (.mv (.t 2)))]) (.blk 0 (.seq (.reg [(Qa 68 (.bin .eql (.t 66) (.c (.iv 1)))),(Qa 67 (.mv (.t 68)))]) (.ite (.t 67) (.reg [(Qa 11 (.mv (.c (.clo 114 []))))]) (.seq (.reg [(Qa 70 (.bin .eql (.t 66) (.c (.iv 2)))),(Qa 69 (.mv (.t 70)))]) (.ite (.t 69) (.reg [(Qa 11 (.mv (.c (.clo 115 []))))]) (.seq (.reg [(Qa 6 (.mv (.c (.iv 0))))]) (.ret)))))))) (.seq (.reg [(Qa 12 (.mv (.c (.iv 0))))]) (.seq (.seq (.reg [(Qa 71 (.loadA 8 (.t 7))),(Qa 72 (.loadA 8 (.t 9))),(Qa 73 (.bsl 66 8 2 [.iv 0,.iv 0,.iv 0,.ff,.ff,.ff,.ff,.ff] [(0,(.t 71)),(1,(.t 72))])),(Qa 74 (.len (.t 73))),(Qa 75 (.mv (.c (.iv 0))))]) (.blk 1 (.loop Zuj))) (.seq (.seq (.reg [(Qa 85 (.fld 1 (.t 3))),(Qa 86 (.load (.t 85))),(Qa 87 (.len (.t 86))),(Qa 88 (.mv (.c (.iv 0))))]) (.blk 3 (.loop Ztj))) (.seq (.reg [(Qa 134 (.mv (.t 12))),(Qa 6 (.mv (.t 134)))]) (.ret)))))))))))
theorem ok63:FnOK Tryz.prog 63 Tryz.f63 e63 [.t 6] 3 132:=⟨by kernel_rfl,⟨_,rfl,by kernel_rfl⟩,by kernel_rfl,by kernel_rfl⟩
noncomputable def Zvj:Int→Option Int
| x58=>
 some x58
noncomputable def Zwj (x45:Int):Int→Option ((Int×Int) ⊕ Int)
| x48=>
 some (.inl (x48,wr (x45+1)))
noncomputable def Zxj (x44:Int) (x45:Int):Bool→Option ((Int×Int) ⊕ Int)
| x47=>
 ifb x47 (
 (Zwj x45) (wr (x44+1))) (
 (Zwj x45) x44)
noncomputable def Zyj (x1:Scene) (x2:Edge) (x3:Int) (x11:Side):(Int×Int)→Option ((Int×Int) ⊕ Int)
| (x44,x45)=>
 ifb (decide (x45<(ln Mail.row x1.Mail))) (
 (at_ x1.Mail x45).bind fun x46=>
 ifb (decide (x46.Msg.Kind=x3)) (
 ifb (decide (x46.Msg.Epoch=x11.Epoch)) (
 ifb (decide (((min x46.From x46.To))=((min x2.A x2.B)))) (
 (Zxj x44 x45) (decide (((max x46.From x46.To))=((max x2.A x2.B))))) (
 (Zxj x44 x45) false)) (
 (Zxj x44 x45) false)) (
 (Zxj x44 x45) false)) (
 Option.map Sum.inr (Zvj x44))
noncomputable def Zzj (x1:Scene) (x2:Edge) (x3:Int) (x11:Side):Int→Option Int
| x38=>
 loop (Zyj x1 x2 x3 x11) (x38,0)
noncomputable def Z0k (x24:Int):Int→Option ((Int×Int) ⊕ Int)
| x27=>
 some (.inl (x27,wr (x24+1)))
noncomputable def Z1k (x1:Scene) (x2:Edge) (x3:Int) (x11:Side) (x16:Side):(Int×Int)→Option ((Int×Int) ⊕ Int)
| (x23,x24)=>
 ifb (decide (x24<(ln Side.row ([x11,x16])))) (
 (at_ ([x11,x16]) x24).bind fun x25=>
 (Zpj x25).bind fun x26=>
 ifb x26 (
 (Z0k x24) (wr (x23+1))) (
 (Z0k x24) x23)) (
 Option.map Sum.inr ((Zzj x1 x2 x3 x11) x23))
noncomputable def Z2k:Int→Option Int
| x99=>
 some x99
noncomputable def Z3k (x86:Int):Int→Option ((Int×Int) ⊕ Int)
| x89=>
 some (.inl (x89,wr (x86+1)))
noncomputable def Z4k (x85:Int) (x86:Int):Bool→Option ((Int×Int) ⊕ Int)
| x88=>
 ifb x88 (
 (Z3k x86) (wr (x85+1))) (
 (Z3k x86) x85)
noncomputable def Z5k (x1:Scene) (x2:Edge) (x3:Int) (x11:Side):(Int×Int)→Option ((Int×Int) ⊕ Int)
| (x85,x86)=>
 ifb (decide (x86<(ln Mail.row x1.Mail))) (
 (at_ x1.Mail x86).bind fun x87=>
 ifb (decide (x87.Msg.Kind=x3)) (
 ifb (decide (x87.Msg.Epoch=x11.Epoch)) (
 ifb (decide (((min x87.From x87.To))=((min x2.A x2.B)))) (
 (Z4k x85 x86) (decide (((max x87.From x87.To))=((max x2.A x2.B))))) (
 (Z4k x85 x86) false)) (
 (Z4k x85 x86) false)) (
 (Z4k x85 x86) false)) (
 Option.map Sum.inr (Z2k x85))
noncomputable def Z6k (x1:Scene) (x2:Edge) (x3:Int) (x11:Side):Int→Option Int
| x79=>
 loop (Z5k x1 x2 x3 x11) (x79,0)
noncomputable def Z7k (x65:Int):Int→Option ((Int×Int) ⊕ Int)
| x68=>
 some (.inl (x68,wr (x65+1)))
noncomputable def Z8k (x1:Scene) (x2:Edge) (x3:Int) (x11:Side) (x16:Side):(Int×Int)→Option ((Int×Int) ⊕ Int)
| (x64,x65)=>
 ifb (decide (x65<(ln Side.row ([x11,x16])))) (
 (at_ ([x11,x16]) x65).bind fun x66=>
 (Zrj x66).bind fun x67=>
 ifb x67 (
 (Z7k x65) (wr (x64+1))) (
 (Z7k x65) x64)) (
 Option.map Sum.inr ((Z6k x1 x2 x3 x11) x64))
noncomputable def Z9k (x1:Scene) (x2:Edge) (x3:Int) (x11:Side) (x16:Side):Bool→Option Int
| x17=>
 ifb x17 (
 some 0) (
 ifb (decide (x3=1)) (
 loop (Z1k x1 x2 x3 x11 x16) (0,0)) (
 ifb (decide (x3=2)) (
 loop (Z8k x1 x2 x3 x11 x16) (0,0)) (
 some 0)))
noncomputable def Zak (x1:Scene) (x2:Edge) (x3:Int) (x10:Bool) (x11:Side):(Bool×Side)→Option Int
| (x15,x16)=>
 ifb (!x10) (
 (Z9k x1 x2 x3 x11 x16) true) (
 ifb (!x15) (
 (Z9k x1 x2 x3 x11 x16) true) (
 (Z9k x1 x2 x3 x11 x16) (!decide (x11.Epoch=x16.Epoch))))
noncomputable def Zbk (x1:Scene) (x2:Edge) (x3:Int):(Bool×Side)→Option Int
| (x10,x11)=>
 (at_ x1.Diners x2.B).bind fun x12=>
 (Zb8 x12 x2.A).bind fun x13=>
 (Zak x1 x2 x3 x10 x11) (x13.2,x13.1)
noncomputable def Zck (x1:Scene) (x2:Edge) (x3:Int):Bool→Option Int
| x6=>
 ifb x6 (
 some 0) (
 (at_ x1.Diners x2.A).bind fun x7=>
 (Zb8 x7 x2.B).bind fun x8=>
 (Zbk x1 x2 x3) (x8.2,x8.1))
noncomputable def Zdk (x1:Scene) (x2:Edge) (x3:Int):Option Int:=
 (Zrh x1 x2.A).bind fun x4=>
 ifb (!x4) (
 (Zck x1 x2 x3) true) (
 (Zrh x1 x2.B).bind fun x5=>
 (Zck x1 x2 x3) (!x5))
theorem k_table_Count (x1:Scene) (x2:Edge) (x3:Int) (r:Int) (h:Zdk x1 x2 x3=some r):Zq2 Tryz.prog 63 [.agg (Scene.row x1),.agg (Edge.row x2),.iv x3] (.iv r):=by
 refine Zu2 ok63 rfl rfl fun w0 H0=>?_
 rw [Zdk] at h
 refine Zl2 12 ?_;dsimp only [e63,Zuj,Ztj,go_sem];refine ⟨by simp,?_⟩;obtain ⟨x4,ex4,h⟩:=Option.bind_eq_some_iff.1 h;refine Zz2 trivial (Zsh x1 x2.A _ ex4) (h:=?_);refine Zl2 2 ?_;dsimp only [e63,Zuj,Ztj,go_sem];refine ⟨by simp,?_⟩;refine Zi4 (fun (x6:Bool)=>(⟨(.any :: .any :: .iv x3 :: .ptr 0 0 :: .ptr 1 0::an 23 (.bv x6::an 106 [])),[some ⟨48,[.sl 3 (List.map Diner.row x1.Diners),.sl 5 (List.map Mail.row x1.Mail)]⟩,some ⟨30,[.iv x2.A,.iv x2.B]⟩],[]⟩:St)) (Zck x1 x2 x3) r ?_ fun J1=>?_
 ·intro x6 h;rw [Zck] at h;(try dsimp only);refine Zk4 h rfl (fun _ h=>?_) fun _ h=>?_
  ·refine Zl2 4 ?_;dsimp only [e63,Zuj,Ztj,go_sem];refine ⟨by simp,?_⟩;exact Zt4 (res:=fun (r:Int)=>.iv r) ok63 h
  ·refine Zl2 2 ?_;dsimp only [e63,Zuj,Ztj,go_sem];refine ⟨by simp,?_⟩;refine Zi4 (fun ((x10,x11):(Bool×Side))=>(⟨(.any :: .any :: .iv x3 :: .ptr 0 0 :: .ptr 1 0 :: .any :: .any :: .ptr 2 0 :: .bv x10::an 126 []),[some ⟨48,[.sl 3 (List.map Diner.row x1.Diners),.sl 5 (List.map Mail.row x1.Mail)]⟩,some ⟨30,[.iv x2.A,.iv x2.B]⟩,some ⟨66,[.iv x11.Peer,.iv x11.Epoch,.iv x11.State,.bv x11.Fork,.bv x11.Dirty,.bv x11.Token,.bv x11.Bottle,.bv x11.Ask]⟩],[]⟩:St)) (Zbk x1 x2 x3) r ?_ fun J2=>?_
   ·rintro ⟨x10,x11⟩ h;rw [Zbk] at h;(try dsimp only);refine Zl2 1 ?_;dsimp only [e63,Zuj,Ztj,go_sem];refine ⟨by simp,?_⟩
    refine Zi4 (fun ((x15,x16):(Bool×Side))=>(⟨(.any :: .any :: .iv x3 :: .ptr 0 0 :: .ptr 1 0 :: .any :: .any :: .ptr 2 0 :: .bv x10 :: .ptr 3 0 :: .bv x15::an 124 []),[some ⟨48,[.sl 3 (List.map Diner.row x1.Diners),.sl 5 (List.map Mail.row x1.Mail)]⟩,some ⟨30,[.iv x2.A,.iv x2.B]⟩,some ⟨66,[.iv x11.Peer,.iv x11.Epoch,.iv x11.State,.bv x11.Fork,.bv x11.Dirty,.bv x11.Token,.bv x11.Bottle,.bv x11.Ask]⟩,some ⟨66,[.iv x16.Peer,.iv x16.Epoch,.iv x16.State,.bv x16.Fork,.bv x16.Dirty,.bv x16.Token,.bv x16.Bottle,.bv x16.Ask]⟩],[]⟩:St)) (Zak x1 x2 x3 x10 x11) r ?_ fun J3=>?_
    ·rintro ⟨x15,x16⟩ h;rw [Zak] at h;(try dsimp only);refine Zl2 6 ?_;dsimp only [e63,Zuj,Ztj,go_sem];refine ⟨by simp,?_⟩
     refine Zi4 (fun (x17:Bool)=>(⟨(.any :: .any :: .iv x3 :: .ptr 0 0 :: .ptr 1 0 :: .any :: .any :: .ptr 2 0 :: .any :: .ptr 3 0::an 55 (.bv x17::an 69 [])),[some ⟨48,[.sl 3 (List.map Diner.row x1.Diners),.sl 5 (List.map Mail.row x1.Mail)]⟩,some ⟨30,[.iv x2.A,.iv x2.B]⟩,some ⟨66,[.iv x11.Peer,.iv x11.Epoch,.iv x11.State,.bv x11.Fork,.bv x11.Dirty,.bv x11.Token,.bv x11.Bottle,.bv x11.Ask]⟩,some ⟨66,[.iv x16.Peer,.iv x16.Epoch,.iv x16.State,.bv x16.Fork,.bv x16.Dirty,.bv x16.Token,.bv x16.Bottle,.bv x16.Ask]⟩],[]⟩:St)) (Z9k x1 x2 x3 x11 x16) r ?_ fun J4=>?_
     ·intro x17 h;rw [Z9k] at h;(try dsimp only);refine Zk4 h rfl (fun _ h=>?_) fun _ h=>?_
      ·refine Zl2 4 ?_;dsimp only [e63,Zuj,Ztj,go_sem];refine ⟨by simp,?_⟩;exact Zt4 (res:=fun (r:Int)=>.iv r) ok63 h
      ·refine Zl2 16 ?_;dsimp only [e63,Zuj,Ztj,go_sem];refine ⟨by simp,?_⟩;refine Zk4 h rfl (fun _ h=>?_) fun _ h=>?_
       ·refine Zl2 17 ?_;dsimp only [e63,Zuj,Ztj,go_sem];refine ⟨by simp,?_⟩;refine Zi4 (fun (x38:Int)=>(⟨(.any :: .any :: .iv x3 :: .ptr 0 0 :: .ptr 1 0 :: .any :: .any :: .ptr 2 0::an 4 (.iv x38::an 122 [])),[some ⟨48,[.sl 3 (List.map Diner.row x1.Diners),.sl 5 (List.map Mail.row x1.Mail)]⟩,some ⟨30,[.iv x2.A,.iv x2.B]⟩,some ⟨66,[.iv x11.Peer,.iv x11.Epoch,.iv x11.State,.bv x11.Fork,.bv x11.Dirty,.bv x11.Token,.bv x11.Bottle,.bv x11.Ask]⟩],[]⟩:St)) (Zzj x1 x2 x3 x11) r ?_ fun J5=>?_
        ·intro x38 h;rw [Zzj] at h;(try dsimp only);refine Zl2 8 ?_;dsimp only [e63,Zuj,Ztj,go_sem];refine ⟨by simp,?_⟩;refine Zi4 (fun (x58:Int)=>(⟨(an 12 (.iv x58::an 122 [])),[],[]⟩:St)) Zvj r ?_ fun J7=>?_
         ·intro x58 h;rw [Zvj] at h;(try dsimp only);refine Zl2 5 ?_;dsimp only [e63,Zuj,Ztj,go_sem];refine ⟨by simp,?_⟩;exact Zt4 (res:=fun (r:Int)=>.iv r) ok63 h
         ·refine Zl2 1 ?_;dsimp only [e63,Zuj,Ztj,go_sem];refine ⟨by simp,?_⟩;refine Zj4 h (fun ((x44,x45):(Int×Int))=>(⟨(.any :: .any :: .iv x3 :: .any :: .ptr 1 0 :: .any :: .any :: .ptr 2 0::an 4 (.iv x44::an 73 (.sl 5 (List.map Mail.row x1.Mail) :: .iv (ln Mail.row x1.Mail) :: .iv x45::an 46 []))),[none,some ⟨30,[.iv x2.A,.iv x2.B]⟩,some ⟨66,[.iv x11.Peer,.iv x11.Epoch,.iv x11.State,.bv x11.Fork,.bv x11.Dirty,.bv x11.Token,.bv x11.Bottle,.bv x11.Ask]⟩],[]⟩:St)) (by simp [go_sem]) (by rintro ⟨x44,x45⟩;first | rfl | simp [go_sem]) ?_
          rintro n1 ⟨x44,x45⟩ y1 h hin1 hout1;rw [Zyj] at h;(try dsimp only);refine Zl2 5 ?_;dsimp only [e63,Zuj,Ztj,go_sem];refine ⟨by simp,?_⟩;refine Zk4 h rfl (fun _ h=>?_) fun _ h=>?_
          ·refine Zl2 5 ?_;dsimp only [e63,Zuj,Ztj,go_sem];refine ⟨by simp,?_⟩;obtain ⟨x46,ex46,h⟩:=Option.bind_eq_some_iff.1 h;refine Zn4 Mail.row ex46 trivial rfl rfl rfl ?_;refine Zl2 12 ?_;dsimp only [e63,Zuj,Ztj,go_sem];refine ⟨by simp,?_⟩
           refine Zi4 (fun (x47:Bool)=>(⟨(.any :: .any :: .iv x3 :: .any :: .ptr 1 0 :: .any :: .any :: .ptr 2 0::an 4 (.iv x44::an 73 (.sl 5 (List.map Mail.row x1.Mail) :: .iv (ln Mail.row x1.Mail) :: .iv x45::an 41 (.bv x47::an 4 [])))),[none,some ⟨30,[.iv x2.A,.iv x2.B]⟩,some ⟨66,[.iv x11.Peer,.iv x11.Epoch,.iv x11.State,.bv x11.Fork,.bv x11.Dirty,.bv x11.Token,.bv x11.Bottle,.bv x11.Ask]⟩],[]⟩:St)) (Zxj x44 x45) y1 ?_ fun J8=>?_
           ·intro x47 h;rw [Zxj] at h;(try dsimp only);refine Zi4 (fun (x48:Int)=>(⟨(.any :: .any :: .iv x3 :: .any :: .ptr 1 0 :: .any :: .any :: .ptr 2 0::an 4 (.iv x48::an 73 (.sl 5 (List.map Mail.row x1.Mail) :: .iv (ln Mail.row x1.Mail) :: .iv x45::an 46 []))),[none,some ⟨30,[.iv x2.A,.iv x2.B]⟩,some ⟨66,[.iv x11.Peer,.iv x11.Epoch,.iv x11.State,.bv x11.Fork,.bv x11.Dirty,.bv x11.Token,.bv x11.Bottle,.bv x11.Ask]⟩],[]⟩:St)) (Zwj x45) y1 ?_ fun J9=>?_
            ·intro x48 h;rw [Zwj] at h;(try dsimp only);refine Zl2 5 ?_;dsimp only [e63,Zuj,Ztj,go_sem];refine ⟨by simp,?_⟩;exact Zu4 h hin1
            ·refine Zk4 h rfl (fun _ h=>?_) fun _ h=>?_
             ·refine Zl2 5 ?_;dsimp only [e63,Zuj,Ztj,go_sem];refine ⟨by simp,?_⟩;exact Zv4 J9 (s:=wr (x44+1)) h
             ·refine Zl2 1 ?_;dsimp only [e63,Zuj,Ztj,go_sem];refine ⟨by simp,?_⟩;exact Zv4 J9 (s:=x44) h
           ·refine Zs4 97 h rfl (fun _ h=>?_) fun _ h=>?_
            ·dsimp only [go_sem];refine Zl2 8 ?_;dsimp only [e63,Zuj,Ztj,go_sem];refine ⟨by simp,?_⟩;refine Zs4 105 h rfl (fun _ h=>?_) fun _ h=>?_
             ·dsimp only [go_sem];refine Zl2 13 ?_;dsimp only [e63,Zuj,Ztj,go_sem];refine ⟨by simp,?_⟩;refine Zs4 118 h rfl (fun _ h=>?_) fun _ h=>?_
              ·dsimp only [go_sem];refine Zl2 13 ?_;dsimp only [e63,Zuj,Ztj,go_sem];refine ⟨by simp,?_⟩;exact Zv4 J8 (s:=decide (((max x46.From x46.To))=((max x2.A x2.B)))) h
              ·dsimp only [go_sem];refine Zl2 13 ?_;dsimp only [e63,Zuj,Ztj,go_sem];refine ⟨by simp,?_⟩;exact Zv4 J8 (s:=false) h
             ·dsimp only [go_sem];refine Zl2 26 ?_;dsimp only [e63,Zuj,Ztj,go_sem];refine ⟨by simp,?_⟩;exact Zv4 J8 (s:=false) h
            ·dsimp only [go_sem];refine Zl2 34 ?_;dsimp only [e63,Zuj,Ztj,go_sem];refine ⟨by simp,?_⟩;exact Zv4 J8 (s:=false) h
          ·refine Zl2 1 ?_;dsimp only [e63,Zuj,Ztj,go_sem];refine ⟨by simp,?_⟩;exact Zv4 J7 (s:=x44) (Zh4 h hout1)
        ·refine Zl2 1 ?_;dsimp only [e63,Zuj,Ztj,go_sem];refine ⟨by simp,?_⟩
         refine Zj4 h (fun ((x23,x24):(Int×Int))=>(⟨(.any :: .any :: .iv x3 :: .ptr 0 0 :: .ptr 1 0 :: .any :: .any :: .ptr 2 0::an 3 (.clo 114 [] :: .iv x23::an 60 (.osl 0 :: .iv (ln Side.row ([x11,x16])) :: .iv x24::an 59 []))),[some ⟨48,[.sl 3 (List.map Diner.row x1.Diners),.sl 5 (List.map Mail.row x1.Mail)]⟩,some ⟨30,[.iv x2.A,.iv x2.B]⟩,some ⟨66,[.iv x11.Peer,.iv x11.Epoch,.iv x11.State,.bv x11.Fork,.bv x11.Dirty,.bv x11.Token,.bv x11.Bottle,.bv x11.Ask]⟩],[some ⟨66,8,List.map Side.row ([x11,x16])⟩]⟩:St)) (by simp [go_sem]) (by rintro ⟨x23,x24⟩;first | rfl | simp [go_sem]) ?_
         rintro n1 ⟨x23,x24⟩ y1 h hin1 hout1;rw [Z1k] at h;(try dsimp only);refine Zl2 5 ?_;dsimp only [e63,Zuj,Ztj,go_sem];refine ⟨by simp,?_⟩;refine Zk4 h rfl (fun _ h=>?_) fun _ h=>?_
         ·refine Zl2 5 ?_;dsimp only [e63,Zuj,Ztj,go_sem];refine ⟨by simp,?_⟩;obtain ⟨x25,ex25,h⟩:=Option.bind_eq_some_iff.1 h;refine Zi5 Side.row ex25 trivial rfl rfl rfl ?_;refine Zl5 Side.row ex25 trivial rfl rfl rfl ?_;refine Zl2 7 ?_;dsimp only [e63,Zuj,Ztj,go_sem];refine ⟨by simp,?_⟩;obtain ⟨x26,ex26,h⟩:=Option.bind_eq_some_iff.1 h;refine V_callv trivial rfl (Zqj x25 _ ex26) (by kernel_rfl) (h:=?_);refine Zl2 1 ?_;dsimp only [e63,Zuj,Ztj,go_sem];refine ⟨by simp,?_⟩
          refine Zi4 (fun (x27:Int)=>(⟨(.any :: .any :: .iv x3 :: .ptr 0 0 :: .ptr 1 0 :: .any :: .any :: .ptr 2 0::an 3 (.clo 114 [] :: .iv x27::an 60 (.osl 0 :: .iv (ln Side.row ([x11,x16])) :: .iv x24::an 59 []))),[some ⟨48,[.sl 3 (List.map Diner.row x1.Diners),.sl 5 (List.map Mail.row x1.Mail)]⟩,some ⟨30,[.iv x2.A,.iv x2.B]⟩,some ⟨66,[.iv x11.Peer,.iv x11.Epoch,.iv x11.State,.bv x11.Fork,.bv x11.Dirty,.bv x11.Token,.bv x11.Bottle,.bv x11.Ask]⟩],[some ⟨66,8,List.map Side.row ([x11,x16])⟩]⟩:St)) (Z0k x24) y1 ?_ fun J6=>?_
          ·intro x27 h;rw [Z0k] at h;(try dsimp only);refine Zl2 5 ?_;dsimp only [e63,Zuj,Ztj,go_sem];refine ⟨by simp,?_⟩;exact Zu4 h hin1
          ·refine Zk4 h rfl (fun _ h=>?_) fun _ h=>?_
           ·refine Zl2 5 ?_;dsimp only [e63,Zuj,Ztj,go_sem];refine ⟨by simp,?_⟩;exact Zv4 J6 (s:=wr (x23+1)) h
           ·refine Zl2 1 ?_;dsimp only [e63,Zuj,Ztj,go_sem];refine ⟨by simp,?_⟩;exact Zv4 J6 (s:=x23) h
         ·refine Zl2 1 ?_;dsimp only [e63,Zuj,Ztj,go_sem];refine ⟨by simp,?_⟩;exact Zv4 J5 (s:=x23) (Zh4 h hout1)
       ·refine Zl2 5 ?_;dsimp only [e63,Zuj,Ztj,go_sem];refine ⟨by simp,?_⟩;refine Zk4 h rfl (fun _ h=>?_) fun _ h=>?_
        ·refine Zl2 17 ?_;dsimp only [e63,Zuj,Ztj,go_sem];refine ⟨by simp,?_⟩;refine Zi4 (fun (x79:Int)=>(⟨(.any :: .any :: .iv x3 :: .ptr 0 0 :: .ptr 1 0 :: .any :: .any :: .ptr 2 0::an 4 (.iv x79::an 122 [])),[some ⟨48,[.sl 3 (List.map Diner.row x1.Diners),.sl 5 (List.map Mail.row x1.Mail)]⟩,some ⟨30,[.iv x2.A,.iv x2.B]⟩,some ⟨66,[.iv x11.Peer,.iv x11.Epoch,.iv x11.State,.bv x11.Fork,.bv x11.Dirty,.bv x11.Token,.bv x11.Bottle,.bv x11.Ask]⟩],[]⟩:St)) (Z6k x1 x2 x3 x11) r ?_ fun J10=>?_
         ·intro x79 h;rw [Z6k] at h;(try dsimp only);refine Zl2 8 ?_;dsimp only [e63,Zuj,Ztj,go_sem];refine ⟨by simp,?_⟩;refine Zi4 (fun (x99:Int)=>(⟨(an 12 (.iv x99::an 122 [])),[],[]⟩:St)) Z2k r ?_ fun J12=>?_
          ·intro x99 h;rw [Z2k] at h;(try dsimp only);refine Zl2 5 ?_;dsimp only [e63,Zuj,Ztj,go_sem];refine ⟨by simp,?_⟩;exact Zt4 (res:=fun (r:Int)=>.iv r) ok63 h
          ·refine Zl2 1 ?_;dsimp only [e63,Zuj,Ztj,go_sem];refine ⟨by simp,?_⟩;refine Zj4 h (fun ((x85,x86):(Int×Int))=>(⟨(.any :: .any :: .iv x3 :: .any :: .ptr 1 0 :: .any :: .any :: .ptr 2 0::an 4 (.iv x85::an 73 (.sl 5 (List.map Mail.row x1.Mail) :: .iv (ln Mail.row x1.Mail) :: .iv x86::an 46 []))),[none,some ⟨30,[.iv x2.A,.iv x2.B]⟩,some ⟨66,[.iv x11.Peer,.iv x11.Epoch,.iv x11.State,.bv x11.Fork,.bv x11.Dirty,.bv x11.Token,.bv x11.Bottle,.bv x11.Ask]⟩],[]⟩:St)) (by simp [go_sem]) (by rintro ⟨x85,x86⟩;first | rfl | simp [go_sem]) ?_
           rintro n1 ⟨x85,x86⟩ y1 h hin1 hout1;rw [Z5k] at h;(try dsimp only);refine Zl2 5 ?_;dsimp only [e63,Zuj,Ztj,go_sem];refine ⟨by simp,?_⟩;refine Zk4 h rfl (fun _ h=>?_) fun _ h=>?_
           ·refine Zl2 5 ?_;dsimp only [e63,Zuj,Ztj,go_sem];refine ⟨by simp,?_⟩;obtain ⟨x87,ex87,h⟩:=Option.bind_eq_some_iff.1 h;refine Zn4 Mail.row ex87 trivial rfl rfl rfl ?_;refine Zl2 12 ?_;dsimp only [e63,Zuj,Ztj,go_sem];refine ⟨by simp,?_⟩
            refine Zi4 (fun (x88:Bool)=>(⟨(.any :: .any :: .iv x3 :: .any :: .ptr 1 0 :: .any :: .any :: .ptr 2 0::an 4 (.iv x85::an 73 (.sl 5 (List.map Mail.row x1.Mail) :: .iv (ln Mail.row x1.Mail) :: .iv x86::an 41 (.bv x88::an 4 [])))),[none,some ⟨30,[.iv x2.A,.iv x2.B]⟩,some ⟨66,[.iv x11.Peer,.iv x11.Epoch,.iv x11.State,.bv x11.Fork,.bv x11.Dirty,.bv x11.Token,.bv x11.Bottle,.bv x11.Ask]⟩],[]⟩:St)) (Z4k x85 x86) y1 ?_ fun J13=>?_
            ·intro x88 h;rw [Z4k] at h;(try dsimp only);refine Zi4 (fun (x89:Int)=>(⟨(.any :: .any :: .iv x3 :: .any :: .ptr 1 0 :: .any :: .any :: .ptr 2 0::an 4 (.iv x89::an 73 (.sl 5 (List.map Mail.row x1.Mail) :: .iv (ln Mail.row x1.Mail) :: .iv x86::an 46 []))),[none,some ⟨30,[.iv x2.A,.iv x2.B]⟩,some ⟨66,[.iv x11.Peer,.iv x11.Epoch,.iv x11.State,.bv x11.Fork,.bv x11.Dirty,.bv x11.Token,.bv x11.Bottle,.bv x11.Ask]⟩],[]⟩:St)) (Z3k x86) y1 ?_ fun J14=>?_
             ·intro x89 h;rw [Z3k] at h;(try dsimp only);refine Zl2 5 ?_;dsimp only [e63,Zuj,Ztj,go_sem];refine ⟨by simp,?_⟩;exact Zu4 h hin1
             ·refine Zk4 h rfl (fun _ h=>?_) fun _ h=>?_
              ·refine Zl2 5 ?_;dsimp only [e63,Zuj,Ztj,go_sem];refine ⟨by simp,?_⟩;exact Zv4 J14 (s:=wr (x85+1)) h
              ·refine Zl2 1 ?_;dsimp only [e63,Zuj,Ztj,go_sem];refine ⟨by simp,?_⟩;exact Zv4 J14 (s:=x85) h
            ·refine Zs4 97 h rfl (fun _ h=>?_) fun _ h=>?_
             ·dsimp only [go_sem];refine Zl2 8 ?_;dsimp only [e63,Zuj,Ztj,go_sem];refine ⟨by simp,?_⟩;refine Zs4 105 h rfl (fun _ h=>?_) fun _ h=>?_
              ·dsimp only [go_sem];refine Zl2 13 ?_;dsimp only [e63,Zuj,Ztj,go_sem];refine ⟨by simp,?_⟩;refine Zs4 118 h rfl (fun _ h=>?_) fun _ h=>?_
               ·dsimp only [go_sem];refine Zl2 13 ?_;dsimp only [e63,Zuj,Ztj,go_sem];refine ⟨by simp,?_⟩;exact Zv4 J13 (s:=decide (((max x87.From x87.To))=((max x2.A x2.B)))) h
               ·dsimp only [go_sem];refine Zl2 13 ?_;dsimp only [e63,Zuj,Ztj,go_sem];refine ⟨by simp,?_⟩;exact Zv4 J13 (s:=false) h
              ·dsimp only [go_sem];refine Zl2 26 ?_;dsimp only [e63,Zuj,Ztj,go_sem];refine ⟨by simp,?_⟩;exact Zv4 J13 (s:=false) h
             ·dsimp only [go_sem];refine Zl2 34 ?_;dsimp only [e63,Zuj,Ztj,go_sem];refine ⟨by simp,?_⟩;exact Zv4 J13 (s:=false) h
           ·refine Zl2 1 ?_;dsimp only [e63,Zuj,Ztj,go_sem];refine ⟨by simp,?_⟩;exact Zv4 J12 (s:=x85) (Zh4 h hout1)
         ·refine Zl2 1 ?_;dsimp only [e63,Zuj,Ztj,go_sem];refine ⟨by simp,?_⟩
          refine Zj4 h (fun ((x64,x65):(Int×Int))=>(⟨(.any :: .any :: .iv x3 :: .ptr 0 0 :: .ptr 1 0 :: .any :: .any :: .ptr 2 0::an 3 (.clo 115 [] :: .iv x64::an 60 (.osl 0 :: .iv (ln Side.row ([x11,x16])) :: .iv x65::an 59 []))),[some ⟨48,[.sl 3 (List.map Diner.row x1.Diners),.sl 5 (List.map Mail.row x1.Mail)]⟩,some ⟨30,[.iv x2.A,.iv x2.B]⟩,some ⟨66,[.iv x11.Peer,.iv x11.Epoch,.iv x11.State,.bv x11.Fork,.bv x11.Dirty,.bv x11.Token,.bv x11.Bottle,.bv x11.Ask]⟩],[some ⟨66,8,List.map Side.row ([x11,x16])⟩]⟩:St)) (by simp [go_sem]) (by rintro ⟨x64,x65⟩;first | rfl | simp [go_sem]) ?_
          rintro n1 ⟨x64,x65⟩ y1 h hin1 hout1;rw [Z8k] at h;(try dsimp only);refine Zl2 5 ?_;dsimp only [e63,Zuj,Ztj,go_sem];refine ⟨by simp,?_⟩;refine Zk4 h rfl (fun _ h=>?_) fun _ h=>?_
          ·refine Zl2 5 ?_;dsimp only [e63,Zuj,Ztj,go_sem];refine ⟨by simp,?_⟩;obtain ⟨x66,ex66,h⟩:=Option.bind_eq_some_iff.1 h;refine Zi5 Side.row ex66 trivial rfl rfl rfl ?_;refine Zl5 Side.row ex66 trivial rfl rfl rfl ?_;refine Zl2 7 ?_;dsimp only [e63,Zuj,Ztj,go_sem];refine ⟨by simp,?_⟩;obtain ⟨x67,ex67,h⟩:=Option.bind_eq_some_iff.1 h;refine V_callv trivial rfl (Zsj x66 _ ex67) (by kernel_rfl) (h:=?_);refine Zl2 1 ?_;dsimp only [e63,Zuj,Ztj,go_sem];refine ⟨by simp,?_⟩
           refine Zi4 (fun (x68:Int)=>(⟨(.any :: .any :: .iv x3 :: .ptr 0 0 :: .ptr 1 0 :: .any :: .any :: .ptr 2 0::an 3 (.clo 115 [] :: .iv x68::an 60 (.osl 0 :: .iv (ln Side.row ([x11,x16])) :: .iv x65::an 59 []))),[some ⟨48,[.sl 3 (List.map Diner.row x1.Diners),.sl 5 (List.map Mail.row x1.Mail)]⟩,some ⟨30,[.iv x2.A,.iv x2.B]⟩,some ⟨66,[.iv x11.Peer,.iv x11.Epoch,.iv x11.State,.bv x11.Fork,.bv x11.Dirty,.bv x11.Token,.bv x11.Bottle,.bv x11.Ask]⟩],[some ⟨66,8,List.map Side.row ([x11,x16])⟩]⟩:St)) (Z7k x65) y1 ?_ fun J11=>?_
           ·intro x68 h;rw [Z7k] at h;(try dsimp only);refine Zl2 5 ?_;dsimp only [e63,Zuj,Ztj,go_sem];refine ⟨by simp,?_⟩;exact Zu4 h hin1
           ·refine Zk4 h rfl (fun _ h=>?_) fun _ h=>?_
            ·refine Zl2 5 ?_;dsimp only [e63,Zuj,Ztj,go_sem];refine ⟨by simp,?_⟩;exact Zv4 J11 (s:=wr (x64+1)) h
            ·refine Zl2 1 ?_;dsimp only [e63,Zuj,Ztj,go_sem];refine ⟨by simp,?_⟩;exact Zv4 J11 (s:=x64) h
          ·refine Zl2 1 ?_;dsimp only [e63,Zuj,Ztj,go_sem];refine ⟨by simp,?_⟩;exact Zv4 J10 (s:=x64) (Zh4 h hout1)
        ·refine Zl2 4 ?_;dsimp only [e63,Zuj,Ztj,go_sem];refine ⟨by simp,?_⟩;exact Zt4 (res:=fun (r:Int)=>.iv r) ok63 h
     ·refine Zs4 55 h rfl (fun _ h=>?_) fun _ h=>?_
      ·dsimp only [go_sem];refine Zl2 11 ?_;dsimp only [e63,Zuj,Ztj,go_sem];refine ⟨by simp,?_⟩;exact Zv4 J4 (s:=true) h
      ·dsimp only [go_sem];refine Zl2 4 ?_;dsimp only [e63,Zuj,Ztj,go_sem];refine ⟨by simp,?_⟩;refine Zs4 59 h rfl (fun _ h=>?_) fun _ h=>?_
       ·dsimp only [go_sem];refine Zl2 7 ?_;dsimp only [e63,Zuj,Ztj,go_sem];refine ⟨by simp,?_⟩;exact Zv4 J4 (s:=true) h
       ·dsimp only [go_sem];refine Zl2 7 ?_;dsimp only [e63,Zuj,Ztj,go_sem];refine ⟨by simp,?_⟩;exact Zv4 J4 (s:=!decide (x11.Epoch=x16.Epoch)) h
    ·refine Zh3 (by kernel_rfl) fun all hall hs hnap haf=>?_;dsimp only [go_sem]
     refine Zg5 hall hs haf hnap 6 9 [true,true,true,true,false,false,true,true,false,false,false,false,false,false,false] (⟨(.any :: .any :: .iv x3 :: .ptr 0 0 :: .ptr 1 0 :: .any :: .any :: .ptr 2 0 :: .bv x10::an 33 (.ptr 0 0 :: .sl 3 (List.map Diner.row x1.Diners) :: .ptr 1 1 :: .iv x2.B :: .any :: .any :: .ptr 1 0 :: .iv x2.A::an 85 [])),[some ⟨48,[.sl 3 (List.map Diner.row x1.Diners),.sl 5 (List.map Mail.row x1.Mail)]⟩,some ⟨30,[.iv x2.A,.iv x2.B]⟩,some ⟨66,[.iv x11.Peer,.iv x11.Epoch,.iv x11.State,.bv x11.Fork,.bv x11.Dirty,.bv x11.Token,.bv x11.Bottle,.bv x11.Ask]⟩],[]⟩:St) (by kernel_rfl) ?_
     obtain ⟨x12,ex12,h⟩:=Option.bind_eq_some_iff.1 h;refine Zo4 hall hs haf hnap 4 Diner.row ex12 rfl rfl trivial rfl rfl rfl rfl ?_;refine Zf5 hall hs haf hnap 1 7 ?_;dsimp only [go_sem];refine ⟨by simp,?_⟩;obtain ⟨x13,ex13,h⟩:=Option.bind_eq_some_iff.1 h;refine Zv3 8 12 rfl ?_ ?_
     ·refine Z04 hall rfl trivial (Zc8 x12 x2.A _ ex13) (h:=?_);dsimp only [go_sem];refine Zf5 hall hs haf hnap 3 3 ?_;dsimp only [go_sem];refine ⟨by simp,?_⟩;refine Zu3 12 rfl ?_;refine Zz3 hall rfl trivial ?_;dsimp only [go_sem];refine Zu3 13 rfl ?_;refine Zz3 hall rfl trivial ?_;dsimp only [go_sem];refine Zf5 hall hs haf hnap 1 0 ?_;dsimp only [go_sem];refine ⟨by simp,?_⟩;refine Zt3 rfl ?_ _;exact Zv4 J3 (s:=(x13.2,x13.1)) h
     ·refine Zz3 hall rfl trivial ?_;dsimp only [go_sem];refine Zu3 8 rfl ?_;refine Z04 hall rfl trivial (Zc8 x12 x2.A _ ex13) (h:=?_);dsimp only [go_sem];refine Zf5 hall hs haf hnap 3 2 ?_;dsimp only [go_sem];refine ⟨by simp,?_⟩;refine Zu3 13 rfl ?_;refine Zz3 hall rfl trivial ?_;dsimp only [go_sem];refine Zf5 hall hs haf hnap 1 0 ?_;dsimp only [go_sem];refine ⟨by simp,?_⟩;refine Zt3 rfl ?_ _;exact Zv4 J3 (s:=(x13.2,x13.1)) h
   ·refine Zh3 (by kernel_rfl) fun all hall hs hnap haf=>?_;dsimp only [go_sem];refine Zg5 hall hs haf hnap 6 9 [true,true,true,true,false,false,true,true,false,false,false,false,false,false,false] (⟨(.any :: .any :: .iv x3 :: .ptr 0 0 :: .ptr 1 0::an 23 (.bv x6 :: .any :: .ptr 0 0 :: .sl 3 (List.map Diner.row x1.Diners) :: .ptr 1 0 :: .iv x2.A :: .any :: .any :: .ptr 1 1 :: .iv x2.B::an 97 [])),[some ⟨48,[.sl 3 (List.map Diner.row x1.Diners),.sl 5 (List.map Mail.row x1.Mail)]⟩,some ⟨30,[.iv x2.A,.iv x2.B]⟩],[]⟩:St) (by kernel_rfl) ?_
    obtain ⟨x7,ex7,h⟩:=Option.bind_eq_some_iff.1 h;refine Zo4 hall hs haf hnap 4 Diner.row ex7 rfl rfl trivial rfl rfl rfl rfl ?_;refine Zf5 hall hs haf hnap 1 7 ?_;dsimp only [go_sem];refine ⟨by simp,?_⟩;obtain ⟨x8,ex8,h⟩:=Option.bind_eq_some_iff.1 h;refine Zv3 8 12 rfl ?_ ?_
    ·refine Z04 hall rfl trivial (Zc8 x7 x2.B _ ex8) (h:=?_);dsimp only [go_sem];refine Zf5 hall hs haf hnap 3 3 ?_;dsimp only [go_sem];refine ⟨by simp,?_⟩;refine Zu3 12 rfl ?_;refine Zz3 hall rfl trivial ?_;dsimp only [go_sem];refine Zu3 13 rfl ?_;refine Zz3 hall rfl trivial ?_;dsimp only [go_sem];refine Zf5 hall hs haf hnap 1 0 ?_;dsimp only [go_sem];refine ⟨by simp,?_⟩;refine Zt3 rfl ?_ _;exact Zv4 J2 (s:=(x8.2,x8.1)) h
    ·refine Zz3 hall rfl trivial ?_;dsimp only [go_sem];refine Zu3 8 rfl ?_;refine Z04 hall rfl trivial (Zc8 x7 x2.B _ ex8) (h:=?_);dsimp only [go_sem];refine Zf5 hall hs haf hnap 3 2 ?_;dsimp only [go_sem];refine ⟨by simp,?_⟩;refine Zu3 13 rfl ?_;refine Zz3 hall rfl trivial ?_;dsimp only [go_sem];refine Zf5 hall hs haf hnap 1 0 ?_;dsimp only [go_sem];refine ⟨by simp,?_⟩;refine Zt3 rfl ?_ _;exact Zv4 J2 (s:=(x8.2,x8.1)) h
 ·refine Zs4 22 h rfl (fun _ h=>?_) fun _ h=>?_
  ·dsimp only [go_sem];refine Zl2 7 ?_;dsimp only [e63,Zuj,Ztj,go_sem];refine ⟨by simp,?_⟩;exact Zv4 J1 (s:=true) h
  ·dsimp only [go_sem];refine Zl2 3 ?_;dsimp only [e63,Zuj,Ztj,go_sem];refine ⟨by simp,?_⟩;obtain ⟨x5,ex5,h⟩:=Option.bind_eq_some_iff.1 h;refine Zz2 trivial (Zsh x1 x2.B _ ex5) (h:=?_);refine Zl2 3 ?_;dsimp only [e63,Zuj,Ztj,go_sem];refine ⟨by simp,?_⟩;exact Zv4 J1 (s:=!x5) h
set_option maxRecDepth 100000
set_option maxHeartbeats 4000000
def e73:EC:=.seq (.reg [(Qa 1 (.box 53 2 (.t 0))),(Qa 2 (.mv (.c .ff)))]) (.seq (.reg [(Qa 3 (.fld 0 (.t 1))),(Qa 4 (.load (.t 3))),(Qa 5 (.bin .leq (.t 4) (.c (.iv 10)))),(Qa 6 (.mv (.t 5))),(Qg 7 6 true (.loadA 2 (.t 1))),(Qg 8 6 true (.call 42 [(.t 7)])),(Qa 9 (.pick (.t 6) (.t 8) (.c .ff))),(Qa 2 (.mv (.t 9)))]) (.ret))
theorem ok73:FnOK Tryz.prog 73 Tryz.f73 e73 [.t 2] 1 9:=⟨by kernel_rfl,⟨_,rfl,by kernel_rfl⟩,by kernel_rfl,by kernel_rfl⟩
noncomputable def Zek:Bool→Option Bool
| x3=>
 some x3
noncomputable def Zfk (x1:Graph):Option Bool:=
 ifb (decide (x1.N≤10)) (
 (Zqd x1).bind fun x2=>
 Zek x2) (
 Zek false)
theorem Zgk (x1:Graph) (r:Bool) (h:Zfk x1=some r):Zq2 Tryz.prog 73 [.agg (Graph.row x1)] (.bv r):=by
 refine Zu2 ok73 rfl rfl fun w0 H0=>?_
 rw [Zfk] at h
 refine Zl2 11 ?_;dsimp only [e73,go_sem];refine ⟨by simp,?_⟩;refine Zi4 (fun (x3:Bool)=>(⟨(.any :: .any :: .bv x3::an 7 []),[],[]⟩:St)) Zek r ?_ fun J1=>?_
 ·intro x3 h;rw [Zek] at h;(try dsimp only);exact Zt4 (res:=fun (r:Bool)=>.bv r) ok73 h
 ·refine Zs4 6 h rfl (fun _ h=>?_) fun _ h=>?_
  ·dsimp only [go_sem];refine Zl2 1 ?_;dsimp only [e73,go_sem];refine ⟨by simp,?_⟩;obtain ⟨x2,ex2,h⟩:=Option.bind_eq_some_iff.1 h;refine Zz2 trivial (Zrd x1 _ ex2) (h:=?_);refine Zl2 3 ?_;dsimp only [e73,go_sem];refine ⟨by simp,?_⟩;exact Zv4 J1 (s:=x2) h
  ·dsimp only [go_sem];refine Zl2 5 ?_;dsimp only [e73,go_sem];refine ⟨by simp,?_⟩;exact Zv4 J1 (s:=false) h
def mailB (e:Edge) (k ep:Int) (m:Mail):Bool:=decide (m.Msg.Kind=k)&&(decide (m.Msg.Epoch=ep)&&(decide (min m.From m.To=min e.A e.B)&&decide (max m.From m.To=max e.A e.B)))
def Zhk (M:List Mail) (e:Edge) (k ep:Int):Nat:=M.countP (mailB e k ep)
theorem Zik (M:List Mail) (m:Mail) (e:Edge) (k ep:Int):Zhk (M++[m]) e k ep=Zhk M e k ep+bn (mailB e k ep m):=by
 unfold Zhk
 rw [List.countP_append,List.countP_cons]
 cases mailB e k ep m<;>simp [bn]
theorem Zjk (M:List Mail) (e:Edge) (k ep:Int):Zhk M e k ep≤M.length:=List.countP_le_length
theorem s_countL2 (s:Scene) (e:Edge) (k:Int) (x:Side) (n:Nat) (hn:n≤2) (hM:s.Mail.length≤900000):loop (Zyj s e k x) ((n:Int),0)=some ((n+Zhk s.Mail e k x.Epoch:Nat):Int):=by
 have key:=Zs8 s.Mail (Zyj s e k x) (fun pre=>(((n+Zhk pre e k x.Epoch:Nat):Int),(pre.length:Int))) ((n+Zhk s.Mail e k x.Epoch:Nat):Int) (fun pre m post h=>?_) ?_
 ·exact key
 ·have hx:=Zt8 h
  have hm:=Zu8 h
  have hc:=Zjk pre e k x.Epoch
  dsimp only [Zyj]
  rw [Zi6 hx,Zc6,Zg6 hx,Option.bind_some,Zik,Zy8]
  have step:∀z,Zxj ((n+Zhk pre e k x.Epoch:Nat):Int) (pre.length:Int) z=some (.inl (((n+(Zhk pre e k x.Epoch+bn z):Nat):Int),((pre.length+1:Nat):Int))):=fun z=>by
   cases z with
   | true=>dsimp only [Zxj,Zwj];rw [Zc6,Zk6 (by omega),Zk6 (by omega)];rfl
   | false=>dsimp only [Zxj,Zwj];rw [Zd6,Zk6 (by omega)];rfl
  unfold mailB
  cases h1:decide (m.Msg.Kind=k) with
  | false=>rw [Zd6,step,Bool.false_and]
  | true=>
    cases h2:decide (m.Msg.Epoch=x.Epoch) with
    | false=>rw [Zc6,Zd6,step,Bool.true_and,Bool.false_and]
    | true=>
      cases h3:decide (min m.From m.To=min e.A e.B) with
      | false=>rw [Zc6,Zc6,Zd6,step,Bool.true_and,Bool.true_and,Bool.false_and]
      | true=>rw [Zc6,Zc6,Zc6,step,Bool.true_and,Bool.true_and,Bool.true_and]
 ·dsimp only [Zyj]
  rw [Zj6,Zd6];rfl
theorem s_countL4 (s:Scene) (e:Edge) (k:Int) (x:Side) (n:Nat) (hn:n≤2) (hM:s.Mail.length≤900000):loop (Z5k s e k x) ((n:Int),0)=some ((n+Zhk s.Mail e k x.Epoch:Nat):Int):=by
 have key:=Zs8 s.Mail (Z5k s e k x) (fun pre=>(((n+Zhk pre e k x.Epoch:Nat):Int),(pre.length:Int))) ((n+Zhk s.Mail e k x.Epoch:Nat):Int) (fun pre m post h=>?_) ?_
 ·exact key
 ·have hx:=Zt8 h
  have hm:=Zu8 h
  have hc:=Zjk pre e k x.Epoch
  dsimp only [Z5k]
  rw [Zi6 hx,Zc6,Zg6 hx,Option.bind_some,Zik,Zy8]
  have step:∀z,Z4k ((n+Zhk pre e k x.Epoch:Nat):Int) (pre.length:Int) z=some (.inl (((n+(Zhk pre e k x.Epoch+bn z):Nat):Int),((pre.length+1:Nat):Int))):=fun z=>by
   cases z with
   | true=>dsimp only [Z4k,Z3k];rw [Zc6,Zk6 (by omega),Zk6 (by omega)];rfl
   | false=>dsimp only [Z4k,Z3k];rw [Zd6,Zk6 (by omega)];rfl
  unfold mailB
  cases h1:decide (m.Msg.Kind=k) with
  | false=>rw [Zd6,step,Bool.false_and]
  | true=>
    cases h2:decide (m.Msg.Epoch=x.Epoch) with
    | false=>rw [Zc6,Zd6,step,Bool.true_and,Bool.false_and]
    | true=>
      cases h3:decide (min m.From m.To=min e.A e.B) with
      | false=>rw [Zc6,Zc6,Zd6,step,Bool.true_and,Bool.true_and,Bool.false_and]
      | true=>rw [Zc6,Zc6,Zc6,step,Bool.true_and,Bool.true_and,Bool.true_and]
 ·dsimp only [Z5k]
  rw [Zj6,Zd6];rfl
theorem s_countS1 (s:Scene) (e:Edge) (k:Int) (x y:Side):loop (Z1k s e k x y) (0,0)=Zzj s e k x ((bn x.Fork+bn y.Fork:Nat):Int):=by
 have ef:(([x,y].countP (·.Fork):Nat):Int)=((bn x.Fork+bn y.Fork:Nat):Int):=by
  rw [List.countP_cons,List.countP_cons,List.countP_nil]
  cases x.Fork<;>cases y.Fork<;>rfl
 rw [←ef]
 refine Zr8 [x,y] (Z1k s e k x y) (fun pre=>(((pre.countP (·.Fork):Nat):Int),(pre.length:Int))) (fun _ _=>Zzj s e k x (([x,y].countP (·.Fork):Nat):Int)) (fun pre z post h=>.inl ⟨?_,rfl⟩) ?_
 ·have hx:=Zt8 h
  have hm:=Zu8 h
  have h2:pre.length<2:=hm
  have hc:pre.countP (·.Fork)≤pre.length:=List.countP_le_length
  dsimp only [Z1k,Zpj,Z0k]
  rw [Zi6 hx,Zc6,Zg6 hx,Option.bind_some,Option.bind_some,Zy8,List.countP_append,List.countP_cons,List.countP_nil,Zk6 (by omega),Zk6 (by omega)]
  cases z.Fork<;>rfl
 ·dsimp only [Z1k]
  rw [Zj6,Zd6]
theorem s_countS3 (s:Scene) (e:Edge) (k:Int) (x y:Side):loop (Z8k s e k x y) (0,0)=Z6k s e k x ((bn x.Token+bn y.Token:Nat):Int):=by
 have ef:(([x,y].countP (·.Token):Nat):Int)=((bn x.Token+bn y.Token:Nat):Int):=by
  rw [List.countP_cons,List.countP_cons,List.countP_nil]
  cases x.Token<;>cases y.Token<;>rfl
 rw [←ef]
 refine Zr8 [x,y] (Z8k s e k x y) (fun pre=>(((pre.countP (·.Token):Nat):Int),(pre.length:Int))) (fun _ _=>Z6k s e k x (([x,y].countP (·.Token):Nat):Int)) (fun pre z post h=>.inl ⟨?_,rfl⟩) ?_
 ·have hx:=Zt8 h
  have hm:=Zu8 h
  have h2:pre.length<2:=hm
  have hc:pre.countP (·.Token)≤pre.length:=List.countP_le_length
  dsimp only [Z8k,Zrj,Z7k]
  rw [Zi6 hx,Zc6,Zg6 hx,Option.bind_some,Option.bind_some,Zy8,List.countP_append,List.countP_cons,List.countP_nil,Zk6 (by omega),Zk6 (by omega)]
  cases z.Token<;>rfl
 ·dsimp only [Z8k]
  rw [Zj6,Zd6]
def countS (s:Scene) (e:Edge) (k:Int):Nat:=
 if Z5j s e.A&&Z5j s e.B then
  match s.Diners[e.A.toNat]?,s.Diners[e.B.toNat]? with
  | some da,some db=>match Z59 da e.B,Z59 db e.A with
    | some x,some y=>if decide (x.Epoch=y.Epoch)&&(decide (k=1)||decide (k=2)) then bn (has x k)+bn (has y k)+Zhk s.Mail e k x.Epoch else 0
    | _,_=>0
  | _,_=>0
 else 0
theorem s_Count (s:Scene) (e:Edge) (k:Int) (hD:fewD s.Diners) (hM:s.Mail.length≤900000):Zdk s e k=some (countS s e k:Int):=by
 simp only [Zdk,s_there,Option.bind_some]
 unfold countS
 cases ha:Z5j s e.A with
 | false=>rfl
 | true=>
   cases hb:Z5j s e.B with
   | false=>rfl
   | true=>
     obtain ⟨da,a1,a2⟩:=Z7j ha
     obtain ⟨db,b1,b2⟩:=Z7j hb
     have la:=hD.2 da (List.mem_iff_getElem?.2 ⟨_,a2⟩)
     have lb:=hD.2 db (List.mem_iff_getElem?.2 ⟨_,b2⟩)
     simp only [Bool.not_true,Zd6,Zck,a1,a2,b1,b2,Option.bind_some,Zbk,s_Side da e.B (by omega),s_Side db e.A (by omega),Bool.and_self,if_true,Zak]
     cases hx:Z59 da e.B with
     | none=>rfl
     | some x=>
       cases hy:Z59 db e.A with
       | none=>rfl
       | some y=>
         simp only [sideP,Bool.not_true,Zd6,Z9k]
         by_cases he:x.Epoch=y.Epoch
         ·by_cases h1:k=1
          ·subst h1
           have n2:bn x.Fork+bn y.Fork≤2:=by cases x.Fork<;>cases y.Fork<;>decide
           simp only [decide_true,Zc6,s_countS1,Zzj,s_countL2 s e 1 x _ n2 hM]
           simp [he,has]
          ·by_cases h2:k=2
           ·subst h2
            have n2:bn x.Token+bn y.Token≤2:=by cases x.Token<;>cases y.Token<;>decide
            simp only [Zd6,show decide ((2:Int)=1)=false from rfl,decide_true,Zc6,s_countS3,Z6k,s_countL4 s e 2 x _ n2 hM]
            simp [he,has]
           ·simp [he,h1,h2]
         ·simp [he]
def phasesL (l:List Diner) (p:Int):List Int:=(l.filter fun d=>decide (d.Phase=p)).map (·.ID)
theorem fireMs_small {d:Diner} (h:okD d=true):(Zva d).length≤128:=by
 have h1:=Zoa h
 have h2:=Zwa d.Sides d.ID d.Phase
 unfold Zva
 omega
theorem actP_mail {s:Scene} {a:Int} {r:Diner×Int} (h:(actP s a r).2=0):(actP s a r).1.Mail.length≤s.Mail.length+128:=by
 unfold actP at h ⊢
 split at h
 ·rename_i h1
  split at h
  ·rename_i h2
   rw [if_pos h1,if_pos h2]
   have:=fireMs_small h2
   simp only [actS,List.length_append];omega
  ·simp at h
 ·exact absurd h (by assumption)
theorem Zkk {s:Scene} {a:Int} {q:Diner→Diner×Int} (h:(Z6j s a q).2=0):(Z6j s a q).1.Mail.length≤s.Mail.length+128:=by
 unfold Z6j at h ⊢
 cases hk:okS s with
 | false=>rw [hk] at h;simp at h
 | true=>
   rw [hk] at h
   simp only [if_true] at h ⊢
   cases ht:Z5j s a with
   | false=>rw [ht] at h;simp at h
   | true=>
     rw [ht] at h
     simp only [if_true] at h ⊢
     obtain ⟨d,hd,_⟩:=Z7j ht
     rw [hd] at h ⊢
     exact actP_mail h
theorem delivS_mail {s:Scene} {a b:Int} (h:(Z9j s a b).2=0):(Z9j s a b).1.Mail.length≤s.Mail.length+128:=by
 unfold Z9j at h ⊢
 cases hk:okS s with
 | false=>rw [hk] at h;simp at h
 | true=>
   rw [hk] at h
   simp only [if_true] at h ⊢
   cases ht:(Z5j s a&&Z5j s b) with
   | false=>rw [ht] at h;simp at h
   | true=>
     rw [ht] at h
     simp only [if_true] at h ⊢
     cases hi:Z8j s a b with
     | none=>rw [hi] at h;simp at h
     | some i=>
       rw [hi] at h
       simp only at h ⊢
       split at h
       ·rename_i m d hm hd
        have:=actP_mail h
        simp only [List.length_append,List.length_take,List.length_drop] at this
        refine Nat.le_trans this ?_
        omega
       ·simp at h
theorem actA_mail {s:Scene} {k a b:Int} (h:(actA s k a b).2=0):(actA s k a b).1.Mail.length≤s.Mail.length+128:=by
 unfold actA at h ⊢
 split at h
 ·rename_i h1;rw [if_pos h1];exact Zkk h
 ·rename_i h1
  rw [if_neg h1]
  split at h
  ·rename_i h2;rw [if_pos h2];exact Zkk h
  ·rename_i h2;rw [if_neg h2];exact delivS_mail h
theorem Inv.first {g:Graph} (hg:okG g=true):Inv g (Zij g):=Inv.init hg (Zhj hg).1
theorem s_Small (g:Graph):Zfk g=some (decide (g.N≤10)&&okG g):=by
 simp only [Zfk,s_r03Check,Option.bind_some,Zek]
 cases decide (g.N≤10)<;>rfl
theorem Inv.get {g:Graph} {s:Scene} (h:Inv g s) {a:Int} (h0:0≤a) (h1:a<g.N):∃d,s.Diners[a.toNat]?=some d:=by
 have:=h.len
 exact ⟨_,List.getElem?_eq_getElem (by omega)⟩
theorem Inv.sided {g:Graph} {s:Scene} (h:Inv g s) {a:Int} (h0:0≤a) {d:Diner} (hd:s.Diners[a.toNat]?=some d) {b:Int} (hb:b∈Zye g a):∃x,Z59 d b=some x∧x∈d.Sides:=by
 have h1:=(h.shp _ _ hd).2
 rw [Int.toNat_of_nonneg h0] at h1
 have:(Z59 d b).isSome=true:=by rw [Z7g,h1];exact decide_eq_true hb
 obtain ⟨x,hx⟩:=Option.isSome_iff_exists.1 this
 exact ⟨x,hx,(Zmg hx).1⟩
theorem mem_phases {g:Graph} {s:Scene} (h:Inv g s) {p a:Int} (ha:a∈phasesL s.Diners p):∃d,s.Diners[a.toNat]?=some d∧0≤a∧d.ID=a∧d.Phase=p:=by
 unfold phasesL at ha
 obtain ⟨d,hd,rfl⟩:=List.mem_map.1 ha
 rw [List.mem_filter,decide_eq_true_eq] at hd
 obtain ⟨k,hk⟩:=List.mem_iff_getElem?.1 hd.1
 have:=h.ids k d hk
 refine ⟨d,?_,by omega,rfl,hd.2⟩
 rw [this,Int.toNat_natCast];exact hk
theorem phasesL_len (l:List Diner) (p:Int):(phasesL l p).length≤l.length:=by
 unfold phasesL;rw [List.length_map];exact List.length_filter_le _ _
theorem actP_none {s:Scene} {a:Int} {r:Diner×Int} (h:(actP s a r).2≠0):(actP s a r).1=Z3j:=by
 unfold actP at h ⊢
 split
 ·rename_i h1
  split
  ·rename_i h2
   rw [if_pos h1,if_pos h2] at h;simp at h
  ·rfl
 ·rfl
theorem Zlk {s:Scene} {a:Int} {q:Diner→Diner×Int} (h:(Z6j s a q).2≠0):(Z6j s a q).1=Z3j:=by
 unfold Z6j at h ⊢
 cases hk:okS s with
 | false=>rfl
 | true=>
   rw [hk] at h
   simp only [if_true] at h ⊢
   cases ht:Z5j s a with
   | false=>rfl
   | true=>
     rw [ht] at h
     simp only [if_true] at h ⊢
     obtain ⟨d,hd,_⟩:=Z7j ht
     rw [hd] at h ⊢
     exact actP_none h
theorem delivS_none {s:Scene} {a b:Int} (h:(Z9j s a b).2≠0):(Z9j s a b).1=Z3j:=by
 unfold Z9j at h ⊢
 cases hk:okS s with
 | false=>rfl
 | true=>
   rw [hk] at h
   simp only [if_true] at h ⊢
   cases ht:(Z5j s a&&Z5j s b) with
   | false=>rfl
   | true=>
     rw [ht] at h
     simp only [if_true] at h ⊢
     cases hi:Z8j s a b with
     | none=>rfl
     | some i=>
       rw [hi] at h
       simp only at h ⊢
       split
       ·rename_i m d hm hd
        rw [hm,hd] at h
        exact actP_none h
       ·rfl
theorem actA_none {s:Scene} {k a b:Int} (hk:k=0∨k=1∨k=2) (h:(actA s k a b).2≠0):(actA s k a b).1=Z3j:=by
 unfold actA at *
 rcases hk with rfl | rfl | rfl
 ·exact Zlk h
 ·exact Zlk h
 ·exact delivS_none h
set_option maxRecDepth 100000
set_option maxHeartbeats 4000000
def e76:EC:=.seq (.reg [(Qa 2 (.box 63 5 (.t 0))),(Qa 3 (.alloc 63 [.iv 0,.iv 0,.nl,.iv 0,.nl])),(Qa 4 (.mv (.c (.iv 0))))]) (.seq (.reg [(Qa 5 (.loadA 5 (.t 2))),(Qa 6 (.load (.t 1))),(Qa 7 (.call 77 [(.t 5),(.t 6)])),(Qa 8 (.ext (.t 7) 0)),(Qa 9 (.ext (.t 7) 1)),(Qb (.store 5 (.t 3) (.t 8))),(Qa 4 (.mv (.t 9)))]) (.ret))
theorem ok76:FnOK Tryz.prog 76 Tryz.f76 e76 [.c 3 (some 5),.t 4] 2 8:=⟨by kernel_rfl,⟨_,rfl,by kernel_rfl⟩,by kernel_rfl,by kernel_rfl⟩
noncomputable def Zmk (x1:Drinker) (x2:(List Int)):Option (Drinker×Int):=
 (Z8h x1 x2).bind fun x3=>
 some (x3.1,x3.2)
theorem k_bar_Open_1 (x1:Drinker) (x2:(List Int)) (r:(Drinker×Int)) (h:Zmk x1 x2=some r):Zq2 Tryz.prog 76 [.agg (Drinker.row x1),.elt ((Z15 1 Z05) x2) 0] (.tup [.agg (Drinker.row r.1),.iv r.2]):=by
 refine Zu2 ok76 rfl rfl fun w0 H0=>?_
 rw [Zmk] at h
 refine Zl2 10 ?_;dsimp only [e76,go_sem];refine ⟨by simp,?_⟩;obtain ⟨x3,ex3,h⟩:=Option.bind_eq_some_iff.1 h;refine Zz2 trivial (k_drink_Open x1 x2 _ ex3) (h:=?_);refine Zl2 5 ?_;dsimp only [e76,go_sem];refine ⟨by simp,?_⟩;exact Zt4 (res:=fun (r:(Drinker×Int))=>.tup [.agg (Drinker.row r.1),.iv r.2]) ok76 h
set_option maxRecDepth 100000
set_option maxHeartbeats 4000000
def e57:EC:=.seq (.reg [(Qa 1 (.box 63 5 (.t 0))),(Qa 2 (.mv (.c .ff)))]) (.seq (.reg [(Qa 3 (.loadA 5 (.t 1))),(Qa 4 (.call 58 [(.t 3)])),(Qa 5 (.bin .neq (.t 4) (.c (.iv 0)))),(Qa 2 (.mv (.t 5)))]) (.ret))
theorem ok57:FnOK Tryz.prog 57 Tryz.f57 e57 [.t 2] 1 5:=⟨by kernel_rfl,⟨_,rfl,by kernel_rfl⟩,by kernel_rfl,by kernel_rfl⟩
noncomputable def Znk (x1:Drinker):Option Bool:=
 (Z9b x1).bind fun x2=>
 some (!decide (x2=0))
theorem k_bar_Check_1 (x1:Drinker) (r:Bool) (h:Znk x1=some r):Zq2 Tryz.prog 57 [.agg (Drinker.row x1)] (.bv r):=by
 refine Zu2 ok57 rfl rfl fun w0 H0=>?_
 rw [Znk] at h
 refine Zl2 8 ?_;dsimp only [e57,go_sem];refine ⟨by simp,?_⟩;obtain ⟨x2,ex2,h⟩:=Option.bind_eq_some_iff.1 h;refine Zz2 trivial (Zab x1 _ ex2) (h:=?_);refine Zl2 3 ?_;dsimp only [e57,go_sem];refine ⟨by simp,?_⟩;exact Zt4 (res:=fun (r:Bool)=>.bv r) ok57 h
set_option maxRecDepth 100000
set_option maxHeartbeats 4000000
def e71:EC:=.seq (.reg [(Qa 2 (.mv (.c .nl)))]) (.seq (.seq (.reg [(Qa 3 (.mv (.t 0))),(Qa 4 (.isnil false (.t 3)))]) (.ite (.t 4) (.seq (.reg [(Qa 2 (.mv (.c .nl)))]) (.ret)) (.skip))) (.seq (.reg [(Qa 5 (.bsl 95 5 0 [.iv 0,.iv 0,.iv 0,.iv 0,.iv 0] [])),(Qa 6 (.mv (.t 0))),(Qa 7 (.app 95 5 40 (.t 5) (.t 6))),(Qa 2 (.mv (.t 7)))]) (.ret)))
theorem ok71:FnOK Tryz.prog 71 Tryz.f71 e71 [.t 2] 1 7:=⟨by kernel_rfl,⟨_,rfl,by kernel_rfl⟩,by kernel_rfl,by kernel_rfl⟩
noncomputable def Zok (x1:(List Mail)):Option (List Mail):=Zc4 40 [] x1
theorem Zpk (x1:(List Mail)) (r:(List Mail)) (h:Zok x1=some r):FunO Tryz.prog 71 [.sl 5 (List.map Mail.row x1)] 95 5 (List.map Mail.row r):=by
 refine Z95 ok71 rfl fun w0 H0=>?_
 rw [Zok] at h
 refine Zl2 100 ?_
 dsimp only [e71,go_sem]
 refine ⟨by simp,?_⟩
 refine V_isnil trivial rfl (fun hn=>?_) ?_
 ·refine Zl2 100 ?_
  dsimp only [go_sem]
  refine ⟨by simp,?_⟩
  refine V_own 2 95 5 rfl rfl ?_
  dsimp only [go_sem]
  have hn:x1=[]:=by simpa using hn
  subst hn
  exact Zh5 Mail.row (e:=[]) ok71 (by simpa [Zc4] using h) rfl rfl
 ·refine Zl2 100 ?_
  dsimp only [go_sem]
  refine ⟨by simp,?_⟩
  refine Zq4 Mail.row h trivial rfl rfl rfl ?_
  refine Zl2 100 ?_
  dsimp only [go_sem]
  refine ⟨by simp,?_⟩
  exact Zh5 Mail.row ok71 (rfl:some r=some r) rfl rfl
theorem k_slices_Clone_Mail (x1:(List Mail)) (r:(List Mail)) (h:Zok x1=some r):Zq2 Tryz.prog 71 [.sl 5 (List.map Mail.row x1)] (.sl 5 (List.map Mail.row r)):=(Zpk x1 r h).sealed
def Zqk (_F:Nat) (x1:(List Mail)):Option (List Mail):=Zc4 40 [] x1
theorem le_slices_Clone_Mail {F:Nat} {x1:(List Mail)}:ole (Zqk F x1) (Zok x1):=ole_refl _
set_option maxRecDepth 100000
set_option maxHeartbeats 4000000
def Zrk:EC:=.seq (.reg [(Qa 15 (.bin .lss (.t 14) (.t 13)))]) (.seq (.ite (.t 15) (.skip) (.exit 0)) (.seq (.blk 1 (.seq (.reg [(Qa 16 (.idx 5 (.t 12) (.t 14))),(Qa 17 (.loadA 5 (.t 16))),(Qa 5 (.alloc 63 [.iv 0,.iv 0,.nl,.iv 0,.nl])),(Qb (.store 5 (.t 5) (.t 17)))]) (.seq (.reg [(Qa 18 (.fld 0 (.t 5))),(Qa 19 (.loadA 3 (.t 18))),(Qa 6 (.alloc 61 [.iv 0,.iv 0,.nl])),(Qb (.store 3 (.t 6) (.t 19)))]) (.seq (.reg [(Qa 20 (.fld 2 (.t 6))),(Qa 21 (.load (.t 20))),(Qa 22 (.call 72 [(.t 21)])),(Qa 23 (.fld 2 (.t 6))),(Qb (.store 1 (.t 23) (.t 22)))]) (.reg [(Qa 24 (.fld 0 (.t 3))),(Qa 25 (.load (.t 24))),(Qa 26 (.loadA 3 (.t 6))),(Qa 27 (.bsl 61 3 1 [.iv 0,.iv 0,.nl] [(0,(.t 26))])),(Qa 28 (.app 61 3 40 (.t 25) (.t 27))),(Qa 29 (.fld 0 (.t 3))),(Qb (.store 1 (.t 29) (.t 28)))]))))) (.reg [(Qa 30 (.bin .add (.t 14) (.c (.iv 1)))),(Qa 14 (.mv (.t 30)))])))
def e26:EC:=.seq (.reg [(Qa 1 (.box 25 2 (.t 0))),(Qa 2 (.alloc 48 [.nl,.nl]))]) (.seq (.reg [(Qa 7 (.fld 1 (.t 1))),(Qa 8 (.load (.t 7))),(Qa 9 (.call 71 [(.t 8)])),(Qa 10 (.build [.nl,.nl] [(1,1,(.t 9))])),(Qa 3 (.alloc 48 [.nl,.nl])),(Qb (.store 2 (.t 3) (.t 10)))]) (.seq (.seq (.reg [(Qa 11 (.fld 0 (.t 1))),(Qa 12 (.load (.t 11))),(Qa 13 (.len (.t 12))),(Qa 14 (.mv (.c (.iv 0))))]) (.blk 0 (.loop Zrk))) (.seq (.reg [(Qa 31 (.loadA 2 (.t 3))),(Qb (.store 2 (.t 2) (.t 31)))]) (.ret))))
theorem ok26:FnOK Tryz.prog 26 Tryz.f26 e26 [.c 2 (some 2)] 1 31:=⟨by kernel_rfl,⟨_,rfl,by kernel_rfl⟩,by kernel_rfl,by kernel_rfl⟩
noncomputable def Zsk (x2:(List Mail)):(List Diner)→Option Scene
| x20=>
 some (Scene.mk x20 x2)
noncomputable def Ztk (x1:Bar) (x2:(List Mail)):(Int×(List Diner))→Option ((Int×(List Diner)) ⊕ Scene)
| (x8,x9)=>
 ifb (decide (x8<(ln Drinker.row x1.Drinkers))) (
 (at_ x1.Drinkers x8).bind fun x10=>
 (Zaa x10.Diner.Sides).bind fun x11=>
 (Zc4 40 x9 ([(Diner.mk x10.Diner.ID x10.Diner.Phase x11)])).bind fun x12=>
 some (.inl (wr (x8+1),x12))) (
 Option.map Sum.inr ((Zsk x2) x9))
noncomputable def Zuk (x1:Bar):Option Scene:=
 (Zok x1.Mail).bind fun x2=>
 loop (Ztk x1 x2) (0,([]:List Diner))
theorem Zvk (x1:Bar) (r:Scene) (h:Zuk x1=some r):Zq2 Tryz.prog 26 [.agg (Bar.row x1)] (.agg (Scene.row r)):=by
 refine Zu2 ok26 rfl rfl fun w0 H0=>?_
 rw [Zuk] at h
 refine Zl2 9 ?_;dsimp only [e26,Zrk,go_sem];refine ⟨by simp,?_⟩;obtain ⟨x2,ex2,h⟩:=Option.bind_eq_some_iff.1 h;refine Za5 trivial (Zpk x1.Mail _ ex2) (h:=?_);refine Zl2 12 ?_;dsimp only [e26,Zrk,go_sem];refine ⟨by simp,?_⟩;refine Zi4 (fun (x20:(List Diner))=>(⟨(.any :: .any :: .ptr 1 0 :: .ptr 2 0::an 28 []),[none,some ⟨48,[.nl,.nl]⟩,some ⟨48,[.osl 1,.osl 0]⟩],[some ⟨95,5,List.map Mail.row x2⟩,some ⟨61,3,List.map Diner.row x20⟩]⟩:St)) (Zsk x2) r ?_ fun J1=>?_
 ·intro x20 h;rw [Zsk] at h;(try dsimp only);refine Zl2 5 ?_;dsimp only [e26,Zrk,go_sem];refine ⟨by simp,?_⟩;refine Z83 1 rfl ?_;dsimp only [go_sem];refine Z83 0 rfl ?_;dsimp only [go_sem];exact Zt4 (res:=fun (r:Scene)=>.agg (Scene.row r)) ok26 h
 ·refine Zl2 1 ?_;dsimp only [e26,Zrk,go_sem];refine ⟨by simp,?_⟩;refine Z64 2 0 61 3 rfl rfl rfl ?_;dsimp only [go_sem];refine Zj4 h (fun ((x8,x9):(Int×(List Diner)))=>(⟨(.any :: .any :: .ptr 1 0 :: .ptr 2 0::an 8 (.sl 5 (List.map Drinker.row x1.Drinkers) :: .iv (ln Drinker.row x1.Drinkers) :: .iv x8::an 17 [])),[none,some ⟨48,[.nl,.nl]⟩,some ⟨48,[.osl 1,.osl 0]⟩],[some ⟨95,5,List.map Mail.row x2⟩,some ⟨61,3,List.map Diner.row x9⟩]⟩:St)) (by simp [go_sem]) (by rintro ⟨x8,x9⟩;first | rfl | simp [go_sem]) ?_;rintro n1 ⟨x8,x9⟩ y1 h hin1 hout1
  rw [Ztk] at h;(try dsimp only);refine Zl2 5 ?_;dsimp only [e26,Zrk,go_sem];refine ⟨by simp,?_⟩;refine Zk4 h rfl (fun _ h=>?_) fun _ h=>?_
  ·refine Zl2 5 ?_;dsimp only [e26,Zrk,go_sem];refine ⟨by simp,?_⟩;obtain ⟨x10,ex10,h⟩:=Option.bind_eq_some_iff.1 h;refine Zn4 Drinker.row ex10 trivial rfl rfl rfl ?_;refine Zl2 15 ?_;dsimp only [e26,Zrk,go_sem];refine ⟨by simp,?_⟩;obtain ⟨x11,ex11,h⟩:=Option.bind_eq_some_iff.1 h;refine Za5 trivial (Zba x10.Diner.Sides _ ex11) (h:=?_);refine Zl2 7 ?_;dsimp only [e26,Zrk,go_sem];refine ⟨by simp,?_⟩;refine Z83 2 rfl ?_;dsimp only [go_sem];refine Zl2 1 ?_;dsimp only [e26,Zrk,go_sem];refine ⟨by simp,?_⟩
   obtain ⟨x12,ex12,h⟩:=Option.bind_eq_some_iff.1 h;refine Zq4 Diner.row ex12 trivial rfl rfl rfl ?_;refine Zl2 8 ?_;dsimp only [e26,Zrk,go_sem];refine ⟨by simp,?_⟩;refine Z54 4 1 rfl rfl rfl ?_;dsimp only [go_sem];exact Zu4 h hin1
  ·refine Zl2 1 ?_;dsimp only [e26,Zrk,go_sem];refine ⟨by simp,?_⟩;exact Zv4 J1 (s:=x9) (Zh4 h hout1)
set_option maxRecDepth 100000
set_option maxHeartbeats 4000000
def Zwk:EC:=.seq (.reg [(Qa 9 (.bin .lss (.t 8) (.t 7)))]) (.seq (.ite (.t 9) (.skip) (.exit 0)) (.seq (.blk 1 (.seq (.reg [(Qa 10 (.mv (.t 8))),(Qa 5 (.mv (.t 10)))]) (.seq (.reg [(Qa 11 (.mv (.t 1))),(Qa 12 (.mv (.t 0))),(Qa 13 (.mv (.t 5))),(Qa 14 (.idx 5 (.t 12) (.t 13))),(Qa 15 (.loadA 5 (.t 14))),(Qa 16 (.callv (.t 11) [(.t 15)]))]) (.ite (.t 16) (.seq (.reg [(Qa 17 (.mv (.t 5))),(Qa 4 (.mv (.t 17)))]) (.ret)) (.skip))))) (.reg [(Qa 18 (.bin .add (.t 8) (.c (.iv 1)))),(Qa 8 (.mv (.t 18)))])))
def e109:EC:=.seq (.reg [(Qa 4 (.mv (.c (.iv 0))))]) (.seq (.seq (.reg [(Qa 6 (.mv (.t 0))),(Qa 7 (.len (.t 6))),(Qa 8 (.mv (.c (.iv 0))))]) (.blk 0 (.loop Zwk))) (.seq (.reg [(Qa 4 (.mv (.c (.iv (-1)))))]) (.ret)))
theorem ok109:FnOK Tryz.prog 109 Tryz.f109 e109 [.t 4] 2 17:=⟨by kernel_rfl,⟨_,rfl,by kernel_rfl⟩,by kernel_rfl,by kernel_rfl⟩
noncomputable def Zxk:Unit→Option Int
| ()=>
 some (-1)
noncomputable def Zyk (x1:(List Drinker)) (p1:(Drinker→Option Bool)):Int→Option (Int ⊕ Int)
| x5=>
 ifb (decide (x5<(ln Drinker.row x1))) (
 (at_ x1 x5).bind fun x6=>
 (p1 x6).bind fun x7=>
 ifb x7 (
 Option.map Sum.inr (some x5)) (
 some (.inl (wr (x5+1))))) (
 Option.map Sum.inr (Zxk ()))
noncomputable def Zzk (x1:(List Drinker)) (p1:(Drinker→Option Bool)):Option Int:=
 loop (Zyk x1 p1) 0
theorem Z0l (x1:(List Drinker)) (g1:Nat) (caps1:List AV) (p1:(Drinker→Option Bool)) (hc1:CloOK Tryz.prog g1 caps1 (fun z=>[.agg (Drinker.row z)]) p1 (fun z=>.bv z)) (r:Int) (h:Zzk x1 p1=some r):Zq2 Tryz.prog 109 [.sl 5 (List.map Drinker.row x1),.clo g1 caps1] (.iv r):=by
 refine Zu2 ok109 rfl rfl fun w0 H0=>?_
 rw [Zzk] at h
 refine Zl2 11 ?_;dsimp only [e109,Zwk,go_sem];refine ⟨by simp,?_⟩;refine Zi4 (fun (_:Unit)=>(⟨(an 19 []),[],[]⟩:St)) Zxk r ?_ fun J1=>?_
 ·rintro ⟨⟩ h;rw [Zxk] at h;(try dsimp only);refine Zl2 4 ?_;dsimp only [e109,Zwk,go_sem];refine ⟨by simp,?_⟩;exact Zt4 (res:=fun (r:Int)=>.iv r) ok109 h
 ·refine Zl2 1 ?_;dsimp only [e109,Zwk,go_sem];refine ⟨by simp,?_⟩;refine Zj4 h (fun (x5:Int)=>(⟨(.sl 5 (List.map Drinker.row x1) :: .clo g1 caps1::an 5 (.iv (ln Drinker.row x1) :: .iv x5::an 10 [])),[],[]⟩:St)) (by simp [go_sem]) (by intro x5;first | rfl | simp [go_sem,Za4 _ hc1.pu]) ?_;rintro n1 x5 y1 h hin1 hout1;rw [Zyk] at h;(try dsimp only);refine Zl2 5 ?_;dsimp only [e109,Zwk,go_sem];refine ⟨by simp,?_⟩;refine Zk4 h rfl (fun _ h=>?_) fun _ h=>?_
  ·refine Zl2 13 ?_;dsimp only [e109,Zwk,go_sem];refine ⟨by simp,?_⟩;obtain ⟨x6,ex6,h⟩:=Option.bind_eq_some_iff.1 h;refine Zn4 Drinker.row ex6 trivial rfl rfl rfl ?_;refine Zl2 1 ?_;dsimp only [e109,Zwk,go_sem];refine ⟨by simp,?_⟩;obtain ⟨x7,ex7,h⟩:=Option.bind_eq_some_iff.1 h;refine Zz4 trivial rfl hc1 (x:=x6) ex7 (by first | exact Zb4 _ | simp [go_sem]) (by first | rfl | simp [go_sem,hc1.pu]) ?_;refine Zl2 1 ?_;dsimp only [e109,Zwk,go_sem];refine ⟨by simp,?_⟩;refine Zk4 h rfl (fun _ h=>?_) fun _ h=>?_
   ·refine Zl2 5 ?_;dsimp only [e109,Zwk,go_sem];refine ⟨by simp,?_⟩;exact Zt4 (res:=fun (r:Int)=>.iv r) ok109 (Zh4 h hout1)
   ·refine Zl2 6 ?_;dsimp only [e109,Zwk,go_sem];refine ⟨by simp,?_⟩;exact Zu4 h hin1 (hok:=by first | rfl | simp [go_sem,Za4 _ hc1.pu])
  ·refine Zl2 1 ?_;dsimp only [e109,Zwk,go_sem];refine ⟨by simp,?_⟩;exact Zv4 J1 (s:=()) (Zh4 h hout1) (hok:=by first | rfl | simp [go_sem,Za4 _ hc1.pu])
set_option maxRecDepth 100000
set_option maxHeartbeats 4000000
def e60:EC:=.seq (.reg [(Qa 4 (.mv (.c .ff)))]) (.seq (.reg [(Qa 5 (.mv (.t 0))),(Qa 6 (.mv (.t 1))),(Qa 7 (.call 109 [(.t 5),(.t 6)])),(Qa 8 (.bin .geq (.t 7) (.c (.iv 0)))),(Qa 4 (.mv (.t 8)))]) (.ret))
theorem ok60:FnOK Tryz.prog 60 Tryz.f60 e60 [.t 4] 2 7:=⟨by kernel_rfl,⟨_,rfl,by kernel_rfl⟩,by kernel_rfl,by kernel_rfl⟩
noncomputable def Z1l (x1:(List Drinker)) (p1:(Drinker→Option Bool)):Option Bool:=
 (Zzk x1 p1).bind fun x2=>
 some (decide (0≤x2))
theorem Z2l (x1:(List Drinker)) (g1:Nat) (caps1:List AV) (p1:(Drinker→Option Bool)) (hc1:CloOK Tryz.prog g1 caps1 (fun z=>[.agg (Drinker.row z)]) p1 (fun z=>.bv z)) (r:Bool) (h:Z1l x1 p1=some r):Zq2 Tryz.prog 60 [.sl 5 (List.map Drinker.row x1),.clo g1 caps1] (.bv r):=by
 refine Zu2 ok60 rfl rfl fun w0 H0=>?_
 rw [Z1l] at h
 refine Zl2 8 ?_;dsimp only [e60,go_sem];refine ⟨by simp,?_⟩;obtain ⟨x2,ex2,h⟩:=Option.bind_eq_some_iff.1 h;refine Zz2 trivial (Z0l x1 _ _ p1 hc1 _ ex2) (hp:=(by first | rfl | simp [go_sem,hc1.pu])) (h:=?_);refine Zl2 3 ?_;dsimp only [e60,go_sem];refine ⟨by simp,?_⟩;exact Zt4 (res:=fun (r:Bool)=>.bv r) ok60 h
set_option maxRecDepth 100000
set_option maxHeartbeats 4000000
def e17:EC:=.seq (.reg [(Qa 1 (.box 25 2 (.t 0))),(Qa 2 (.mv (.c (.iv 0))))]) (.seq (.reg [(Qa 3 (.mv (.c (.clo 57 []))))]) (.seq (.seq (.reg [(Qa 4 (.loadA 2 (.t 1))),(Qa 5 (.call 26 [(.t 4)])),(Qa 6 (.call 59 [(.t 5)])),(Qa 7 (.bin .neq (.t 6) (.c (.iv 0)))),(Qa 8 (.mv (.t 7))),(Qg 9 8 false (.fld 0 (.t 1))),(Qg 10 8 false (.load (.t 9))),(Qg 11 8 false (.mv (.t 3))),(Qg 12 8 false (.call 60 [(.t 10),(.t 11)])),(Qa 13 (.pick (.t 8) (.c .tt) (.t 12)))]) (.ite (.t 13) (.seq (.reg [(Qa 2 (.mv (.c (.iv 160))))]) (.ret)) (.skip))) (.seq (.reg [(Qa 2 (.mv (.c (.iv 0))))]) (.ret))))
theorem ok17:FnOK Tryz.prog 17 Tryz.f17 e17 [.t 2] 1 13:=⟨by kernel_rfl,⟨_,rfl,by kernel_rfl⟩,by kernel_rfl,by kernel_rfl⟩
noncomputable def Z3l:Bool→Option Int
| x5=>
 ifb x5 (
 some 160) (
 some 0)
noncomputable def Z4l (x1:Bar):Option Int:=
 (Zuk x1).bind fun x2=>
 (Zdi x2).bind fun x3=>
 ifb (!decide (x3=0)) (
 Z3l true) (
 (Z1l x1.Drinkers ((fun z=>Znk z))).bind fun x4=>
 Z3l x4)
theorem Z5l (x1:Bar) (r:Int) (h:Z4l x1=some r):Zq2 Tryz.prog 17 [.agg (Bar.row x1)] (.iv r):=by
 refine Zu2 ok17 rfl rfl fun w0 H0=>?_
 rw [Z4l] at h
 refine Zl2 13 ?_;dsimp only [e17,go_sem];refine ⟨by simp,?_⟩;obtain ⟨x2,ex2,h⟩:=Option.bind_eq_some_iff.1 h;refine Zz2 trivial (Zvk x1 _ ex2) (h:=?_);obtain ⟨x3,ex3,h⟩:=Option.bind_eq_some_iff.1 h;refine Zz2 trivial (k_table_Check x2 _ ex3) (h:=?_);refine Zl2 2 ?_;dsimp only [e17,go_sem];refine ⟨by simp,?_⟩;refine Zi4 (fun (x5:Bool)=>(⟨(an 13 [.bv x5]),[],[]⟩:St)) Z3l r ?_ fun J1=>?_
 ·intro x5 h;rw [Z3l] at h;(try dsimp only);refine Zk4 h rfl (fun _ h=>?_) fun _ h=>?_
  ·refine Zl2 4 ?_;dsimp only [e17,go_sem];refine ⟨by simp,?_⟩;exact Zt4 (res:=fun (r:Int)=>.iv r) ok17 h
  ·refine Zl2 5 ?_;dsimp only [e17,go_sem];refine ⟨by simp,?_⟩;exact Zt4 (res:=fun (r:Int)=>.iv r) ok17 h
 ·refine Zs4 8 h rfl (fun _ h=>?_) fun _ h=>?_
  ·dsimp only [go_sem];refine Zl2 6 ?_;dsimp only [e17,go_sem];refine ⟨by simp,?_⟩;exact Zv4 J1 (s:=true) h
  ·dsimp only [go_sem];refine Zl2 3 ?_;dsimp only [e17,go_sem];refine ⟨by simp,?_⟩;obtain ⟨x4,ex4,h⟩:=Option.bind_eq_some_iff.1 h;refine Zz2 trivial (Z2l x1.Drinkers _ _ ((fun z=>Znk z)) ⟨by kernel_rfl,rfl,fun z r hz=>k_bar_Check_1 z r hz⟩ _ ex4) (h:=?_);refine Zl2 2 ?_;dsimp only [e17,go_sem];refine ⟨by simp,?_⟩;exact Zv4 J1 (s:=x4) h
set_option maxRecDepth 100000
set_option maxHeartbeats 4000000
def e64:EC:=.seq (.reg [(Qa 2 (.box 25 2 (.t 0))),(Qa 4 (.mv (.c .ff)))]) (.seq (.reg [(Qa 5 (.mv (.t 1))),(Qa 6 (.bin .geq (.t 5) (.c (.iv 0)))),(Qa 7 (.mv (.t 6))),(Qg 8 7 true (.mv (.t 1))),(Qg 9 7 true (.fld 0 (.t 2))),(Qg 10 7 true (.load (.t 9))),(Qg 11 7 true (.len (.t 10))),(Qg 12 7 true (.bin .lss (.t 8) (.t 11))),(Qa 13 (.pick (.t 7) (.t 12) (.c .ff))),(Qa 4 (.mv (.t 13)))]) (.ret))
theorem ok64:FnOK Tryz.prog 64 Tryz.f64 e64 [.t 4] 2 12:=⟨by kernel_rfl,⟨_,rfl,by kernel_rfl⟩,by kernel_rfl,by kernel_rfl⟩
noncomputable def Z6l:Bool→Option Bool
| x3=>
 some x3
noncomputable def Z7l (x1:Bar) (x2:Int):Option Bool:=
 ifb (decide (0≤x2)) (
 Z6l (decide (x2<(ln Drinker.row x1.Drinkers)))) (
 Z6l false)
theorem Z8l (x1:Bar) (x2:Int) (r:Bool) (h:Z7l x1 x2=some r):Zq2 Tryz.prog 64 [.agg (Bar.row x1),.iv x2] (.bv r):=by
 refine Zu2 ok64 rfl rfl fun w0 H0=>?_
 rw [Z7l] at h
 refine Zl2 10 ?_;dsimp only [e64,go_sem];refine ⟨by simp,?_⟩;refine Zi4 (fun (x3:Bool)=>(⟨(an 4 (.bv x3::an 9 [])),[],[]⟩:St)) Z6l r ?_ fun J1=>?_
 ·intro x3 h;rw [Z6l] at h;(try dsimp only);exact Zt4 (res:=fun (r:Bool)=>.bv r) ok64 h
 ·refine Zs4 7 h rfl (fun _ h=>?_) fun _ h=>?_
  ·dsimp only [go_sem];refine Zl2 8 ?_;dsimp only [e64,go_sem];refine ⟨by simp,?_⟩;exact Zv4 J1 (s:=decide (x2<(ln Drinker.row x1.Drinkers))) h
  ·dsimp only [go_sem];refine Zl2 8 ?_;dsimp only [e64,go_sem];refine ⟨by simp,?_⟩;exact Zv4 J1 (s:=false) h
end NX
end Go.Proofs.YtacfbmldajmjiaaGreat
