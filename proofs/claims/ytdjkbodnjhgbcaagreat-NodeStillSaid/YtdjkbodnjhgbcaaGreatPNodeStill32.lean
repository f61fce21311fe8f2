/-
  Plain laws: nodes: rows that rise, and what is laid into them. No statement of the seat is proved here.
-/
import Derived.Test.YtdjkbodnjhgbcaaGreatPNodeStill31
namespace Go.Proofs.YtdjkbodnjhgbcaaGreat
namespace NX
open Go
def Z0r {α:Type} (l:List α) (key:α→Int) (p:Int):Nat:=(l.takeWhile fun x=>decide (key x<p)).length
theorem tw_len {α:Type} (q:α→Bool):∀(l:List α) (k:Nat),k≤l.length→(∀i x,l[i]?=some x→i<k→q x=true)→(∀x,l[k]?=some x→q x=false)→(l.takeWhile q).length=k
 | [],k,h,_,_=>by simp at h;simp [h]
 | x::l,0,_,_,h=>by simp [h x rfl]
 | x::l,k+1,hk,h1,h2=>by
   rw [List.takeWhile_cons,if_pos (h1 0 x rfl (by omega)),List.length_cons,tw_len q l k (by simpa using hk) (fun i y hy hi=>h1 (i+1) y (by simpa using hy) (by omega)) fun y hy=>h2 y (by simpa using hy)]
theorem bs_loop {α β:Type} (l:List α) (key:α→Int) (p:Int) (body:Int×Int→Option ((Int×Int) ⊕ β)) (fin:Nat→Option β) (hs:l.Pairwise fun x y=>key x<key y)
  (h1:∀(lo hi:Nat) x,lo<hi→hi≤l.length→l[(lo+hi) / 2]?=some x→body ((lo:Int),(hi:Int))=some (.inl (if key x<p then ((((lo+hi) / 2+1:Nat):Int),(hi:Int)) else ((lo:Int),(((lo+hi) / 2:Nat):Int)))))
  (h2:∀lo:Nat,lo≤l.length→body ((lo:Int),(lo:Int))=(fin lo).map .inr):
  ∀(n lo hi:Nat),hi-lo≤n→lo≤hi→hi≤l.length→(∀i x,l[i]?=some x→i<lo→key x<p)→(∀i x,l[i]?=some x→hi≤i→¬key x<p)→loop body ((lo:Int),(hi:Int))=fin (Z0r l key p):=by
 intro n
 have stop:∀lo,lo≤l.length→(∀i x,l[i]?=some x→i<lo→key x<p)→(∀i x,l[i]?=some x→lo≤i→¬key x<p)→loop body ((lo:Int),(lo:Int))=fin (Z0r l key p):=by
  intro lo hl a b
  have:Z0r l key p=lo:=tw_len _ l lo hl (fun i x hx hi=>DT (a i x hx hi)) fun x hx=>DN (b lo x hx (Nat.le_refl _))
  rw [loop_eq,h2 lo hl,this]
  cases fin lo<;>rfl
 have mono:∀ {i j:Nat} {x y:α},l[i]?=some x→l[j]?=some y→i<j→key x<key y:=by
  intro i j x y hx hy h8
  rw [List.pairwise_iff_getElem] at hs
  obtain ⟨a,rfl⟩:=List.getElem?_eq_some_iff.1 hx
  obtain ⟨b,rfl⟩:=List.getElem?_eq_some_iff.1 hy
  exact hs i j a b h8
 induction n with
 | zero=>
   intro lo hi hn h9 h6 a b
   have:lo=hi:=by omega
   subst this
   exact stop lo h6 a b
 | succ n ih=>
   intro lo hi hn h9 h6 a b
   by_cases he:lo=hi
   ·subst he;exact stop lo h6 a b
   ·have hm:(lo+hi) / 2<l.length:=by omega
    obtain ⟨x,hx⟩:∃x,l[(lo+hi) / 2]?=some x:=⟨_,List.getElem?_eq_getElem hm⟩
    rw [loop_eq,h1 lo hi x (by omega) h6 hx]
    by_cases hq:key x<p
    ·rw [if_pos hq]
     refine ih ((lo+hi) / 2+1) hi (by omega) (by omega) h6 (fun i y hy hi'=>?_) b
     by_cases e:i=(lo+hi) / 2
     ·subst e;rw [hx] at hy;simp at hy;subst hy;exact hq
     ·have:=mono hy hx (by omega);omega
    ·rw [if_neg hq]
     refine ih lo ((lo+hi) / 2) (by omega) (by omega) (by omega) a fun i y hy hi'=>?_
     by_cases e:i=(lo+hi) / 2
     ·subst e;rw [hx] at hy;simp at hy;subst hy;exact hq
     ·have:=mono hx hy (by omega);omega
theorem mid_wr {lo hi:Nat} (h:lo+hi≤4000000):wr (Int.fdiv (kw .u64 (wr ((lo:Int)+hi))) (2 ^ min (Int.toNat 1) (IntKind.bits .u64)))=(((lo+hi) / 2:Nat):Int):=by
 have e1:wr ((lo:Int)+hi)=((lo+hi:Nat):Int):=by rw [Zxn (by omega) (by omega)];omega
 have e2:kw .u64 ((lo+hi:Nat):Int)=((lo+hi:Nat):Int):=by
  show IntKind.u64.wrap _=_
  have e:IntKind.u64.wrap ((lo+hi:Nat):Int)=((lo+hi:Nat):Int) % 18446744073709551616:=by
   simp [IntKind.wrap,IntKind.bits,IntKind.signed]
  rw [e];omega
 have e3:(2:Int) ^ min (Int.toNat 1) (IntKind.bits .u64)=2:=by decide
 rw [e1,e2,e3]
 have e4:Int.fdiv ((lo+hi:Nat):Int) 2=(((lo+hi) / 2:Nat):Int):=by rw [Int.fdiv_eq_ediv_of_nonneg _ (by omega)];omega
 rw [e4,Zxn (by omega) (by omega)]
theorem s_BS_Known (l:List KE) (p:Int) (hl:l.length≤1000000) (hs:l.Pairwise fun x y=>x.Peer<y.Peer) (hr:∀x∈l, -100000≤x.Peer∧x.Peer≤100000) (hp: -100000≤p∧p≤100000):
  Ze9 l p (fun z=>Zg9 z.1 z.2)=some ((Z0r l (·.Peer) p:Int),match l[Z0r l (·.Peer) p]? with | some x=>decide (x.Peer=p) | none=>false):=by
 have cmp:∀x∈l,Zg9 x p=some (x.Peer-p):=fun x hx=>by
  have:=hr x hx
  simp only [Zg9]
  rw [Zxn (by omega) (by omega)]
 have fin:∀k:Nat,k≤l.length→Zc9 l p (fun z=>Zg9 z.1 z.2) (k:Int)=some ((k:Int),match l[k]? with | some x=>decide (x.Peer=p) | none=>false):=fun k hk=>by
  dsimp only [Zc9]
  cases hx:l[k]? with
  | none=>
    have:l.length≤k:=by simpa using hx
    have:k=l.length:=by omega
    subst this
    rw [Z1o,Zvn];rfl
  | some x=>
    rw [Z0o hx,Zun,Zyn hx,OB,cmp x (List.mem_of_getElem? hx),OB]
    dsimp only [Zb9]
    rw [show decide (x.Peer-p=0)=decide (x.Peer=p) from decide_eq_decide.2 (by omega)]
 unfold Ze9
 rw [ln_eq]
 refine bs_loop l (·.Peer) p _ (fun k=>some ((k:Int),match l[k]? with | some x=>decide (x.Peer=p) | none=>false)) hs (fun lo hi x h1 h2 hx=>?_) (fun lo h6=>?_) l.length 0 l.length (by omega) (by omega) (by omega) (fun i x _ hi=>by omega) (fun i x hx hi=>by
  have:=(List.getElem?_eq_some_iff.1 hx).1;omega)
 ·dsimp only [Zd9]
  rw [DT (show (lo:Int)<hi by omega),Zun,mid_wr (by omega),Zyn hx,OB,cmp x (List.mem_of_getElem? hx),OB]
  by_cases hq:x.Peer<p
  ·rw [if_pos hq,DT (show x.Peer-p<0 by omega),Zun,Z2o (by omega)]
  ·rw [if_neg hq,DN (show ¬x.Peer-p<0 by omega),Zvn]
 ·dsimp only [Zd9]
  rw [DN (show ¬(lo:Int)<lo by omega),Zvn,fin lo h6]
theorem s_BS_Side (l:List Side) (p:Int) (hl:l.length≤1000000) (hs:l.Pairwise fun x y=>x.Peer<y.Peer) (hr:∀x∈l, -100000≤x.Peer∧x.Peer≤100000) (hp: -100000≤p∧p≤100000):
  Z79 l p (fun z=>Z99 z.1 z.2)=some ((Z0r l (·.Peer) p:Int),match l[Z0r l (·.Peer) p]? with | some x=>decide (x.Peer=p) | none=>false):=by
 have cmp:∀x∈l,Z99 x p=some (x.Peer-p):=fun x hx=>by
  have:=hr x hx
  simp only [Z99]
  rw [Zxn (by omega) (by omega)]
 have fin:∀k:Nat,k≤l.length→Z59 l p (fun z=>Z99 z.1 z.2) (k:Int)=some ((k:Int),match l[k]? with | some x=>decide (x.Peer=p) | none=>false):=fun k hk=>by
  dsimp only [Z59]
  cases hx:l[k]? with
  | none=>
    have:l.length≤k:=by simpa using hx
    have:k=l.length:=by omega
    subst this
    rw [Z1o,Zvn];rfl
  | some x=>
    rw [Z0o hx,Zun,Zyn hx,OB,cmp x (List.mem_of_getElem? hx),OB]
    dsimp only [Z49]
    rw [show decide (x.Peer-p=0)=decide (x.Peer=p) from decide_eq_decide.2 (by omega)]
 unfold Z79
 rw [ln_eq]
 refine bs_loop l (·.Peer) p _ (fun k=>some ((k:Int),match l[k]? with | some x=>decide (x.Peer=p) | none=>false)) hs (fun lo hi x h1 h2 hx=>?_) (fun lo h6=>?_) l.length 0 l.length (by omega) (by omega) (by omega) (fun i x _ hi=>by omega) (fun i x hx hi=>by
  have:=(List.getElem?_eq_some_iff.1 hx).1;omega)
 ·dsimp only [Z69]
  rw [DT (show (lo:Int)<hi by omega),Zun,mid_wr (by omega),Zyn hx,OB,cmp x (List.mem_of_getElem? hx),OB]
  by_cases hq:x.Peer<p
  ·rw [if_pos hq,DT (show x.Peer-p<0 by omega),Zun,Z2o (by omega)]
  ·rw [if_neg hq,DN (show ¬x.Peer-p<0 by omega),Zvn]
 ·dsimp only [Z69]
  rw [DN (show ¬(lo:Int)<lo by omega),Zvn,fin lo h6]
def putS (S:List Side) (x:Side):List Side:=S.take (Z0r S (·.Peer) x.Peer)++x::S.drop (Z0r S (·.Peer) x.Peer)
def Z1r (K:List KE) (p e:Int):List KE:=
 match K[Z0r K (·.Peer) p]? with
 | some k=>if k.Peer=p then K.set (Z0r K (·.Peer) p) ⟨p,e⟩ else K.take (Z0r K (·.Peer) p)++⟨p,e⟩::K.drop (Z0r K (·.Peer) p)
 | none=>K++[⟨p,e⟩]
theorem Z2r {α:Type} (l:List α) (key:α→Int) (p:Int):Z0r l key p≤l.length:=by
 unfold Z0r;exact (List.takeWhile_sublist _).length_le
theorem ins_ok {α:Type} {b:Nat} (l:List α) (k:Nat) (v:α) (hb:b≤1000) (hk:k≤l.length) (hl:l.length≤1000000):insS_ b l (k:Int) [v]=some (l.take k++v::l.drop k):=by
 show ins_ b l (k:Int) v=_
 unfold ins_
 have h2:(l.length+1)*b≤1000001*1000:=Nat.mul_le_mul (by omega) hb
 rw [if_pos ⟨by omega,by omega,by omega,by omega⟩,Int.toNat_natCast]
theorem know_core (K:List KE) (p e:Int) (hl:K.length≤1000000) (hs:K.Pairwise fun x y=>x.Peer<y.Peer) (hr:∀x∈K, -100000≤x.Peer∧x.Peer≤100000) (hp: -100000≤p∧p≤100000):
  ((Ze9 K p (fun z=>Zg9 z.1 z.2)).bind fun x14=>
    ifb (!x14.2) ((Zsg K x14.1 [⟨p,0⟩]).bind fun x15=>(at_ x15 x14.1).bind fun x17=>some (x15.set (Int.toNat x14.1) ⟨x17.Peer,e⟩)) ((at_ K x14.1).bind fun x17=>some (K.set (Int.toNat x14.1) ⟨x17.Peer,e⟩)))=some (Z1r K p e):=by
 rw [s_BS_Known K p hl hs hr hp,OB]
 have hc:=Z2r K (·.Peer) p
 have h6:(K.take (Z0r K (·.Peer) p)).length=Z0r K (·.Peer) p:=by rw [List.length_take];omega
 have ins:∀y:KE,at_ (K.take (Z0r K (·.Peer) p)++y::K.drop (Z0r K (·.Peer) p)) (Z0r K (·.Peer) p:Int)=some y:=fun y=>by
  have:=Zfo (l:=K.take (Z0r K (·.Peer) p)++y::K.drop (Z0r K (·.Peer) p)) (a:=K.take (Z0r K (·.Peer) p)) (b:=K.drop (Z0r K (·.Peer) p)) (x:=y) rfl
  rwa [h6] at this
 have st:∀y z:KE,(K.take (Z0r K (·.Peer) p)++y::K.drop (Z0r K (·.Peer) p)).set (Z0r K (·.Peer) p) z=K.take (Z0r K (·.Peer) p)++z::K.drop (Z0r K (·.Peer) p):=fun y z=>by
  have:=Zgo (K.take (Z0r K (·.Peer) p)) (K.drop (Z0r K (·.Peer) p)) y z
  rwa [h6,Int.toNat_natCast] at this
 have new:ifb (!false) ((Zsg K (Z0r K (·.Peer) p:Int) [⟨p,0⟩]).bind fun x15=>(at_ x15 (Z0r K (·.Peer) p:Int)).bind fun x17=>some (x15.set (Int.toNat (Z0r K (·.Peer) p:Int)) ⟨x17.Peer,e⟩)) ((at_ K (Z0r K (·.Peer) p:Int)).bind fun x17=>some (K.set (Int.toNat (Z0r K (·.Peer) p:Int)) ⟨x17.Peer,e⟩))=some (K.take (Z0r K (·.Peer) p)++⟨p,e⟩::K.drop (Z0r K (·.Peer) p)):=by
  unfold Zsg
  rw [Bool.not_false,Zun,ins_ok K _ _ (by omega) hc hl,OB,ins,OB,Int.toNat_natCast,st]
 unfold Z1r
 dsimp only
 cases hx:K[Z0r K (·.Peer) p]? with
 | none=>
   rw [new]
   have h1:K.length≤Z0r K (·.Peer) p:=by simpa using hx
   have h2:Z0r K (·.Peer) p=K.length:=by omega
   rw [h2];simp
 | some k=>
   dsimp only
   by_cases hq:k.Peer=p
   ·rw [DT hq,if_pos hq,Bool.not_true,Zvn,Zyn hx,OB,Int.toNat_natCast,hq]
   ·rw [DN hq,if_neg hq];exact new
structure RowK (K:List KE):Prop where
 len:K.length≤1000
 up:K.Pairwise fun x y=>x.Peer<y.Peer
 rng:∀x∈K, -100000≤x.Peer∧x.Peer≤100000
structure RowS (S:List Side):Prop where
 len:S.length≤1000
 up:S.Pairwise fun x y=>x.Peer<y.Peer
 rng:∀x∈S, -100000≤x.Peer∧x.Peer≤100000
theorem putS_core (S:List Side) (x:Side) (h:RowS S) (hp: -100000≤x.Peer∧x.Peer≤100000):
  ∃z,Z79 S x.Peer (fun z=>Z99 z.1 z.2)=some ((Z0r S (·.Peer) x.Peer:Int),z)∧Zqg S (Z0r S (·.Peer) x.Peer:Int) [x]=some (putS S x):=by
 have hl:=h.len
 refine ⟨_,s_BS_Side S x.Peer (by omega) h.up h.rng hp,?_⟩
 unfold Zqg
 exact ins_ok S _ _ (by omega) (Z2r _ _ _) (by omega)
theorem s_put1 (x:Side) (b c d e f:Int) (S:List Side) (N:List Int) (B:List Sess) (K:List KE) (O:List Int) (A:List KE) (hS:RowS S) (hK:RowK K) (hp: -100000≤x.Peer∧x.Peer≤100000):
  Zmi x b c d e f S N B K O A=some (putS S x,Z1r K x.Peer x.Epoch):=by
 obtain ⟨z,h1,h2⟩:=putS_core S x hS hp
 have h3:=know_core K x.Peer x.Epoch (by have:=hK.len;omega) hK.up hK.rng hp
 dsimp only [Zmi]
 rw [h1,OB,h2,OB]
 dsimp only [Zyh,Zxh]
 rw [h3,OB]
theorem s_put4 (x:Side) (b c d e:Int) (B:List Sess) (O:List Int) (f:Int) (S:List Side) (N:List Int) (K A:List KE) (E:List Mail) (V:List Event) (hS:RowS S) (hK:RowK K) (hp: -100000≤x.Peer∧x.Peer≤100000):
  Zzi x b c d e B O f S N K A E V=some (putS S x,Z1r K x.Peer x.Epoch):=by
 obtain ⟨z,h1,h2⟩:=putS_core S x hS hp
 have h3:=know_core K x.Peer x.Epoch (by have:=hK.len;omega) hK.up hK.rng hp
 dsimp only [Zzi]
 rw [h1,OB,h2,OB]
 dsimp only [Z5i,Z4i]
 rw [h3,OB]
theorem cnt_take {α:Type} (l:List α) (key:α→Int) (p:Int):l.take (Z0r l key p)=l.takeWhile (fun x=>decide (key x<p))∧l.drop (Z0r l key p)=l.dropWhile fun x=>decide (key x<p):=by
 have h:=List.takeWhile_append_dropWhile (p:=fun x=>decide (key x<p)) (l:=l)
 have g:∀(a b:List α),a++b=l→l.take a.length=a∧l.drop a.length=b:=by
  rintro a b rfl;simp
 exact g _ _ h
theorem lt_take {α:Type} {l:List α} {key:α→Int} {p:Int} {x:α} (h:x∈l.take (Z0r l key p)):key x<p:=by
 rw [(cnt_take l key p).1] at h
 have:∀(l:List α),x∈l.takeWhile (fun x=>decide (key x<p))→key x<p:=by
  intro l
  induction l with
  | nil=>simp
  | cons y l ih=>
    rw [List.takeWhile_cons]
    split
    ·rename_i hy
     intro h
     rcases List.mem_cons.1 h with rfl | h
     ·simpa using hy
     ·exact ih h
    ·simp
 exact this l h
theorem ge_drop {α:Type} {key:α→Int} {p:Int}:∀ {l:List α} {x:α},l.Pairwise (fun x y=>key x<key y)→x∈l.drop (Z0r l key p)→p≤key x:=by
 intro l
 induction l with
 | nil=>simp
 | cons y l ih=>
   intro x hs h
   rw [(cnt_take _ key p).2,List.dropWhile_cons] at h
   rw [List.pairwise_cons] at hs
   split at h
   ·rw [←(cnt_take l key p).2] at h
    exact ih hs.2 h
   ·rename_i hy
    have hy:¬key y<p:=by simpa using hy
    rcases List.mem_cons.1 h with rfl | h
    ·omega
    ·have:=hs.1 x h;omega
theorem mem_td {α:Type} (l:List α) (k:Nat) (x:α):x∈l↔x∈l.take k∨x∈l.drop k:=by
 conv=>lhs;rw [←List.take_append_drop k l]
 exact List.mem_append
theorem ins_pw {α:Type} {l:List α} {key:α→Int} {p:Int} {x:α} (hs:l.Pairwise fun x y=>key x<key y) (hx:key x=p) (hn:∀y∈l,key y≠p):(l.take (Z0r l key p)++x::l.drop (Z0r l key p)).Pairwise fun x y=>key x<key y:=by
 rw [List.pairwise_append]
 refine ⟨hs.sublist (List.take_sublist _ _),?_,?_⟩
 ·rw [List.pairwise_cons]
  refine ⟨fun y hy=>?_,hs.sublist (List.drop_sublist _ _)⟩
  have h1:=ge_drop hs hy
  have h2:=hn y (List.mem_of_mem_drop hy)
  omega
 ·intro y hy z hz
  have h1:=lt_take hy
  rcases List.mem_cons.1 hz with rfl | hz
  ·omega
  ·have h2:=ge_drop hs hz;omega
theorem Z3r {S:List Side} {x y:Side}:y∈putS S x↔y=x∨y∈S:=by
 unfold putS
 rw [mem_td S (Z0r S (·.Peer) x.Peer) y,List.mem_append,List.mem_cons]
 constructor
 ·rintro (h | h | h)
  ·exact .inr (.inl h)
  ·exact .inl h
  ·exact .inr (.inr h)
 ·rintro (h | h | h)
  ·exact .inr (.inl h)
  ·exact .inl h
  ·exact .inr (.inr h)
theorem putS_len (S:List Side) (x:Side):(putS S x).length=S.length+1:=by
 have:=Z2r S (·.Peer) x.Peer
 unfold putS
 rw [List.length_append,List.length_cons,List.length_take,List.length_drop];omega
theorem RowS.put {S:List Side} {x:Side} (h:RowS S) (hl:S.length<1000) (hn:∀y∈S,y.Peer≠x.Peer) (hp: -100000≤x.Peer∧x.Peer≤100000):RowS (putS S x):=
 ⟨by rw [putS_len];omega,ins_pw h.up rfl hn,fun y hy=>by
   rcases Z3r.1 hy with rfl | hy
   ·exact hp
   ·exact h.rng y hy⟩
theorem Z4r {K:List KE} (h:K.Pairwise fun x y=>x.Peer<y.Peer) (p e:Int):
  (∃k,K[Z0r K (·.Peer) p]?=some k∧k.Peer=p∧Z1r K p e=K.set (Z0r K (·.Peer) p) ⟨p,e⟩)∨(∀k∈K,k.Peer≠p)∧Z1r K p e=K.take (Z0r K (·.Peer) p)++⟨p,e⟩::K.drop (Z0r K (·.Peer) p):=by
 have hc:=Z2r K (·.Peer) p
 unfold Z1r
 cases hx:K[Z0r K (·.Peer) p]? with
 | none=>
   right
   have h1:K.length≤Z0r K (·.Peer) p:=by simpa using hx
   have h2:Z0r K (·.Peer) p=K.length:=by omega
   refine ⟨fun k hk=>?_,by rw [h2];simp⟩
   have:k∈K.take (Z0r K (·.Peer) p):=by rw [h2,List.take_length];exact hk
   have:=lt_take this
   omega
 | some k=>
   dsimp only
   by_cases hq:k.Peer=p
   ·left;exact ⟨k,rfl,hq,by rw [if_pos hq]⟩
   ·right
    refine ⟨fun y hy=>?_,by rw [if_neg hq]⟩
    rcases (mem_td K (Z0r K (·.Peer) p) y).1 hy with hy | hy
    ·have:=lt_take hy;omega
    ·obtain ⟨h6,hk⟩:=List.getElem?_eq_some_iff.1 hx
     have hd:K.drop (Z0r K (·.Peer) p)=k::K.drop (Z0r K (·.Peer) p+1):=by rw [List.drop_eq_getElem_cons h6,hk]
     have h8:k∈K.drop (Z0r K (·.Peer) p):=by rw [hd];simp
     have h9:=ge_drop h h8
     have hs:(K.drop (Z0r K (·.Peer) p)).Pairwise fun x y=>x.Peer<y.Peer:=h.sublist (List.drop_sublist _ _)
     rw [hd] at hy hs
     rcases List.mem_cons.1 hy with rfl | hy
     ·exact hq
     ·have:=(List.pairwise_cons.1 hs).1 y hy;omega
theorem Z5r {K:List KE} (h:K.Pairwise fun x y=>x.Peer<y.Peer) {p e:Int} {k:KE}:k∈Z1r K p e→k=⟨p,e⟩∨k∈K∧k.Peer≠p:=by
 intro hk
 rcases Z4r h p e with ⟨q,h1,h2,h3⟩ | ⟨h1,h2⟩
 ·rw [h3] at hk
  rw [List.mem_iff_getElem?] at hk
  obtain ⟨i,hi⟩:=hk
  rw [List.getElem?_set] at hi
  split at hi
  ·split at hi
   ·simp at hi;exact .inl hi.symm
   ·simp at hi
  ·rename_i hne
   refine .inr ⟨List.mem_of_getElem? hi,fun e=>?_⟩
   have mono:=List.pairwise_iff_getElem.1 h
   obtain ⟨a,ha⟩:=List.getElem?_eq_some_iff.1 hi
   obtain ⟨b,hb⟩:=List.getElem?_eq_some_iff.1 h1
   rcases Nat.lt_or_gt_of_ne hne with hl | hl
   ·have:=mono _ _ b a hl;rw [ha,hb] at this;omega
   ·have:=mono _ _ a b hl;rw [ha,hb] at this;omega
 ·rw [h2] at hk
  rw [List.mem_append,List.mem_cons] at hk
  rcases hk with hk | hk | hk
  ·exact .inr ⟨List.mem_of_mem_take hk,h1 k (List.mem_of_mem_take hk)⟩
  ·exact .inl hk
  ·exact .inr ⟨List.mem_of_mem_drop hk,h1 k (List.mem_of_mem_drop hk)⟩
theorem knowK_mem {K:List KE} (h:K.Pairwise fun x y=>x.Peer<y.Peer) {p e:Int}:⟨p,e⟩∈Z1r K p e∧∀k∈K,k.Peer≠p→k∈Z1r K p e:=by
 rcases Z4r h p e with ⟨q,h1,h2,h3⟩ | ⟨h1,h2⟩
 ·rw [h3]
  obtain ⟨b,hb⟩:=List.getElem?_eq_some_iff.1 h1
  refine ⟨List.mem_iff_getElem?.2 ⟨_,by rw [List.getElem?_set_self b]⟩,fun k hk hne=>?_⟩
  obtain ⟨i,hi⟩:=List.mem_iff_getElem?.1 hk
  refine List.mem_iff_getElem?.2 ⟨i,?_⟩
  rw [List.getElem?_set,if_neg]
  ·exact hi
  ·rintro rfl
   rw [h1] at hi;simp at hi;subst hi;exact hne h2
 ·rw [h2]
  refine ⟨by simp,fun k hk _=>?_⟩
  rw [List.mem_append,List.mem_cons]
  rcases (mem_td K (Z0r K (·.Peer) p) k).1 hk with h | h
  ·exact .inl h
  ·exact .inr (.inr h)
theorem knowK_pw {K:List KE} (h:K.Pairwise fun x y=>x.Peer<y.Peer) (p e:Int):(Z1r K p e).Pairwise fun x y=>x.Peer<y.Peer:=by
 rcases Z4r h p e with ⟨q,h1,h2,h3⟩ | ⟨h1,h2⟩
 ·rw [h3]
  rw [List.pairwise_iff_getElem] at h ⊢
  intro i j hi hj h6
  obtain ⟨b,hb⟩:=List.getElem?_eq_some_iff.1 h1
  have get:∀(k:Nat) (hk:k<(K.set (Z0r K (·.Peer) p) ⟨p,e⟩).length),(K.set (Z0r K (·.Peer) p) ⟨p,e⟩)[k].Peer=(K[k]'(by simpa using hk)).Peer:=by
   intro k hk
   rw [List.getElem_set]
   split
   ·rename_i e;subst e;rw [hb];exact h2.symm
   ·rfl
  rw [get,get]
  exact h i j _ _ h6
 ·rw [h2];exact ins_pw h rfl h1
theorem knowK_len (K:List KE) (p e:Int):(Z1r K p e).length≤K.length+1:=by
 have hc:=Z2r K (·.Peer) p
 unfold Z1r
 split
 ·split
  ·simp
  ·rw [List.length_append,List.length_cons,List.length_take,List.length_drop];omega
 ·simp
theorem RowK.know {K:List KE} {p e:Int} (h:RowK K) (hl:K.length<1000) (hp: -100000≤p∧p≤100000):RowK (Z1r K p e):=
 ⟨by have:=knowK_len K p e;omega,knowK_pw h.up p e,fun k hk=>by
   rcases Z5r h.up hk with rfl | ⟨hk,_⟩
   ·exact hp
   ·exact h.rng k hk⟩
theorem Z6r {K:List KE} (h:K.Pairwise fun x y=>x.Peer<y.Peer) {k:KE} (hk:k∈K):Zrq K k.Peer=k.Epoch:=by
 unfold Zrq
 have:K.find? (fun q=>decide (q.Peer=k.Peer))=some k:=by
  induction K with
  | nil=>simp at hk
  | cons y K ih=>
    rw [List.pairwise_cons] at h
    rw [List.find?_cons]
    rcases List.mem_cons.1 hk with rfl | hk
    ·simp
    ·have:=h.1 k hk
     rw [DN (by omega)]
     exact ih h.2 hk
 rw [this]
theorem Z7r {K:List KE} {p:Int} (h:∀k∈K,k.Peer≠p):Zrq K p=0:=by
 unfold Zrq
 have:K.find? (fun q=>decide (q.Peer=p))=none:=by
  rw [List.find?_eq_none];intro k hk;simpa using h k hk
 rw [this]
theorem Z8r {K:List KE} (h:K.Pairwise fun x y=>x.Peer<y.Peer) (p e q:Int):Zrq (Z1r K p e) q=if q=p then e else Zrq K q:=by
 have hp:=knowK_pw h p e
 have hm:=knowK_mem h (p:=p) (e:=e)
 split
 ·rename_i hq;subst hq
  exact Z6r hp hm.1
 ·rename_i hq
  by_cases hx:∃k∈K,k.Peer=q
  ·obtain ⟨k,hk,rfl⟩:=hx
   rw [Z6r hp (hm.2 k hk hq),Z6r h hk]
  ·have hx:∀k∈K,k.Peer≠q:=fun k hk e=>hx ⟨k,hk,e⟩
   rw [Z7r hx,Z7r]
   intro k hk
   rcases Z5r h hk with rfl | ⟨hk,_⟩
   ·exact fun e=>hq e.symm
   ·exact hx k hk
def newS (k:KE):Side:=⟨k.Peer,k.Epoch,0,false,false,true,false,true⟩
theorem s_send3 (x:Side) (k a b c d:Int) (B:List Sess) (O:List Int) (f:Int) (S:List Side) (N:List Int) (K A:List KE) (E:List Mail) (V:List Event) (hE:E.length≤1000000):
  Zpc x k a b c d B O f S N K A E V=some (E++[⟨a,x.Peer,⟨k,x.Epoch,0⟩⟩]):=by
 simp only [Zpc]
 rw [Zzn _ _ (by omega) (by simp;omega),OB]
theorem s_edge3 (k p a b c d:Int) (B:List Sess) (O:List Int) (f:Int) (S:List Side) (N:List Int) (K A:List KE) (E:List Mail) (V:List Event) (hE:V.length≤1000000):
  Zrc k p a b c d B O f S N K A E V=some (V++[⟨k,a,0,p,[]⟩]):=by
 simp only [Zrc]
 rw [Zzn _ _ (by omega) (by simp;omega),OB]
theorem s_session4 (k i a b c d:Int) (B:List Sess) (O:List Int) (f:Int) (S:List Side) (N:List Int) (K A:List KE) (E:List Mail) (V:List Event) (hE:V.length≤1000000):
  Znc k i a b c d B O f S N K A E V=some (V++[⟨k,a,i,0,[]⟩]):=by
 simp only [Znc]
 rw [Zzn _ _ (by omega) (by simp;omega),OB]
def Z9r (S:List Side) (A:List KE):List Side:=A.foldl (fun S k=>putS S (newS k)) S
def ansK (K:List KE) (A:List KE):List KE:=A.foldl (fun K k=>Z1r K k.Peer k.Epoch) K
def ansM (id:Int) (A:List KE):List Mail:=A.map fun k=>⟨id,k.Peer,⟨6,k.Epoch,0⟩⟩
def ansV (id:Int) (A:List KE):List Event:=A.map fun k=>⟨6,id,0,k.Peer,[]⟩
structure AskOK (S:List Side) (A:List KE):Prop where
 rng:∀k∈A, -100000≤k.Peer∧k.Peer≤100000
 new:∀k∈A,∀x∈S,x.Peer≠k.Peer
 dis:(A.map (·.Peer)).Nodup
theorem ansS_snoc (S:List Side) (A:List KE) (k:KE):Z9r S (A++[k])=putS (Z9r S A) (newS k):=by simp [Z9r]
theorem ansK_snoc (K:List KE) (A:List KE) (k:KE):ansK K (A++[k])=Z1r (ansK K A) k.Peer k.Epoch:=by simp [ansK]
theorem ansS_mem {S:List Side}:∀ {A:List KE} {x:Side},x∈Z9r S A↔x∈S∨∃k∈A,x=newS k:=by
 intro A
 have:∀(A:List KE) (S:List Side) (x:Side),x∈Z9r S A↔x∈S∨∃k∈A,x=newS k:=by
  intro A
  induction A with
  | nil=>intro S x;simp [Z9r]
  | cons k A ih=>
    intro S x
    show x∈Z9r (putS S (newS k)) A↔_
    rw [ih,Z3r]
    constructor
    ·rintro ((h | h) | ⟨q,h1,h2⟩)
     ·exact .inr ⟨k,by simp,h⟩
     ·exact .inl h
     ·exact .inr ⟨q,by simp [h1],h2⟩
    ·rintro (h | ⟨q,h1,h2⟩)
     ·exact .inl (.inr h)
     ·rcases List.mem_cons.1 h1 with rfl | h1
      ·exact .inl (.inl h2)
      ·exact .inr ⟨q,h1,h2⟩
 exact fun {x}=>this A S x
theorem AskOK.mid {S:List Side} {A pre post:List KE} {k:KE} (h:AskOK S A) (e:A=pre++k::post):∀y∈Z9r S pre,y.Peer≠k.Peer:=by
 intro y hy
 rcases ansS_mem.1 hy with hy | ⟨q,h1,rfl⟩
 ·exact h.new k (by rw [e];simp) y hy
 ·have hd:=h.dis
  rw [e,List.map_append,List.map_cons,List.nodup_append] at hd
  exact hd.2.2 q.Peer (List.mem_map.2 ⟨q,h1,rfl⟩) k.Peer (by simp)
theorem ans_rows {S:List Side} {K A:List KE} (hS:RowS S) (hK:RowK K) (hA:AskOK S A) (h8:S.length+A.length≤1000) (h9:K.length+A.length≤1000):∀(post pre:List KE),A=pre++post→RowS (Z9r S pre)∧RowK (ansK K pre)∧(Z9r S pre).length=S.length+pre.length∧(ansK K pre).length≤K.length+pre.length:=by
 intro post
 have:∀(n:Nat) (pre:List KE),pre.length=n→(∃post,A=pre++post)→RowS (Z9r S pre)∧RowK (ansK K pre)∧(Z9r S pre).length=S.length+pre.length∧(ansK K pre).length≤K.length+pre.length:=by
  intro n
  induction n with
  | zero=>
    intro pre h _
    have:pre=[]:=List.length_eq_zero_iff.1 h
    subst this
    exact ⟨hS,hK,rfl,Nat.le_refl _⟩
  | succ n ih=>
    intro pre h ⟨post,e⟩
    rcases List.eq_nil_or_concat pre with rfl | ⟨q,k,rfl⟩
    ·simp at h
    ·rw [List.concat_eq_append] at *
     have hq:q.length=n:=by rw [Zho] at h;omega
     obtain ⟨i1,i2,i3,i4⟩:=ih q hq ⟨k::post,by rw [e];simp⟩
     have hk:k∈A:=by rw [e];simp
     have h6:q.length+1≤A.length:=by rw [e,List.length_append,Zho];omega
     have hr:=hA.rng k hk
     rw [ansS_snoc,ansK_snoc,Zho]
     refine ⟨i1.put (by omega) (hA.mid (k:=k) (post:=post) (by rw [e];simp)) hr,i2.know (by omega) hr,by rw [putS_len];omega,?_⟩
     have:=knowK_len (ansK K q) k.Peer k.Epoch
     omega
 exact fun pre e=>this pre.length pre rfl ⟨post,e⟩
theorem s_answer (a b c d:Int) (B:List Sess) (O:List Int) (f:Int) (S:List Side) (N:List Int) (K A:List KE) (E:List Mail) (V:List Event) (hS:RowS S) (hK:RowK K) (hA:AskOK S A) (h6:S.length+A.length≤1000) (h8:K.length+A.length≤1000) (hE:E.length≤900000) (hV:V.length≤900000):
  Zij a b c d B O f S N K A E V=some (Z9r S A,ansK K A,E++ansM a A,V++ansV a A):=by
 unfold Zij
 have e0:((0:Int),S,K,E,V)=((([]:List KE).length:Int),Z9r S [],ansK K [],E++ansM a [],V++ansV a []):=by simp [Z9r,ansK,ansM,ansV]
 rw [e0]
 refine Zbo A _ (fun pre=>((pre.length:Int),Z9r S pre,ansK K pre,E++ansM a pre,V++ansV a pre)) _ (fun pre k post h=>?_) ?_
 ·have hx:=Zco h
  have hm:=Zdo h
  obtain ⟨r1,r2,r3,r4⟩:=ans_rows hS hK hA h6 h8 (k::post) pre h
  have hr:=hA.rng k (Zeo h)
  dsimp only [Zhj]
  rw [Z0o hx,Zun,Zyn hx,OB]
  have e1:(⟨k.Peer,k.Epoch,0,false,false,true,false,true⟩:Side)=newS k:=rfl
  rw [e1,s_put4 (newS k) a b c d B O f _ N _ A _ _ r1 r2 hr,OB,s_send3 _ _ _ _ _ _ _ _ _ _ _ _ _ _ _ (by rw [List.length_append,ansM,List.length_map];omega),OB,s_edge3 _ _ _ _ _ _ _ _ _ _ _ _ _ _ _ (by rw [List.length_append,ansV,List.length_map];omega),OB,Z2o (by omega),Zho,ansS_snoc,ansK_snoc]
  simp [ansM,ansV,newS]
 ·dsimp only [Zhj]
  rw [Z1o,Zvn];rfl
def Zar (T:List Int) (x:Side):Bool:=Zpq x&&!decide (x.Peer∈T)
def Zbr (id:Int):List Side→List Int→List Mail→List Int×List Mail
 | [],T,E=>(T,E)
 | x::l,T,E=>if Zar T x then Zbr id l (Zwo (T++[x.Peer])) (E++[⟨id,x.Peer,⟨5,x.Epoch,0⟩⟩]) else Zbr id l T E
theorem s_tell (a b c d:Int) (B:List Sess) (O:List Int) (f:Int) (S:List Side) (N:List Int) (K A:List KE) (E:List Mail) (V:List Event) (hS:S.length≤1000) (hO:O.length≤1000) (hE:E.length≤900000):
  Zxi a b c d B O f S N K A E V=some (Zbr a S O E):=by
 unfold Zxi
 have key:∀(post pre:List Side) (T:List Int) (E:List Mail),S=pre++post→T.length≤1000+pre.length→E.length≤900000+pre.length→loop (Zwi a b c d B f S N K A V) ((pre.length:Int),T,E)=some (Zbr a post T E):=by
  intro post
  induction post with
  | nil=>
    intro pre T E h _ _
    have h:pre=S:=by simpa using h.symm
    subst h
    rw [loop_eq]
    dsimp only [Zwi]
    rw [Z1o,Zvn];rfl
  | cons x post ih=>
    intro pre T E h hT hE
    have hx:=Zco h
    have hm:=Zdo h
    have h6:Z9g T x.Peer=some (Zwo (T++[x.Peer])):=s_Add T x.Peer (by omega)
    have h8:(Zwo (T++[x.Peer])).length≤T.length+1:=by have:=Z3p (T++[x.Peer]);simpa using this
    have j3:∀(T:List Int) (E:List Mail),Zui (pre.length:Int) (T,E)=some (.inl (((pre++[x]).length:Int),T,E)):=fun T E=>by
     dsimp only [Zui]
     rw [Z2o (by omega),Zho]
    have j2:∀z,Zvi a b c d B f S N K A V (pre.length:Int) T E x z=if z then some (.inl (((pre++[x]).length:Int),Zwo (T++[x.Peer]),E++[⟨a,x.Peer,⟨5,x.Epoch,0⟩⟩])) else some (.inl (((pre++[x]).length:Int),T,E)):=fun z=>by
     cases z with
     | false=>dsimp only [Zvi];rw [Zvn,j3];rfl
     | true=>
       dsimp only [Zvi]
       rw [Zun,s_send3 _ _ _ _ _ _ _ _ _ _ _ _ _ _ _ (by omega),OB,h6,OB,j3];rfl
    have step:Zwi a b c d B f S N K A V ((pre.length:Int),T,E)=if Zar T x then some (.inl (((pre++[x]).length:Int),Zwo (T++[x.Peer]),E++[⟨a,x.Peer,⟨5,x.Epoch,0⟩⟩])) else some (.inl (((pre++[x]).length:Int),T,E)):=by
     dsimp only [Zwi]
     rw [Z0o hx,Zun,Zyn hx,OB]
     simp only [Zk9,OB,Zzo T x.Peer (by omega),j2]
     unfold Zar Zpq
     cases decide (x.State=1) with
     | false=>rfl
     | true=>cases decide (x.Peer∈T)<;>rfl
    rw [loop_eq,step]
    unfold Zbr
    cases hu:Zar T x with
    | true=>
      rw [if_pos rfl,if_pos rfl]
      exact ih (pre++[x]) _ _ (by simpa using h) (by rw [Zho];omega) (by rw [Zho,Zho];omega)
    | false=>
      rw [if_neg (by simp),if_neg (by simp)]
      exact ih (pre++[x]) T E (by simpa using h) (by rw [Zho];omega) (by rw [Zho];omega)
 exact key S [] O E rfl (by simpa using hO) (by simpa using hE)
theorem Zcr (l:List Side) (p:Side→Option Bool) (q:Side→Bool) (hl:l.length≤1000000) (hp:∀x∈l,p x=some (q x)):Zte l p=some (l.filter fun x=>!q x):=by
 simp only [Zte,Zmo l p q (by omega) hp,OB]
 cases hf:l.findIdx? q with
 | none=>
   rw [List.findIdx?_eq_none_iff] at hf
   rw [show plc none = -1 from rfl,DT rfl,Zun,List.filter_eq_self.2 (fun x hx=>by rw [hf x hx];rfl)]
 | some i=>
   obtain ⟨hi,hq,hn⟩:=List.findIdx?_eq_some_iff_getElem.1 hf
   rw [show plc (some i)=(i:Int) from rfl,DN (by omega),Zvn,Z2o (by omega)]
   let F:List Side→List Side:=fun pre=>pre.filter fun x=>!q x
   have hF:∀pre post,l=pre++post→(F pre).length≤pre.length:=fun pre post _=>List.length_filter_le _ _
   have key:=Z9o l (Zse p) (fun pre=>(((F pre).length:Int),(pre.length:Int),F pre++l.drop (F pre).length)) (fun _ _=>some (F l)) (fun pre x post h=>?_) ?_ (l.drop (i+1)) (l.take (i+1)) (by simp)
   ·have e1:F (l.take (i+1))=l.take i:=by
     show (l.take (i+1)).filter _=_
     rw [List.take_succ_eq_append_getElem hi,List.filter_append]
     have a1:(l.take i).filter (fun x=>!q x)=l.take i:=by
      rw [List.filter_eq_self]
      intro x hx
      obtain ⟨j,hj,rfl⟩:=List.mem_iff_getElem.1 hx
      rw [List.getElem_take]
      have:=hn j (by simp at hj;omega)
      simpa using this
     have a2: [l[i]].filter (fun x=>!q x)=[]:=by simp [hq]
     rw [a1,a2,List.append_nil]
    rw [e1] at key
    have e2:(l.take i).length=i:=by simp;omega
    have e3:(l.take (i+1)).length=i+1:=by simp;omega
    rw [e2,e3,List.take_append_drop] at key
    exact key
   ·left
    refine ⟨?_,rfl⟩
    have hx:=Zco h
    have hm:=Zdo h
    have h8:=hF pre (x::post) h
    have h6:(F pre++l.drop (F pre).length).length=l.length:=by simp;omega
    have h9:(F pre++l.drop (F pre).length)[pre.length]?=some x:=by
     rw [List.getElem?_append_right h8,List.getElem?_drop,show (F pre).length+(pre.length-(F pre).length)=pre.length by omega];exact hx
    dsimp only [Zse]
    rw [Z0o h9,Zun,Zyn h9,OB,hp x (Zeo h),OB]
    have hc:F (pre++[x])=F pre++(if q x then [] else [x]):=by
     show (pre++[x]).filter _=_
     rw [List.filter_append]
     congr 1
     cases ho:q x<;>simp [ho]
    cases he:q x with
    | true=>
      rw [Bool.not_true,Zvn]
      dsimp only [Zre]
      rw [Z2o (by omega),hc,he,if_pos rfl,List.append_nil,Zho]
    | false=>
      rw [Bool.not_false,Zun]
      obtain ⟨d,hd⟩:=Z2p (fun x=>!q x) pre post x
      rw [←h] at hd
      have hd':l.drop (F pre).length=d::l.drop ((F pre).length+1):=hd
      have hw:(F pre++l.drop (F pre).length)[(F pre).length]?=some d:=by rw [hd'];simp
      rw [Zyn hw,OB]
      dsimp only [Zre]
      rw [Z2o (by omega),Z2o (by omega),hc,he,if_neg (by simp),Zho,hd',Int.toNat_natCast,Zho]
      simp
   ·dsimp only [Zse]
    have h8:=hF l [] (by simp)
    have h6:(F l++l.drop (F l).length).length=l.length:=by simp;omega
    rw [show ((l.length:Int))=((F l++l.drop (F l).length).length:Int) by rw [h6],Z1o,Zvn]
    dsimp only [Zqe]
    unfold vw_
    rw [ln_eq,h6,if_pos ⟨by omega,by omega,by omega,by omega⟩,OB]
    unfold clr_
    rw [h6,if_pos ⟨by omega,by simp;omega⟩,OB]
    unfold sub_
    rw [if_pos ⟨by omega,by omega,by simp;omega⟩,OB]
    simp [Int.toNat_natCast,List.append_assoc]
theorem s_drop1 (p a b c d:Int) (B:List Sess) (O:List Int) (f:Int) (S:List Side) (N:List Int) (K A:List KE) (E:List Mail) (V:List Event) (hS:S.length≤1000):
  Z0g p a b c d B O f S N K A E V=some (S.filter fun x=>!decide (x.Peer=p)):=by
 simp only [Z0g,Zcr S (fun z=>Zm9 z p) (fun x=>decide (x.Peer=p)) (by omega) (fun _ _=>rfl),OB]
def Zdr (th:Int) (N:List Int) (x:Side):Bool:=decide (x.State=2)&&!(decide (th=2)&&decide (x.Peer∈N))
def Zer (id th:Int) (N:List Int) (x:Side):Option Side:=if Zdr th N x then (if id<x.Peer then some {x with State:=3} else none) else some x
def Zfr (id th:Int) (N:List Int) (x:Side):List Mail:=if Zdr th N x then [⟨id,x.Peer,⟨if id<x.Peer then 7 else 8,x.Epoch,0⟩⟩] else []
def Zgr (id th:Int) (N:List Int) (S:List Side):List Side:=S.filterMap (Zer id th N)
def Zhr (id th:Int) (N:List Int) (S:List Side):List Mail:=S.flatMap (Zfr id th N)
theorem goes3 (th:Int) (N:List Int) (x:Side):Zdr th N {x with State:=3}=false:=by simp [Zdr]
theorem Zir {id th:Int} {N:List Int} {S:List Side} (h:∀x∈S,Zdr th N x=false):Zgr id th N S=S∧Zhr id th N S=[]:=by
 induction S with
 | nil=>exact ⟨rfl,rfl⟩
 | cons x S ih=>
   have h1:=h x (by simp)
   obtain ⟨i1,i2⟩:=ih fun y hy=>h y (List.mem_cons_of_mem _ hy)
   refine ⟨?_,?_⟩
   ·unfold Zgr at i1 ⊢
    rw [List.filterMap_cons,Zer,h1]
    simp [i1]
   ·unfold Zhr at i2 ⊢
    rw [List.flatMap_cons,i2,Zfr,h1]
    rfl
theorem Zjr (id th:Int) (N:List Int) (a b:List Side):Zgr id th N (a++b)=Zgr id th N a++Zgr id th N b:=List.filterMap_append
theorem Zkr (id th:Int) (N:List Int) (a b:List Side):Zhr id th N (a++b)=Zhr id th N a++Zhr id th N b:=by simp [Zhr]
theorem leav_done (id th:Int) (N:List Int) (S:List Side):∀x∈Zgr id th N S,Zdr th N x=false:=by
 intro x hx
 obtain ⟨y,hy,h⟩:=List.mem_filterMap.1 hx
 unfold Zer at h
 split at h
 ·split at h
  ·simp at h;subst h;exact goes3 th N y
  ·simp at h
 ·rename_i hg
  simp at h;subst h;simpa using hg
theorem Zlr (id th:Int) (N:List Int) (S:List Side):(Zhr id th N S).length≤S.length:=by
 induction S with
 | nil=>simp [Zhr]
 | cons x S ih=>
   have:(Zfr id th N x).length≤1:=by unfold Zfr;split<;>simp
   unfold Zhr at ih ⊢
   rw [List.flatMap_cons,List.length_append,List.length_cons];omega
theorem leavS_len (id th:Int) (N:List Int) (S:List Side):(Zgr id th N S).length≤S.length:=List.length_filterMap_le _ _
section
variable (id ph th d:Int) (B:List Sess) (O:List Int) (f:Int) (N:List Int) (K A:List KE) (V:List Event)
theorem Zmr (S:List Side) (hS:S.Pairwise fun x y=>x.Peer<y.Peer) (hl:S.length≤1000) (hN:N.length≤100000):∀(post pre:List Side) (E:List Mail),S=pre++post→(∀x∈pre,Zdr th N x=true→id<x.Peer)→E.length≤900000+pre.length→
  (∃q x r,post=q++x::r∧(∀y∈q,Zdr th N y=true→id<y.Peer)∧Zdr th N x=true∧¬id<x.Peer∧loop (Zeh id ph th d B O f N K A V S) ((pre.length:Int),Zgr id th N pre++post,E)=some (.inl (Zgr id th N (pre++q)++r,E++Zhr id th N (q++[x]))))
  ∨(∀x∈post,Zdr th N x=true→id<x.Peer)∧loop (Zeh id ph th d B O f N K A V S) ((pre.length:Int),Zgr id th N pre++post,E)=some (.inr (E++Zhr id th N post,Zgr id th N S)):=by
 intro post
 induction post with
 | nil=>
   intro pre E h hp hE
   have h:pre=S:=by simpa using h.symm
   subst h
   right
   refine ⟨by simp,?_⟩
   rw [loop_eq]
   dsimp only [Zeh]
   rw [Z1o,Zvn]
   simp [Zbh,Zhr]
 | cons x post ih=>
   intro pre E h hp hE
   have hx:=Zco h
   have hm:=Zdo h
   have h6:(Zgr id th N pre).length=pre.length:=by
    have:∀(l:List Side),(∀x∈l,Zdr th N x=true→id<x.Peer)→(Zgr id th N l).length=l.length:=by
     intro l
     induction l with
     | nil=>intro _;rfl
     | cons y l ih=>
       intro hl
       have i:=ih fun z hz=>hl z (List.mem_cons_of_mem _ hz)
       unfold Zgr at i ⊢
       have hy:=hl y (by simp)
       have e:∃z,Zer id th N y=some z:=by
        unfold Zer
        cases hg:Zdr th N y with
        | false=>exact ⟨y,by simp⟩
        | true=>exact ⟨_,by simp [hy hg];rfl⟩
       obtain ⟨z,e⟩:=e
       rw [List.filterMap_cons,e]
       simp only [List.length_cons,i]
    exact this pre hp
   have at1:at_ (Zgr id th N pre++x::post) (pre.length:Int)=some x:=by rw [←h6];exact Zfo rfl
   have st1:∀z:Side,(Zgr id th N pre++x::post).set ((pre.length:Int)).toNat z=Zgr id th N pre++z::post:=fun z=>by rw [←h6];exact Zgo _ _ _ _
   have j2:∀(z:Side) (E:List Mail),Zch (pre.length:Int) (Zgr id th N pre++z::post,E)=some (.inl (((pre++[x]).length:Int),Zgr id th N pre++z::post,E)):=fun z E=>by
    dsimp only [Zch]
    rw [Z2o (by omega),Zho]
   have j3:∀z,Zdh id ph th d B O f N K A V (pre.length:Int) (Zgr id th N pre++x::post) E x z=if z then some (.inl (((pre++[x]).length:Int),Zgr id th N pre++x::post,E)) else if id<x.Peer then some (.inl (((pre++[x]).length:Int),Zgr id th N pre++{x with State:=3}::post,E++[⟨id,x.Peer,⟨7,x.Epoch,0⟩⟩])) else some (.inr (.inl ((Zgr id th N pre++x::post).filter fun y=>!decide (y.Peer=x.Peer),E++[⟨id,x.Peer,⟨8,x.Epoch,0⟩⟩]))):=fun z=>by
    have h8:(Zgr id th N pre++x::post).length≤1000:=by rw [List.length_append,h6];rw [h,List.length_append] at hl;exact hl
    cases z with
    | true=>dsimp only [Zdh];rw [Zun,j2];rfl
    | false=>
      dsimp only [Zdh]
      rw [Zvn,if_neg (by simp)]
      by_cases hq:id<x.Peer
      ·rw [DT hq,Zun,if_pos hq,s_send3 _ _ _ _ _ _ _ _ _ _ _ _ _ _ _ (by omega),OB,st1,j2]
      ·rw [DN hq,Zvn,if_neg hq,s_drop1 _ _ _ _ _ _ _ _ _ _ _ _ _ _ h8,OB,s_send3 _ _ _ _ _ _ _ _ _ _ _ _ _ _ _ (by omega),OB];rfl
   have step:Zeh id ph th d B O f N K A V S ((pre.length:Int),Zgr id th N pre++x::post,E)=if Zdr th N x then (if id<x.Peer then some (.inl (((pre++[x]).length:Int),Zgr id th N pre++{x with State:=3}::post,E++[⟨id,x.Peer,⟨7,x.Epoch,0⟩⟩])) else some (.inr (.inl ((Zgr id th N pre++x::post).filter fun y=>!decide (y.Peer=x.Peer),E++[⟨id,x.Peer,⟨8,x.Epoch,0⟩⟩])))) else some (.inl (((pre++[x]).length:Int),Zgr id th N pre++x::post,E)):=by
    dsimp only [Zeh]
    rw [Z0o hx,Zun,at1,OB]
    simp only [Zzo N x.Peer (show N.length≤1000000 by omega),OB,j3]
    unfold Zdr
    cases decide (x.State=2) with
    | false=>rfl
    | true=>cases decide (th=2) with
      | false=>rfl
      | true=>cases decide (x.Peer∈N)<;>rfl
   rw [loop_eq,step]
   cases hg:Zdr th N x with
   | false=>
     rw [if_neg (by simp)]
     have e:Zgr id th N (pre++[x])=Zgr id th N pre++[x]:=by rw [Zjr];simp [Zgr,Zer,hg]
     have:=ih (pre++[x]) E (by simpa using h) (fun y hy=>by
      rcases List.mem_append.1 hy with hy | hy
      ·exact hp y hy
      ·simp at hy;subst hy;rw [hg];simp) (by rw [Zho];omega)
     rw [e,List.append_assoc,List.singleton_append] at this
     rcases this with ⟨q,y,r,h1,h2,h3,h4,h5⟩ | ⟨h1,h2⟩
     ·left
      refine ⟨x::q,y,r,by rw [h1];rfl,fun z hz=>?_,h3,h4,?_⟩
      ·rcases List.mem_cons.1 hz with rfl | hz
       ·rw [hg];simp
       ·exact h2 z hz
      ·refine Eq.trans h5 ?_
       have e2:Zhr id th N (x::q++[y])=Zhr id th N (q++[y]):=by
        show Zhr id th N ([x]++(q++[y]))=_
        rw [Zkr]
        simp [Zhr,Zfr,hg]
       rw [e2,List.append_assoc];rfl
     ·right
      refine ⟨fun z hz=>?_,?_⟩
      ·rcases List.mem_cons.1 hz with rfl | hz
       ·rw [hg];simp
       ·exact h1 z hz
      ·refine Eq.trans h2 ?_
       have e2:Zhr id th N (x::post)=Zhr id th N post:=by
        show Zhr id th N ([x]++post)=_
        rw [Zkr]
        simp [Zhr,Zfr,hg]
       rw [e2]
   | true=>
     rw [if_pos rfl]
     by_cases hq:id<x.Peer
     ·rw [if_pos hq]
      have e:Zgr id th N (pre++[x])=Zgr id th N pre++[{x with State:=3}]:=by rw [Zjr];simp [Zgr,Zer,hg,hq]
      have:=ih (pre++[x]) (E++[⟨id,x.Peer,⟨7,x.Epoch,0⟩⟩]) (by simpa using h) (fun y hy=>by
       rcases List.mem_append.1 hy with hy | hy
       ·exact hp y hy
       ·simp at hy;subst hy;exact fun _=>hq) (by rw [Zho,Zho];omega)
      rw [e,List.append_assoc,List.singleton_append] at this
      have em:Zhr id th N [x]=[⟨id,x.Peer,⟨7,x.Epoch,0⟩⟩]:=by simp [Zhr,Zfr,hg,hq]
      rcases this with ⟨q,y,r,h1,h2,h3,h4,h5⟩ | ⟨h1,h2⟩
      ·left
       refine ⟨x::q,y,r,by rw [h1];rfl,fun z hz=>?_,h3,h4,?_⟩
       ·rcases List.mem_cons.1 hz with rfl | hz
        ·exact fun _=>hq
        ·exact h2 z hz
       ·refine Eq.trans h5 ?_
        have e2:Zhr id th N (x::q++[y])=Zhr id th N [x]++Zhr id th N (q++[y]):=Zkr id th N [x] (q++[y])
        rw [e2,em,List.append_assoc,List.append_assoc];rfl
      ·right
       refine ⟨fun z hz=>?_,?_⟩
       ·rcases List.mem_cons.1 hz with rfl | hz
        ·exact fun _=>hq
        ·exact h1 z hz
       ·refine Eq.trans h2 ?_
        have e2:Zhr id th N (x::post)=Zhr id th N [x]++Zhr id th N post:=Zkr id th N [x] post
        rw [e2,em,List.append_assoc]
     ·rw [if_neg hq]
      left
      refine ⟨[],x,post,rfl,by simp,hg,hq,?_⟩
      rw [h] at hS
      rw [List.pairwise_append,List.pairwise_cons] at hS
      obtain ⟨_,⟨p1,_⟩,p2⟩:=hS
      have e1:(Zgr id th N pre++x::post).filter (fun y=>!decide (y.Peer=x.Peer))=Zgr id th N pre++post:=by
       rw [List.filter_append,List.filter_cons,List.filter_eq_self.2,List.filter_eq_self.2]
       ·simp
       ·intro y hy;have:=p1 y hy;simp;omega
       ·intro y hy
        obtain ⟨z,hz,hy⟩:=List.mem_filterMap.1 hy
        have:=p2 z hz x (by simp)
        have e:y.Peer=z.Peer:=by
         unfold Zer at hy
         split at hy
         ·split at hy
          ·simp at hy;subst hy;rfl
          ·simp at hy
         ·simp at hy;subst hy;rfl
        simp;omega
      have em:Zhr id th N [x]=[⟨id,x.Peer,⟨8,x.Epoch,0⟩⟩]:=by simp [Zhr,Zfr,hg,hq]
      rw [e1,List.append_nil,List.nil_append,em]
theorem s_leave (hN:N.length≤100000):∀(n:Nat) (S:List Side) (E:List Mail),S.length≤n→S.length≤1000→S.Pairwise (fun x y=>x.Peer<y.Peer)→E.length+(Zhr id th N S).length≤900000→
  loop (Zfh id ph th d B O f N K A V) (S,E)=some (E++Zhr id th N S,Zgr id th N S):=by
 intro n
 induction n with
 | zero=>
   intro S E hn _ _ _
   have:S=[]:=List.length_eq_zero_iff.1 (by omega)
   subst this
   rw [loop_eq]
   dsimp only [Zfh]
   rcases Zmr id ph th d B O f N K A V [] List.Pairwise.nil (by simp) hN [] [] E rfl (by simp) (by simp;omega) with ⟨q,x,r,h,_⟩ | ⟨_,h⟩
   ·have:=congrArg List.length h;simp at this
   ·have h:loop (Zeh id ph th d B O f N K A V []) (0,[],E)=_:=h
    rw [h]
 | succ n ih=>
   intro S E hn hl hS hE
   rw [loop_eq]
   dsimp only [Zfh]
   rcases Zmr id ph th d B O f N K A V S hS hl hN S [] E rfl (by simp) (by simp;omega) with ⟨q,x,r,h1,h2,h3,h4,h5⟩ | ⟨_,h⟩
   ·have h5:loop (Zeh id ph th d B O f N K A V S) (0,S,E)=_:=h5
    rw [h5]
    dsimp only
    have ql:=leavS_len id th N q
    have qm:=Zlr id th N (q++[x])
    have h9:S.length=q.length+(r.length+1):=by rw [h1];simp
    have hx:Zgr id th N [x]=[]:=by simp [Zgr,Zer,h3,h4]
    have h6:=Zir (id:=id) (leav_done id th N q)
    have hp:(Zgr id th N ([]++q)++r).Pairwise fun x y=>x.Peer<y.Peer:=by
     rw [h1,List.pairwise_append,List.pairwise_cons] at hS
     obtain ⟨s1,⟨_,s2⟩,s3⟩:=hS
     have key:∀y∈Zgr id th N q,∃z∈q,y.Peer=z.Peer:=by
      intro y hy
      obtain ⟨z,hz,hy⟩:=List.mem_filterMap.1 hy
      refine ⟨z,hz,?_⟩
      unfold Zer at hy
      split at hy
      ·split at hy
       ·simp at hy;subst hy;rfl
       ·simp at hy
      ·simp at hy;subst hy;rfl
     rw [List.nil_append,List.pairwise_append]
     refine ⟨?_,s2,fun y hy z hz=>?_⟩
     ·unfold Zgr
      rw [List.pairwise_filterMap]
      refine s1.imp fun {a b} h8 y hy z hz=>?_
      have e:∀ {a y:Side},Zer id th N a=some y→y.Peer=a.Peer:=by
       intro a y hy
       unfold Zer at hy
       split at hy
       ·split at hy
        ·simp at hy;subst hy;rfl
        ·simp at hy
       ·simp at hy;subst hy;rfl
      rw [e hy,e hz];exact h8
     ·obtain ⟨w,hw,e⟩:=key y hy
      rw [e];exact s3 w hw z (List.mem_cons_of_mem _ hz)
    have e3:Zhr id th N (q++x::r)=Zhr id th N (q++[x])++Zhr id th N r:=by rw [←Zkr];simp
    have e4:Zgr id th N (q++x::r)=Zgr id th N q++Zgr id th N r:=by
     rw [show q++x::r=q++([x]++r) from rfl,Zjr,Zjr,hx];rfl
    have e5:Zhr id th N (Zgr id th N q++r)=Zhr id th N r:=by rw [Zkr id th N (Zgr id th N q) r,h6.2];rfl
    have e6:Zgr id th N (Zgr id th N q++r)=Zgr id th N q++Zgr id th N r:=by rw [Zjr id th N (Zgr id th N q) r,h6.1]
    rw [h1,e3,List.length_append] at hE
    rw [List.nil_append] at hp ⊢
    rw [ih _ _ (by rw [List.length_append];omega) (by rw [List.length_append];omega) hp (by rw [List.length_append,e5];omega)]
    rw [e5,e6,h1,e3,e4,List.append_assoc]
   ·have h:loop (Zeh id ph th d B O f N K A V S) (0,S,E)=_:=h
    rw [h]
end
end NX
end Go.Proofs.YtdjkbodnjhgbcaaGreat
/-
  Plain laws: what a node does once. No statement of the seat is proved here.
-/
namespace Go.Proofs.YtdjkbodnjhgbcaaGreat
namespace NX
open Go
def Znr (n:Node):Node:=if n.DK.DI.PH=2 then n else ⟨⟨⟨n.DK.DI.ID,n.DK.DI.PH,Z9r n.DK.DI.SD n.AK⟩,n.DK.TH,n.DK.Need⟩,n.Book,ansK n.KN n.AK,n.Told,[]⟩
def ansNM (n:Node):List Mail:=if n.DK.DI.PH=2 then [] else ansM n.DK.DI.ID n.AK
def ansNV (n:Node):List Event:=if n.DK.DI.PH=2 then [] else ansV n.DK.DI.ID n.AK
def Zor (n:Node):Option Sess:=match n.Book.Sess with | []=>none | s::_=>if s.State=0 then some s else none
def Zpr (n:Node):DK:=match Zor n with | some s=>if n.DK.TH=0 then ⟨n.DK.DI,1,s.Need⟩ else n.DK | none=>n.DK
def Zqr (n:Node):Node:=⟨Zpr n,n.Book,n.KN,n.Told,n.AK⟩
def hunP (n:Node):Int:=if decide (n.DK.DI.PH=0)&&n.DK.DI.SD.any (Zar n.Told) then 1 else n.DK.DI.PH
def Zrr (n:Node):Node:=⟨⟨⟨n.DK.DI.ID,hunP n,n.DK.DI.SD⟩,n.DK.TH,n.DK.Need⟩,n.Book,n.KN,n.Told,n.AK⟩
def Zsr (n:Node):Node:=⟨(Zeq n.DK).1,n.Book,n.KN,n.Told,n.AK⟩
def graB (n:Node):Book:=match n.Book.Sess with | []=>n.Book | s::l=>if s.State=0 then (if n.DK.TH=2 then ⟨n.Book.Last,⟨s.ID,s.Need,1,s.Age⟩::l⟩ else n.Book) else n.Book
def Ztr (n:Node):Node:=⟨n.DK,graB n,n.KN,n.Told,n.AK⟩
def graV (n:Node):List Event:=match Zor n with | some s=>if n.DK.TH=2 then [⟨1,n.DK.DI.ID,s.ID,0,[]⟩] else [] | none=>[]
def Zur (n:Node):List Int×List Mail:=if n.DK.DI.PH=2 then Zbr n.DK.DI.ID n.DK.DI.SD n.Told [] else (n.Told,[])
def Zvr (n:Node):Node:=⟨n.DK,n.Book,n.KN,(Zur n).1,n.AK⟩
def leaN (n:Node):Node:=⟨⟨⟨n.DK.DI.ID,n.DK.DI.PH,Zgr n.DK.DI.ID n.DK.TH n.DK.Need n.DK.DI.SD⟩,n.DK.TH,n.DK.Need⟩,n.Book,n.KN,n.Told,n.AK⟩
def Zwr (n:Node):List Mail:=Zhr n.DK.DI.ID n.DK.TH n.DK.Need n.DK.DI.SD
def Zxr (n:Node):Node:=Zrr (Zqr (Znr n))
def Zyr (n:Node):Node:=Zsr (Zxr n)
def Zzr (n:Node):Node:=leaN (Zvr (Ztr (Zyr n)))
def Z0s (n:Node):List Mail:=ansNM n++((Zeq (Zxr n).DK).2++((Zur (Ztr (Zyr n))).2++Zwr (Zvr (Ztr (Zyr n)))))
def Z1s (n:Node):List Event:=ansNV n++graV (Zyr n)
def tupN (n:Node) (E:List Mail) (V:List Event):Int×Int×Int×Int×List Sess×List Int×List KE×List Event×List KE×List Int×List Mail×List Side:=
 (n.DK.DI.ID,n.DK.DI.PH,n.DK.TH,n.Book.Last,n.Book.Sess,n.Told,n.KN,V,n.AK,n.DK.Need,E,n.DK.DI.SD)
def tupF (d:DK) (N:List Int) (M:List Mail):Int×Int×Int×Int×List Side×List Int×List Mail:=(d.DI.ID,d.DI.PH,d.TH,0,d.DI.SD,N,M)
theorem Z2s (id:Int):∀(l:List Side) (T:List Int) (E:List Mail),Zbr id l T E=((Zbr id l T []).1,E++(Zbr id l T []).2)
 | [],T,E=>by simp [Zbr]
 | x::l,T,E=>by
   unfold Zbr
   split
   ·rw [Z2s id l _ (E++_),Z2s id l _ ([]++_)];simp
   ·exact Z2s id l T E
theorem Z3s (id:Int):∀(l:List Side) (T:List Int) (E:List Mail),(Zbr id l T E).1.length≤T.length+l.length∧(Zbr id l T E).2.length≤E.length+l.length
 | [],T,E=>by simp [Zbr]
 | x::l,T,E=>by
   unfold Zbr
   split
   ·have:=Z3s id l (Zwo (T++[x.Peer])) (E++[⟨id,x.Peer,⟨5,x.Epoch,0⟩⟩])
    have h2:=Z3p (T++[x.Peer])
    simp only [List.length_append,List.length_cons,List.length_nil] at this h2 ⊢
    omega
   ·have:=Z3s id l T E
    simp only [List.length_cons];omega
section
variable (f:Int)
theorem once_end (m:Node) (M0 E:List Mail) (V:List Event) (hS:m.DK.DI.SD.length≤1000) (hs:m.DK.DI.SD.Pairwise fun x y=>x.Peer<y.Peer) (hO:m.Told.length≤1000) (hN:m.DK.Need.length≤100000) (hE:E.length≤800000):
  Zsk m.Told f m.KN m.AK (tupF m.DK m.DK.Need M0) E (m.Book.Last,m.Book.Sess,V)=some (tupN (leaN (Zvr m)) (E++((Zur m).2++Zwr (Zvr m))) V):=by
 have h1:=Z3s m.DK.DI.ID m.DK.DI.SD m.Told []
 have h2:=Zlr m.DK.DI.ID m.DK.TH m.DK.Need m.DK.DI.SD
 have j10:∀(T:List Int) (E:List Mail),E.length≤890000→Zrk f m.KN m.AK (tupF m.DK m.DK.Need M0) m.Book.Last m.Book.Sess V (T,E)=some (tupN (leaN ⟨m.DK,m.Book,m.KN,T,m.AK⟩) (E++Zwr m) V):=fun T E hE=>by
  dsimp only [Zrk,tupF,Zgh]
  rw [s_leave m.DK.DI.ID m.DK.DI.PH m.DK.TH m.Book.Last m.Book.Sess T f m.DK.Need m.KN m.AK V hN _ m.DK.DI.SD E (Nat.le_refl _) hS hs (by omega),OB]
  rfl
 dsimp only [Zsk]
 unfold Zvr Zur
 by_cases hp:m.DK.DI.PH=2
 ·rw [show decide ((tupF m.DK m.DK.Need M0).2.1=2)=true from DT hp,Zun,if_pos hp]
  dsimp only [tupF]
  rw [s_tell _ _ _ _ _ _ _ _ _ _ _ _ _ hS hO (by omega),OB]
  have:=j10 (Zbr m.DK.DI.ID m.DK.DI.SD m.Told []).1 (E++(Zbr m.DK.DI.ID m.DK.DI.SD m.Told []).2) (by rw [List.length_append];simp only [List.length_nil] at h1;omega)
  rw [Z2s]
  dsimp only
  refine Eq.trans this ?_
  rw [List.append_assoc];rfl
 ·rw [show decide ((tupF m.DK m.DK.Need M0).2.1=2)=false from DN hp,Zvn,if_neg hp]
  rw [j10 m.Told E (by omega)]
  rfl
def Z4s (n:Node):Sess×Bool:=match n.Book.Sess with | []=>(sess0,false) | s::_=>(s,true)
theorem once_grant (m:Node) (M0 E:List Mail) (V:List Event) (hB:Z7p m.Book) (hk:okBk m.Book=true) (hS:m.DK.DI.SD.length≤1000) (hs:m.DK.DI.SD.Pairwise fun x y=>x.Peer<y.Peer) (hO:m.Told.length≤1000) (hN:m.DK.Need.length≤100000) (hE:E.length≤800000) (hV:V.length≤800000):
  Zvk m.Book.Last m.Book.Sess m.Told f m.KN V m.AK (Z4s m) (tupF m.DK m.DK.Need M0) E=some (tupN (leaN (Zvr (Ztr m))) (E++((Zur (Ztr m)).2++Zwr (Zvr (Ztr m)))) (V++graV m)):=by
 have no:graB m=m.Book→graV m=[]→Zsk m.Told f m.KN m.AK (tupF m.DK m.DK.Need M0) E (m.Book.Last,m.Book.Sess,V)=some (tupN (leaN (Zvr (Ztr m))) (E++((Zur (Ztr m)).2++Zwr (Zvr (Ztr m)))) (V++graV m)):=fun e1 e2=>by
  have e:Ztr m=m:=by unfold Ztr;rw [e1]
  rw [e,e2,List.append_nil]
  exact once_end f m M0 E V hS hs hO hN hE
 dsimp only [Zvk,Zuk]
 simp only [Zvn]
 unfold Z4s
 cases hb:m.Book.Sess with
 | nil=>
   rw [Zvn,←hb]
   exact no (by unfold graB;rw [hb]) (by unfold graV Zor;rw [hb])
 | cons s l=>
   rw [Zun]
   by_cases h0:s.State=0
   ·rw [DT h0,Zun]
    by_cases h2:m.DK.TH=2
    ·rw [show decide ((tupF m.DK m.DK.Need M0).2.2.1=2)=true from DT h2,Zun,←hb,s_Grant m.Book hB,OB]
     have eg:grantP m.Book=(⟨m.Book.Last,⟨s.ID,s.Need,1,s.Age⟩::l⟩,s.ID,0):=by
      unfold grantP;rw [hk,if_pos rfl,hb]
      dsimp only
      rw [if_neg (by omega)]
     have e1:Ztr m=⟨m.DK,⟨m.Book.Last,⟨s.ID,s.Need,1,s.Age⟩::l⟩,m.KN,m.Told,m.AK⟩:=by unfold Ztr graB;rw [hb];dsimp only;rw [if_pos h0,if_pos h2]
     have e2:graV m=[⟨1,m.DK.DI.ID,s.ID,0,[]⟩]:=by unfold graV Zor;rw [hb];dsimp only;rw [if_pos h0];dsimp only;rw [if_pos h2]
     rw [eg]
     dsimp only [Ztk,tupF]
     rw [s_session4 _ _ _ _ _ _ _ _ _ _ _ _ _ _ _ (by omega),OB,e1,e2]
     have:=once_end f ⟨m.DK,⟨m.Book.Last,⟨s.ID,s.Need,1,s.Age⟩::l⟩,m.KN,m.Told,m.AK⟩ M0 E (V++[⟨1,m.DK.DI.ID,s.ID,0,[]⟩]) hS hs hO hN hE
     rw [hb]
     exact this
    ·rw [show decide ((tupF m.DK m.DK.Need M0).2.2.1=2)=false from DN h2,Zvn,←hb]
     exact no (by unfold graB;rw [hb];dsimp only;rw [if_pos h0,if_neg h2]) (by unfold graV Zor;rw [hb];dsimp only;rw [if_pos h0];dsimp only;rw [if_neg h2])
   ·rw [DN h0,Zvn,←hb]
    exact no (by unfold graB;rw [hb];dsimp only;rw [if_neg h0]) (by unfold graV Zor;rw [hb];dsimp only;rw [if_neg h0])
theorem s_untold (x:Side) (n:node_node) (h:n.Node.Told.length≤1000):Zvf x n=some (Zar n.Node.Told x):=by
 simp only [Zvf,Zk9,OB,Zzo n.Node.Told x.Peer (by omega),Zuf]
 unfold Zar Zpq
 cases decide (x.State=1)<;>rfl
theorem fireDr_up (n:Nat):∀(d:DK) (out:List Mail),((Zdq n d out).1.DI.SD.map (·.Peer))=d.DI.SD.map (·.Peer)∧(Zdq n d out).1.DI.ID=d.DI.ID:=by
 induction n with
 | zero=>intro d out;exact ⟨rfl,rfl⟩
 | succ n ih=>
   intro d out
   unfold Zdq
   split
   ·exact ⟨rfl,rfl⟩
   ·obtain ⟨i1,i2⟩:=ih (Z7q d) (out++Z8q d)
    refine ⟨i1.trans ?_,i2⟩
    show (Z5q d).map _=_
    unfold Z5q
    rw [List.map_map]
    have e:((fun x:Side=>x.Peer)∘fun x=>Z0q (Zzp d x) d.TH x)=fun x:Side=>x.Peer:=by
     funext x;exact (Z2q _ _ _).1
    rw [e,Zxp,List.map_map]
    show d.DI.SD.map _=_
    congr 1
    funext x
    exact (Zyp _ x).1
theorem fireDr_peers (d:DK):(Zeq d).1.DI.SD.map (·.Peer)=d.DI.SD.map (·.Peer)∧(Zeq d).1.DI.ID=d.DI.ID∧(Zeq d).1.Need=d.Need:=⟨(fireDr_up 300 d []).1,(fireDr_up 300 d []).2,Zlq 300 d []⟩
theorem pw_peers {S S':List Side} (h:S'.map (·.Peer)=S.map (·.Peer)) (hs:S.Pairwise fun x y=>x.Peer<y.Peer):S'.Pairwise fun x y=>x.Peer<y.Peer:=by
 have h1:(S.map (·.Peer)).Pairwise (· < ·):=List.pairwise_map.2 hs
 rw [←h] at h1
 exact List.pairwise_map.1 h1
theorem fireN_out:∀(n:Nat) (d:DK) (out:List Mail),(Zdq n d out).2.length+bits (Zdq n d out).1.DI.SD=out.length+bits d.DI.SD
 | 0,_,_=>rfl
 | n+1,d,out=>by
   unfold Zdq
   split
   ·rfl
   ·have h1:=fireN_out n (Z7q d) (out++Z8q d)
    have h2:=Zaq d
    rw [List.length_append] at h1
    omega
theorem Z5s {d:DK} (h:okDr d=true):(Zeq d).2.length≤256:=by
 have h1:=fireN_out 300 d []
 have h2:=bits_le d.DI.SD
 have h3:=Zop (Zkq h)
 simp only [List.length_nil] at h1
 unfold Zeq;omega
theorem once_fire (m:Node) (x20:Sess×Bool) (h6:x20=Z4s m) (E:List Mail) (V:List Event) (hd:okDr (Zrr m).DK=true) (hB:Z7p m.Book) (hk:okBk m.Book=true) (hs:m.DK.DI.SD.Pairwise fun x y=>x.Peer<y.Peer) (hO:m.Told.length≤1000) (hN:m.DK.Need.length≤100000) (hE:E.length≤700000) (hV:V.length≤800000):
  Zyk m.DK.DI.ID m.DK.DI.PH m.Book.Last m.Book.Sess m.Told f m.DK.DI.SD m.KN E V m.AK x20 (m.DK.TH,m.DK.Need) =
   some (tupN (leaN (Zvr (Ztr (Zsr (Zrr m))))) (E++((Zeq (Zrr m).DK).2++((Zur (Ztr (Zsr (Zrr m)))).2++Zwr (Zvr (Ztr (Zsr (Zrr m))))))) (V++graV (Zsr (Zrr m)))):=by
 subst h6
 have hl:=Zop (Zkq hd)
 have hl:m.DK.DI.SD.length<64:=hl
 have hq:=fireDr_peers (Zrr m).DK
 have h8:(Zeq (Zrr m).DK).1.DI.SD.length=m.DK.DI.SD.length:=by
  have:=congrArg List.length hq.1
  rw [List.length_map,List.length_map] at this;exact this
 have ho:=Z5s hd
 have h9:Zeq (Zrr m).DK=Zeq ⟨⟨m.DK.DI.ID,hunP m,m.DK.DI.SD⟩,m.DK.TH,m.DK.Need⟩:=rfl
 have j5:∀z,z=hunP m→Zwk m.DK.DI.ID m.Book.Last m.Book.Sess m.Told f m.DK.DI.SD m.KN E V m.AK (Z4s m) m.DK.TH m.DK.Need z=some (tupN (leaN (Zvr (Ztr (Zsr (Zrr m))))) (E++((Zeq (Zrr m).DK).2++((Zur (Ztr (Zsr (Zrr m)))).2++Zwr (Zvr (Ztr (Zsr (Zrr m))))))) (V++graV (Zsr (Zrr m)))):=fun z hz=>by
  subst hz
  dsimp only [Zwk]
  have hf:=s_drFire (Zrr m).DK hd (by show m.DK.Need.length≤1000000;omega)
  have hf':Zhk m.DK.DI.ID (hunP m) m.DK.TH m.DK.DI.SD m.DK.Need=some (tupF (Zeq (Zrr m).DK).1 m.DK.Need (Zeq (Zrr m).DK).2):=hf
  rw [hf',OB]
  rw [show (tupF (Zeq (Zrr m).DK).1 m.DK.Need (Zeq (Zrr m).DK).2).2.2.2.2.2.2=(Zeq (Zrr m).DK).2 from rfl,Zzn _ _ (by omega) (by omega),OB]
  have hn:(Zsr (Zrr m)).DK.Need=m.DK.Need:=hq.2.2
  have:=once_grant f (Zsr (Zrr m)) (Zeq (Zrr m).DK).2 (E++(Zeq (Zrr m).DK).2) V hB hk (by show (Zeq (Zrr m).DK).1.DI.SD.length≤1000;omega) (pw_peers hq.1 hs) hO (by rw [hn];exact hN) (by rw [List.length_append];omega) hV
  rw [hn,List.append_assoc] at this
  exact this
 dsimp only [Zyk,Zxk]
 rw [Zvn,Zqo m.DK.DI.SD _ (Zar m.Told) (by omega) (fun x _=>s_untold x _ hO),OB]
 unfold hunP at j5
 by_cases h0:m.DK.DI.PH=0
 ·rw [DT h0] at j5 ⊢
  rw [Zun]
  cases hu:m.DK.DI.SD.any (Zar m.Told) with
  | true=>rw [hu] at j5;exact j5 1 rfl
  | false=>rw [hu] at j5;exact j5 _ rfl
 ·rw [DN h0] at j5 ⊢
  exact j5 _ rfl
theorem s_first3 (a b c d:Int) (B:Book) (O:List Int) (S:List Side) (N:List Int) (K A:List KE) (n:Node) (h:n.Book=B):Zjc a b c d B.Sess O S N K A=some (Z4s n):=by
 subst h
 simp only [Zjc,ln_eq]
 unfold Z4s
 cases h:n.Book.Sess with
 | nil=>rfl
 | cons s l=>rw [DN (by simp;omega),Zvn];rfl
theorem Z6s (m:Node) (E:List Mail) (V:List Event) (hd:okDr (Zrr (Zqr m)).DK=true) (hB:Z7p m.Book) (hk:okBk m.Book=true) (hs:m.DK.DI.SD.Pairwise fun x y=>x.Peer<y.Peer) (hO:m.Told.length≤1000) (hN:m.DK.Need.length≤100000) (h9:∀s∈m.Book.Sess,s.Need.length≤100000) (hE:E.length≤700000) (hV:V.length≤800000):
  Z0l m.DK.DI.ID m.DK.DI.PH m.DK.TH m.Book.Last m.Book.Sess m.Told f m.DK.Need (m.DK.DI.SD,m.KN,E,V,m.AK) =
   some (tupN (leaN (Zvr (Ztr (Zsr (Zrr (Zqr m)))))) (E++((Zeq (Zrr (Zqr m)).DK).2++((Zur (Ztr (Zsr (Zrr (Zqr m))))).2++Zwr (Zvr (Ztr (Zsr (Zrr (Zqr m)))))))) (V++graV (Zsr (Zrr (Zqr m))))):=by
 have h6:(Zqr m).DK.DI=m.DK.DI:=by
  show (Zpr m).DI=_
  unfold Zpr
  split
  ·split<;>rfl
  ·rfl
 have h8:(Zqr m).DK.Need.length≤100000:=by
  show (Zpr m).Need.length≤_
  unfold Zpr
  split
  ·rename_i s hw
   split
   ·unfold Zor at hw
    split at hw
    ·simp at hw
    ·rename_i s' l hb
     split at hw
     ·simp at hw;subst hw;exact h9 _ (by rw [hb];simp)
     ·simp at hw
   ·exact hN
  ·exact hN
 have key:=once_fire f (Zqr m) (Z4s m) rfl E V hd hB hk (by rw [h6];exact hs) hO h8 hE hV
 rw [h6] at key
 have fin:∀(p:Int×List Int),p=((Zqr m).DK.TH,(Zqr m).DK.Need)→Zyk m.DK.DI.ID m.DK.DI.PH m.Book.Last m.Book.Sess m.Told f m.DK.DI.SD m.KN E V m.AK (Z4s m) p=some (tupN (leaN (Zvr (Ztr (Zsr (Zrr (Zqr m)))))) (E++((Zeq (Zrr (Zqr m)).DK).2++((Zur (Ztr (Zsr (Zrr (Zqr m))))).2++Zwr (Zvr (Ztr (Zsr (Zrr (Zqr m)))))))) (V++graV (Zsr (Zrr (Zqr m))))):=fun p hp=>by rw [hp];exact key
 dsimp only [Z0l,Zzk]
 rw [s_first3 _ _ _ _ m.Book _ _ _ _ _ m rfl,OB]
 simp only [Zvn]
 have noT:Zor m=none→(m.DK.TH,m.DK.Need)=((Zqr m).DK.TH,(Zqr m).DK.Need):=fun h=>by
  show _=((Zpr m).TH,(Zpr m).Need)
  unfold Zpr;rw [h]
 cases hb:m.Book.Sess with
 | nil=>
   have e:(Z4s m).2=false:=by unfold Z4s;rw [hb]
   rw [e,Zvn,←hb]
   exact fin _ (noT (by unfold Zor;rw [hb]))
 | cons s l=>
   have e:Z4s m=(s,true):=by unfold Z4s;rw [hb]
   rw [←hb]
   rw [show (Z4s m).2=true by rw [e],Zun,show (Z4s m).1=s by rw [e]]
   by_cases h0:s.State=0
   ·have hw:Zor m=some s:=by unfold Zor;rw [hb];dsimp only;rw [if_pos h0]
    rw [DT h0,Zun]
    by_cases h1:m.DK.TH=0
    ·rw [DT h1,Zun,Zap s.Need (by have:=h9 s (by rw [hb];simp);omega),OB]
     refine fin _ ?_
     show _=((Zpr m).TH,(Zpr m).Need)
     unfold Zpr;rw [hw];dsimp only;rw [if_pos h1]
    ·rw [DN h1,Zvn]
     refine fin _ ?_
     show _=((Zpr m).TH,(Zpr m).Need)
     unfold Zpr;rw [hw];dsimp only;rw [if_neg h1]
   ·rw [DN h0,Zvn]
    exact fin _ (noT (by unfold Zor;rw [hb];dsimp only;rw [if_neg h0]))
structure GoN (n:Node):Prop where
 rowS:RowS n.DK.DI.SD
 rowK:RowK n.KN
 ask:AskOK n.DK.DI.SD n.AK
 lenS:n.DK.DI.SD.length+n.AK.length≤1000
 lenK:n.KN.length+n.AK.length≤1000
 dr:okDr (Zxr n).DK=true
 bk:Z7p n.Book
 ok:okBk n.Book=true
 told:n.Told.length≤1000
 need:n.DK.Need.length≤100000
 needs:∀s∈n.Book.Sess,s.Need.length≤100000
theorem s_once1 (n:Node) (h:GoN n) (E:List Mail) (V:List Event) (hE:E.length≤600000) (hV:V.length≤600000):
  Z1l n.DK.DI.ID n.DK.DI.PH n.DK.TH n.Book.Last n.Book.Sess n.Told f n.DK.DI.SD n.DK.Need n.KN n.AK E V=some (tupN (Zzr n) (E++Z0s n) (V++Z1s n)):=by
 have hd:=h.dr
 have hr:=(ans_rows h.rowS h.rowK h.ask h.lenS h.lenK [] n.AK (by simp)).1
 have hA:=h.lenS
 dsimp only [Z1l]
 unfold Zzr Z0s Z1s Zyr Zxr ansNM ansNV
 unfold Zxr at hd
 by_cases hp:n.DK.DI.PH=2
 ·have e:Znr n=n:=by unfold Znr;rw [if_pos hp]
  rw [e] at hd ⊢
  rw [DT hp,Bool.not_true,Zvn,if_pos hp,if_pos hp]
  have:=Z6s f n E V hd h.bk h.ok h.rowS.up h.told h.need h.needs (by omega) (by omega)
  simpa using this
 ·have e:Znr n=⟨⟨⟨n.DK.DI.ID,n.DK.DI.PH,Z9r n.DK.DI.SD n.AK⟩,n.DK.TH,n.DK.Need⟩,n.Book,ansK n.KN n.AK,n.Told,[]⟩:=by unfold Znr;rw [if_neg hp]
  rw [DN hp,Bool.not_false,Zun,if_neg hp,if_neg hp]
  rw [s_answer _ _ _ _ _ _ _ _ _ _ _ _ _ h.rowS h.rowK h.ask h.lenS h.lenK (by omega) (by omega),OB]
  rw [e] at hd ⊢
  have:=Z6s f ⟨⟨⟨n.DK.DI.ID,n.DK.DI.PH,Z9r n.DK.DI.SD n.AK⟩,n.DK.TH,n.DK.Need⟩,n.Book,ansK n.KN n.AK,n.Told,[]⟩ (E++ansM n.DK.DI.ID n.AK) (V++ansV n.DK.DI.ID n.AK) hd h.bk h.ok hr.up h.told h.need h.needs (by rw [List.length_append,ansM,List.length_map];omega) (by rw [List.length_append,ansV,List.length_map];omega)
  dsimp only at this ⊢
  rw [List.append_assoc,List.append_assoc] at this
  exact this
end
end NX
end Go.Proofs.YtdjkbodnjhgbcaaGreat
/-
  Plain laws: what always holds of a node. No statement of the seat is proved here.
-/
namespace Go.Proofs.YtdjkbodnjhgbcaaGreat
namespace NX
open Go
structure SideOK (id:Int) (x:Side):Prop where
 lo:0≤x.Peer
 ne:x.Peer≠id
 e0:0≤x.Epoch
 e1:x.Epoch≤65535
 s0:0≤x.State
 s3:x.State≤3
 df:x.DY=true→x.Fork=true
theorem Z7s (id:Int):∀(S:List Side) (q:Int),Zkp id q S=true↔(S.Pairwise fun x y=>x.Peer<y.Peer)∧∀x∈S,Zjp id q x=true
 | [],q=>by simp [Zkp]
 | x::S,q=>by
   have hx:∀ {y:Side},Zjp id q x=true→Zjp id x.Peer y=true→Zjp id q y=true:=by
    intro y h1 h2
    simp only [Zjp,Bool.and_eq_true,decide_eq_true_eq] at h1 h2 ⊢
    exact ⟨by omega,h2.2⟩
   have hy:∀ {y:Side},x.Peer<y.Peer→Zjp id q y=true→Zjp id x.Peer y=true:=by
    intro y h1 h2
    simp only [Zjp,Bool.and_eq_true,decide_eq_true_eq] at h2 ⊢
    exact ⟨h1,h2.2⟩
   simp only [Zkp,Bool.and_eq_true,Z7s id S x.Peer,List.pairwise_cons,List.mem_cons,forall_eq_or_imp]
   constructor
   ·rintro ⟨h1,h2,h3⟩
    refine ⟨⟨fun y hy=>?_,h2⟩,h1,fun y hy=>hx h1 (h3 y hy)⟩
    have:=h3 y hy
    simp only [Zjp,Bool.and_eq_true,decide_eq_true_eq] at this
    exact this.1
   ·rintro ⟨⟨h1,h2⟩,h3,h4⟩
    exact ⟨h3,h2,fun y hy'=>hy (h1 y hy') (h4 y hy')⟩
theorem sideD_iff (id:Int) (x:Side):Zjp id (-1) x=true↔SideOK id x:=by
 simp only [Zjp,Bool.and_eq_true,decide_eq_true_eq,Bool.not_eq_true',decide_eq_false_iff_not,Bool.and_eq_false_iff,Bool.not_eq_false']
 constructor
 ·rintro ⟨h1,h2,h3,h4,h5,h6,h7⟩
  refine ⟨by omega,h2,h3,h4,h5,h6,fun h=>?_⟩
  rcases h7 with h7 | h7
  ·rw [h] at h7;simp at h7
  ·exact h7
 ·rintro ⟨h1,h2,h3,h4,h5,h6,h7⟩
  refine ⟨by omega,h2,h3,h4,h5,h6,?_⟩
  cases hd:x.DY with
  | false=>exact .inl rfl
  | true=>exact .inr (h7 hd)
structure DinOK (d:DI):Prop where
 id0:0≤d.ID
 p0:0≤d.PH
 p2:d.PH≤2
 len:d.SD.length<64
 up:d.SD.Pairwise fun x y=>x.Peer<y.Peer
 side:∀x∈d.SD,SideOK d.ID x
theorem okD_iff (d:DI):okD d=true↔DinOK d:=by
 simp only [okD,Bool.and_eq_true,decide_eq_true_eq,Z7s,sideD_iff]
 constructor
 ·rintro ⟨h1,h2,h3,h4,h5,h6⟩;exact ⟨h1,h2,h3,h4,h5,h6⟩
 ·rintro ⟨h1,h2,h3,h4,h5,h6⟩;exact ⟨h1,h2,h3,h4,h5,h6⟩
theorem okI_iff:∀(l:List Int) (q:Option Int),okI q l=true↔l.Pairwise (· < ·)∧∀y,q=some y→∀x∈l,y<x
 | [],q=>by simp [okI]
 | x::l,q=>by
   simp only [okI,Bool.and_eq_true,okI_iff l (some x),List.pairwise_cons,List.mem_cons,forall_eq_or_imp,Option.some.injEq]
   cases q with
   | none=>
     constructor
     ·rintro ⟨_,h1,h2⟩;exact ⟨⟨h2 x rfl,h1⟩,by simp⟩
     ·rintro ⟨⟨h2,h1⟩,_⟩;exact ⟨rfl,h1,fun y e=>by subst e;exact h2⟩
   | some y=>
     simp only [decide_eq_true_eq]
     constructor
     ·rintro ⟨h0,h1,h2⟩
      exact ⟨⟨h2 x rfl,h1⟩,fun z e=>by
       simp only [Option.some.injEq] at e;subst e
       exact ⟨h0,fun w hw=>Int.lt_trans h0 (h2 x rfl w hw)⟩⟩
     ·rintro ⟨⟨h2,h1⟩,h3⟩
      exact ⟨(h3 y rfl).1,h1,fun z e=>by subst e;exact h2⟩
theorem riseK_iff:∀(l:List KE) (q:Int),Zuq q l=true↔(l.Pairwise fun x y=>x.Peer<y.Peer)∧∀k∈l,q<k.Peer∧k.Peer<64∧1≤k.Epoch∧k.Epoch≤65535
 | [],q=>by simp [Zuq]
 | x::l,q=>by
   simp only [Zuq,Bool.and_eq_true,decide_eq_true_eq,riseK_iff l x.Peer,List.pairwise_cons,List.mem_cons,forall_eq_or_imp]
   constructor
   ·rintro ⟨⟨h1,h2,h3,h4⟩,h5,h6⟩
    exact ⟨⟨fun y hy=>(h6 y hy).1,h5⟩,⟨h1,h2,h3,h4⟩,fun y hy=>⟨Int.lt_trans h1 (h6 y hy).1,(h6 y hy).2⟩⟩
   ·rintro ⟨⟨h1,h2⟩,⟨h3,h4,h5,h6⟩,h7⟩
    exact ⟨⟨h3,h4,h5,h6⟩,h2,fun y hy=>⟨h1 y hy,(h7 y hy).2⟩⟩
structure DrOK (d:DK):Prop where
 din:DinOK d.DI
 t0:0≤d.TH
 t2:d.TH≤2
 up:d.Need.Pairwise (· < ·)
 nz:d.TH=0→d.Need=[]
 has:∀p∈d.Need,∃x∈d.DI.SD,x.Peer=p
theorem hasSide_iff (d:DI) (p:Int):Zhq d p=true↔∃x∈d.SD,x.Peer=p:=by
 unfold Zhq;rw [List.any_eq_true];simp
theorem Z8s (d:DK):okDr d=true↔DrOK d:=by
 unfold okDr
 simp only [Bool.and_eq_true,decide_eq_true_eq,okD_iff,okI_iff,List.all_eq_true,hasSide_iff,Bool.not_eq_true',Bool.and_eq_false_iff,decide_eq_false_iff_not]
 constructor
 ·rintro ⟨h1,h2,h3,h4,h5,h6⟩
  refine ⟨h1,h2,h3,h4.1,fun h=>?_,h6⟩
  rcases h5 with h5 | h5
  ·exact absurd h h5
  ·exact List.eq_nil_of_length_eq_zero (by omega)
 ·rintro ⟨h1,h2,h3,h4,h5,h6⟩
  refine ⟨h1,h2,h3,⟨h4,by simp⟩,?_,h6⟩
  by_cases h:d.TH=0
  ·right;rw [h5 h];simp
  ·left;exact h
structure OkN (n:Node):Prop where
 dr:DrOK n.DK
 bk:okBk n.Book=true
 may:∀k∈n.AK,(∀x∈n.DK.DI.SD,x.Peer≠k.Peer)∧0≤k.Peer∧k.Peer<n.DK.DI.ID∧Zrq n.KN k.Peer<k.Epoch∧k.Epoch≤65535
 dis:(n.AK.map (·.Peer)).Nodup
 id:n.DK.DI.ID<64
 kup:n.KN.Pairwise fun x y=>x.Peer<y.Peer
 kr:∀k∈n.KN,0≤k.Peer∧k.Peer<64∧1≤k.Epoch∧k.Epoch≤65535
 sd:∀x∈n.DK.DI.SD,x.Peer<64∧1≤x.Epoch∧Zrq n.KN x.Peer=x.Epoch∧(x.State=1∨x.State=3→n.DK.DI.ID≤x.Peer)
 told:n.Told.Pairwise (· < ·)
 tin:∀p∈n.Told,∃x∈n.DK.DI.SD,x.State=1∧x.Peer=p
 th:n.DK.TH=2↔Zxq n=true
 hq:n.DK.TH=0∨headQ n=true
 nl:∀x∈n.DK.DI.SD,x.Peer∈n.DK.Need→x.State≠3
 wt:∀s∈n.Book.Sess,s.State=0→∀p∈s.Need,∃x∈n.DK.DI.SD,x.State=0∧x.Peer=p
theorem mayB_iff (n:Node) (k:KE):mayB n k=true↔(∀x∈n.DK.DI.SD,x.Peer≠k.Peer)∧0≤k.Peer∧k.Peer<n.DK.DI.ID∧Zrq n.KN k.Peer<k.Epoch∧k.Epoch≤65535:=by
 unfold mayB
 simp only [Bool.and_eq_true,decide_eq_true_eq,Bool.not_eq_true',List.any_eq_false]
theorem sideN_iff (n:Node) (x:Side):sideN n x=true↔x.Peer<64∧1≤x.Epoch∧Zrq n.KN x.Peer=x.Epoch∧(x.State=1∨x.State=3→n.DK.DI.ID≤x.Peer):=by
 unfold sideN
 simp only [Bool.and_eq_true,decide_eq_true_eq,Bool.not_eq_true',Bool.and_eq_false_iff,Bool.or_eq_false_iff,decide_eq_false_iff_not]
 constructor
 ·rintro ⟨h1,h2,h3,h4⟩;exact ⟨h1,h2,h3,fun h=>by omega⟩
 ·rintro ⟨h1,h2,h3,h4⟩;exact ⟨h1,h2,h3,by omega⟩
theorem Z9s (n:Node) (q:Side→Bool) (p:Int):p∈Znq n q↔∃x∈n.DK.DI.SD,q x=true∧x.Peer=p:=by
 unfold Znq
 simp only [List.mem_map,List.mem_filter]
 constructor
 ·rintro ⟨x,⟨h1,h2⟩,h3⟩;exact ⟨x,h1,h2,h3⟩
 ·rintro ⟨x,h1,h2,h3⟩;exact ⟨x,⟨h1,h2⟩,h3⟩
theorem waitN_iff (n:Node) (s:Sess):waitN n s=true↔(s.State=0→∀p∈s.Need,∃x∈n.DK.DI.SD,x.State=0∧x.Peer=p):=by
 unfold waitN
 simp only [Bool.not_eq_true',Bool.and_eq_false_iff,decide_eq_false_iff_not,Bool.not_eq_false',List.all_eq_true,decide_eq_true_eq,Z9s,Zoq]
 constructor
 ·rintro (h | h)
  ·exact fun e=>absurd e h
  ·exact fun _=>h
 ·intro h
  by_cases e:s.State=0
  ·exact .inr (h e)
  ·exact .inl e
theorem Zas (n:Node):okN n=true↔OkN n:=by
 unfold okN edgesN knownN Zyq Zsq
 simp only [Bool.and_eq_true,Z8s,List.all_eq_true,mayB_iff,decide_eq_true_eq,riseK_iff,sideN_iff,okI_iff,Z9s,Zpq,Zqq,Bool.or_eq_true,beq_iff_eq,Bool.not_eq_true',List.any_eq_false,waitN_iff]
 constructor
 ·rintro ⟨h1,h2,⟨h3,h4,h5,h6,h7,h8,h9⟩,hc,hd,he,hf⟩
  exact ⟨h1,h2,h3,h4,h5,h6.1,fun k hk=>by have:=h6.2 k hk;omega,h7,h8.1,h9,by rw [←hc];simp,hd,fun x hx hn e=>he x.Peer hn ⟨x,hx,e,rfl⟩,hf⟩
 ·rintro ⟨h1,h2,h3,h4,h5,h6,h6',h7,h8,h9,hc,hd,he,hf⟩
  refine ⟨h1,h2,⟨h3,h4,h5,⟨h6,fun k hk=>by have:=h6' k hk;omega⟩,h7,⟨h8,by simp⟩,h9⟩,?_,hd,?_,hf⟩
  ·rw [Bool.eq_iff_iff];simpa using hc
  ·rintro p hp ⟨x,hx,e,rfl⟩;exact he x hx hp e
structure SessOK (top last:Int) (s:Sess):Prop where
 lo:last<s.ID
 hi:s.ID≤top
 nb:Z5p s.Need=true
 up:s.Need.Pairwise (· < ·)
 age:0≤s.Age
 st:s.State=1∨s.State=0∧s.Age=0
theorem sessL_iff (top:Int):∀(l:List Sess) (last:Int) (first:Bool),Z6p top last first l=true↔(l.Pairwise fun x y=>x.ID<y.ID)∧(∀s∈l,SessOK top last s)∧∀s∈(if first then l.tail else l),s.State=0
 | [],_,_=>by simp [Z6p]
 | x::l,last,first=>by
   have e:sessB last top first x=true↔SessOK top last x∧(first=false→x.State=0):=by
    unfold sessB
    simp only [Bool.and_eq_true,decide_eq_true_eq,Bool.or_eq_true]
    constructor
    ·rintro ⟨h1,h2,h3,h4,h5,h6⟩
     refine ⟨⟨h1,h2,h3,h4,h5,?_⟩,fun hf=>?_⟩
     ·rcases h6 with h | h
      ·exact .inl h.1
      ·exact .inr h
     ·rcases h6 with h | h
      ·rw [hf] at h;simp at h
      ·exact h.1
    ·rintro ⟨⟨h1,h2,h3,h4,h5,h6⟩,h7⟩
     refine ⟨h1,h2,h3,h4,h5,?_⟩
     rcases h6 with h | h
     ·cases first with
      | true=>exact .inl ⟨h,rfl⟩
      | false=>have:=h7 rfl;omega
     ·exact .inr h
   simp only [Z6p,Bool.and_eq_true,e,sessL_iff top l x.ID false,List.pairwise_cons,List.mem_cons,forall_eq_or_imp]
   constructor
   ·rintro ⟨⟨h1,h2⟩,h3,h4,h5⟩
    have h5:∀s∈l,s.State=0:=h5
    refine ⟨⟨fun y hy=>(h4 y hy).lo,h3⟩,⟨h1,fun y hy=>?_⟩,?_⟩
    ·have:=h4 y hy
     exact {this with lo:=Int.lt_trans h1.lo this.lo}
    ·cases first with
     | true=>exact h5
     | false=>
       intro s hs
       rcases List.mem_cons.1 hs with rfl | hs
       ·exact h2 rfl
       ·exact h5 s hs
   ·rintro ⟨⟨h1,h2⟩,⟨h3,h4⟩,h5⟩
    refine ⟨⟨h3,fun hf=>?_⟩,h2,fun y hy=> {h4 y hy with lo:=h1 y hy},?_⟩
    ·subst hf;exact h5 x (by simp)
    ·cases first with
     | true=>exact h5
     | false=>exact fun s hs=>h5 s (List.mem_cons_of_mem _ hs)
structure BkOK (b:Book):Prop where
 last:0≤b.Last
 len:b.Sess.length≤8
 up:b.Sess.Pairwise fun x y=>x.ID<y.ID
 ok:∀s∈b.Sess,SessOK b.Last 0 s
 tl:∀s∈b.Sess.tail,s.State=0
theorem Zbs (b:Book):okBk b=true↔BkOK b:=by
 unfold okBk
 simp only [Bool.and_eq_true,decide_eq_true_eq,sessL_iff]
 constructor
 ·rintro ⟨h1,h2,h3,h4,h5⟩;exact ⟨h1,h2,h3,h4,h5⟩
 ·rintro ⟨h1,h2,h3,h4,h5⟩;exact ⟨h1,h2,h3,h4,h5⟩
theorem Zcs {l:List Int} (h:Z5p l=true):l.length≤64:=by
 unfold Z5p at h;rw [Bool.and_eq_true,decide_eq_true_eq] at h;exact h.1
theorem BkOK.few {b:Book} (h:BkOK b):Z7p b:=⟨by have:=h.len;omega,fun s hs=>by have:=Zcs (h.ok s hs).nb;omega⟩
theorem up_len {l:List Int} (h:l.Pairwise (· < ·)) {n:Int} (hn:0≤n) (hr:∀x∈l,0≤x∧x<n):(l.length:Int)≤n:=by
 rcases pw_len l 0 n h hr with rfl | h
 ·simpa using hn
 ·omega
theorem up_len1 {l:List Int} (h:l.Pairwise (· < ·)) {n id:Int} (hi:0≤id∧id<n) (hr:∀x∈l,0≤x∧x<n∧x≠id):(l.length:Int)<n:=by
 have h1:(l.take (Z0r l (fun x=>x) id)++id::l.drop (Z0r l (fun x=>x) id)).Pairwise fun x y=>x<y:=ins_pw (key:=fun x:Int=>x) (p:=id) h rfl fun y hy=>(hr y hy).2.2
 have h2:=up_len h1 (n:=n) (by omega) fun x hx=>by
  rw [List.mem_append,List.mem_cons] at hx
  rcases hx with hx | rfl | hx
  ·have:=hr x (List.mem_of_mem_take hx);omega
  ·omega
  ·have:=hr x (List.mem_of_mem_drop hx);omega
 rw [List.length_append,List.length_cons] at h2
 have h3:l.length=(l.take (Z0r l (fun x=>x) id)).length+(l.drop (Z0r l (fun x=>x) id)).length:=by rw [←List.length_append,List.take_append_drop]
 omega
theorem OkN.peer0 {n:Node} (h:OkN n) {x:Side} (hx:x∈n.DK.DI.SD):0≤x.Peer∧x.Peer<64∧x.Peer≠n.DK.DI.ID:=⟨(h.dr.din.side x hx).lo,(h.sd x hx).1,(h.dr.din.side x hx).ne⟩
theorem OkN.needL {n:Node} (h:OkN n):n.DK.Need.length≤64:=by
 have:=up_len h.dr.up (n:=64) (by omega) fun p hp=>by
  obtain ⟨x,hx,rfl⟩:=h.dr.has p hp
  have:=h.peer0 hx;omega
 omega
theorem OkN.toldL {n:Node} (h:OkN n):n.Told.length≤64:=by
 have:=up_len h.told (n:=64) (by omega) fun p hp=>by
  obtain ⟨x,hx,_,rfl⟩:=h.tin p hp
  have:=h.peer0 hx;omega
 omega
theorem OkN.knownL {n:Node} (h:OkN n):n.KN.length≤64:=by
 have:=up_len (l:=n.KN.map (·.Peer)) (List.pairwise_map.2 h.kup) (n:=64) (by omega) fun p hp=>by
  obtain ⟨k,hk,rfl⟩:=List.mem_map.1 hp
  have:=h.kr k hk;omega
 rw [List.length_map] at this
 omega
theorem nodup_len {l:List Int} (h:l.Nodup) {n:Nat} (hr:∀x∈l,0≤x∧x<(n:Int)):l.length≤n:=by
 have hs:=Z1p l
 have h1:∀(a b:List Int),a.Nodup→(∀x∈a,x∈b)→a.length≤b.length:=by
  intro a
  induction a with
  | nil=>intro b _ _;simp
  | cons x a ih=>
    intro b ha hb
    rw [List.nodup_cons] at ha
    have h6:=hb x (by simp)
    have:=ih (b.erase x) ha.2 fun y hy=>(List.mem_erase_of_ne (fun e=>ha.1 (by rw [←e];exact hy))).2 (hb y (List.mem_cons_of_mem _ hy))
    rw [List.length_erase_of_mem h6] at this
    have:=List.length_pos_of_mem h6
    simp only [List.length_cons];omega
 have h2:=h1 l (Zwo l) h fun x hx=>(hs.2 x).2 hx
 have h3:=up_len hs.1 (n:=n) (by omega) fun x hx=>hr x ((hs.2 x).1 hx)
 omega
theorem OkN.askedL {n:Node} (h:OkN n):n.AK.length≤64:=by
 have:=nodup_len h.dis (n:=64) fun p hp=>by
  obtain ⟨k,hk,rfl⟩:=List.mem_map.1 hp
  have:=h.may k hk
  have:=h.id
  omega
 rw [List.length_map] at this
 exact this
theorem OkN.few {n:Node} (h:OkN n):FewN n:=by
 have h1:=h.needL
 have h2:=h.toldL
 have h3:=h.knownL
 have h4:=h.askedL
 have h5:=h.dr.din.len
 have h6:=(Zbs _).1 h.bk
 have h7:=h6.len
 exact ⟨by omega,by omega,by omega,fun s hs=>by have:=Zcs (h6.ok s hs).nb;omega,by omega,by omega,by omega⟩
theorem OkN.rowS {n:Node} (h:OkN n):RowS n.DK.DI.SD:=⟨by have:=h.dr.din.len;omega,h.dr.din.up,fun x hx=>by have:=h.peer0 hx;omega⟩
theorem OkN.rowK {n:Node} (h:OkN n):RowK n.KN:=⟨by have:=h.knownL;omega,h.kup,fun k hk=>by have:=h.kr k hk;omega⟩
theorem epoch0 {K:List KE} (hu:K.Pairwise fun x y=>x.Peer<y.Peer) (h:∀k∈K,1≤k.Epoch∧k.Epoch≤65535) (p:Int):0≤Zrq K p∧Zrq K p≤65535:=by
 by_cases hx:∃k∈K,k.Peer=p
 ·obtain ⟨k,hk,rfl⟩:=hx
  rw [Z6r hu hk]
  have:=h k hk;omega
 ·rw [Z7r fun k hk e=>hx ⟨k,hk,e⟩];omega
theorem up_eq {S:List Side} (h:S.Pairwise fun x y=>x.Peer<y.Peer) {x y:Side} (hx:x∈S) (hy:y∈S) (e:x.Peer=y.Peer):x=y:=by
 induction S with
 | nil=>simp at hx
 | cons z S ih=>
   rw [List.pairwise_cons] at h
   rcases List.mem_cons.1 hx with hx1 | hx1<;>rcases List.mem_cons.1 hy with hy1 | hy1
   ·rw [hx1,hy1]
   ·have:=h.1 y hy1;rw [←hx1] at this;omega
   ·have:=h.1 x hx1;rw [←hy1] at this;omega
   ·exact ih h.2 hx1 hy1
def putN (n:Node) (x:Side) (A:List KE):Node:=⟨⟨⟨n.DK.DI.ID,n.DK.DI.PH,putS n.DK.DI.SD x⟩,n.DK.TH,n.DK.Need⟩,n.Book,Z1r n.KN x.Peer x.Epoch,n.Told,A⟩
theorem OkN.put {n:Node} (h:OkN n) {x:Side} {A:List KE} (hp:0≤x.Peer∧x.Peer<64∧x.Peer≠n.DK.DI.ID) (hn:∀y∈n.DK.DI.SD,y.Peer≠x.Peer) (he:1≤x.Epoch∧x.Epoch≤65535)
  (hs:x.State=0∨x.State=1∧n.DK.DI.ID≤x.Peer) (hd:x.DY=true→x.Fork=true) (hA:∀k∈A,k∈n.AK∧k.Peer≠x.Peer) (hc:(A.map (·.Peer)).Nodup):OkN (putN n x A):=by
 have h8:=h.id
 have h6:=h.dr.din
 have h9:(putS n.DK.DI.SD x).Pairwise fun x y=>x.Peer<y.Peer:=ins_pw h.rowS.up rfl hn
 refine ⟨⟨⟨h6.id0,h6.p0,h6.p2,?_,h9,fun y hy=>?_⟩,h.dr.t0,h.dr.t2,h.dr.up,h.dr.nz,fun p hp=>?_⟩,h.bk,fun k hk=>?_,hc,h8,knowK_pw h.kup _ _,fun k hk=>?_,fun y hy=>?_,h.told,fun p hp=>?_,h.th,h.hq,fun y hy hf=>?_,fun s hs' h0 p hp=>?_⟩
 ·have:=up_len1 (l:=(putS n.DK.DI.SD x).map (·.Peer)) (List.pairwise_map.2 h9) (n:=64) (id:=n.DK.DI.ID) ⟨h6.id0,h8⟩ fun p hp'=>by
   obtain ⟨y,hy,rfl⟩:=List.mem_map.1 hp'
   rcases Z3r.1 hy with rfl | hy
   ·exact hp
   ·exact h.peer0 hy
  rw [List.length_map] at this
  show (putS n.DK.DI.SD x).length<64
  omega
 ·rcases Z3r.1 hy with rfl | hy
  ·exact ⟨hp.1,hp.2.2,by omega,he.2,by omega,by omega,hd⟩
  ·exact h6.side y hy
 ·obtain ⟨y,hy,e⟩:=h.dr.has p hp
  exact ⟨y,Z3r.2 (.inr hy),e⟩
 ·obtain ⟨hk,hne⟩:=hA k hk
  have hm:=h.may k hk
  refine ⟨fun y hy=>?_,hm.2.1,hm.2.2.1,?_,hm.2.2.2.2⟩
  ·rcases Z3r.1 hy with rfl | hy
   ·exact fun e=>hne e.symm
   ·exact hm.1 y hy
  ·show Zrq (Z1r n.KN x.Peer x.Epoch) k.Peer<k.Epoch
   rw [Z8r h.kup,if_neg hne];exact hm.2.2.2.1
 ·rcases Z5r h.kup hk with rfl | ⟨hk,_⟩
  ·exact ⟨hp.1,hp.2.1,he⟩
  ·exact h.kr k hk
 ·show y.Peer<64∧1≤y.Epoch∧Zrq (Z1r n.KN x.Peer x.Epoch) y.Peer=y.Epoch∧(y.State=1∨y.State=3→n.DK.DI.ID≤y.Peer)
  rw [Z8r h.kup]
  rcases Z3r.1 hy with rfl | hy
  ·exact ⟨hp.2.1,he.1,if_pos rfl,fun _=>by omega⟩
  ·rw [if_neg (hn y hy)];exact h.sd y hy
 ·obtain ⟨y,hy,e⟩:=h.tin p hp
  exact ⟨y,Z3r.2 (.inr hy),e⟩
 ·rcases Z3r.1 hy with rfl | hy
  ·omega
  ·exact h.nl y hy hf
 ·obtain ⟨y,hy,e⟩:=h.wt s hs' h0 p hp
  exact ⟨y,Z3r.2 (.inr hy),e⟩
theorem OkN.ans1:∀(A:List KE) (n:Node),OkN n→n.AK=A→OkN ⟨⟨⟨n.DK.DI.ID,n.DK.DI.PH,Z9r n.DK.DI.SD A⟩,n.DK.TH,n.DK.Need⟩,n.Book,ansK n.KN A,n.Told,[]⟩
 | [],n,h,e=>by
   obtain ⟨d,b,k,t,a⟩:=n
   dsimp only at e
   subst e
   exact h
 | k::A,n,h,e=>by
   have hm:=h.may k (by rw [e];simp)
   have hd:=h.dis
   rw [e,List.map_cons,List.nodup_cons] at hd
   have h6:=h.id
   have h0:=epoch0 h.kup (fun k hk=>(h.kr k hk).2.2) k.Peer
   have h1:OkN (putN n (newS k) A):=h.put (x:=newS k) ⟨hm.2.1,by show k.Peer<64;omega,by show k.Peer≠_;omega⟩ hm.1 ⟨by show 1≤k.Epoch;omega,hm.2.2.2.2⟩ (.inl rfl) (by simp [newS]) (fun q hq=>⟨by rw [e];simp [hq],fun eq=>hd.1 (List.mem_map.2 ⟨q,hq,eq⟩)⟩) hd.2
   exact OkN.ans1 A (putN n (newS k) A) h1 rfl
theorem OkN.ans {n:Node} (h:OkN n):OkN (Znr n):=by
 unfold Znr
 split
 ·exact h
 ·exact OkN.ans1 n.AK n h rfl
theorem head_or {n:Node} (h:BkOK n.Book) {s:Sess} {l:List Sess} (hb:n.Book.Sess=s::l):s.State=1∨s.State=0:=by
 have:=(h.ok s (by rw [hb];simp)).st;omega
theorem waits_some {n:Node} {s:Sess} (h:Zor n=some s):∃l,n.Book.Sess=s::l∧s.State=0:=by
 unfold Zor at h
 split at h
 ·simp at h
 ·rename_i s' l hb
  split at h
  ·simp at h;subst h;exact ⟨l,hb,by assumption⟩
  ·simp at h
theorem OkN.thi {n:Node} (h:OkN n):OkN (Zqr n):=by
 unfold Zqr Zpr
 cases hw:Zor n with
 | none=>exact h
 | some s=>
   dsimp only
   split
   ·rename_i h0
    obtain ⟨l,hb,hs⟩:=waits_some hw
    have h6:=(Zbs _).1 h.bk
    have hm:s∈n.Book.Sess:=by rw [hb];simp
    have hok:=h6.ok s hm
    have hl:=h.wt s hm hs
    refine {h with dr:=⟨h.dr.din,by show (0:Int)≤1;omega,by show (1:Int)≤2;omega,hok.up,fun e=>by simp at e,fun p hp=>?_⟩,th:=?_,hq:=.inr ?_,nl:=fun x hx hn e3=>?_}
    ·obtain ⟨x,hx,_,e⟩:=hl p hp;exact ⟨x,hx,e⟩
    ·have:Zxq n=false:=by unfold Zxq;rw [hb];simp [hs]
     show (1:Int)=2↔Zxq n=true
     rw [this];simp
    ·show (match n.Book.Sess with | []=>false | s'::_=>decide (s'.Need=s.Need))=true
     rw [hb];simp
    ·obtain ⟨y,hy,h8,e⟩:=hl x.Peer hn
     have:=up_eq h.rowS.up hx hy e.symm
     subst this;omega
   ·exact h
theorem hunP_ok {n:Node} (h:OkN n):0≤hunP n∧hunP n≤2:=by
 have h0:=h.dr.din.p0
 have h2:=h.dr.din.p2
 unfold hunP;split<;>omega
theorem OkN.hun {n:Node} (h:OkN n):OkN (Zrr n):=by
 have hp:=hunP_ok h
 exact {h with dr:= {h.dr with din:= {h.dr.din with p0:=hp.1,p2:=hp.2}}}
theorem OkN.pre {n:Node} (h:OkN n):OkN (Zxr n):=h.ans.thi.hun
theorem OkN.go {n:Node} (h:OkN n):GoN n:=by
 have h1:=h.dr.din.len
 have h2:=h.askedL
 have h3:=h.knownL
 have h4:=(Zbs _).1 h.bk
 have h5:=h.toldL
 have h6:=h.needL
 have h8:=h.id
 exact ⟨h.rowS,h.rowK,⟨fun k hk=>by have:=h.may k hk;omega,fun k hk=>(h.may k hk).1,h.dis⟩,by omega,by omega,(Z8s _).2 h.pre.dr,h4.few,h.bk,by omega,by omega,fun s hs=>by have:=Zcs (h4.ok s hs).nb;omega⟩
def Zds (x:Side):Int×Int×Int:=(x.Peer,x.Epoch,x.State)
def stepS (d:DK) (x:Side):Side:=Z0q (Zzp d x) d.TH (Zwp (Z4q d) x)
theorem Zes (d:DK):(Z7q d).DI.SD=d.DI.SD.map (stepS d):=by
 show Z5q d=_
 unfold Z5q
 rw [Zxp,List.map_map]
 refine List.map_congr_left fun x _=>?_
 show Z0q (Zzp d (Zwp (Z4q d) x)) d.TH _=Z0q (Zzp d x) d.TH _
 rw [show Zzp d (Zwp (Z4q d) x)=Zzp d x by unfold Zzp;rw [(Zyp (Z4q d) x).1]]
theorem Zfs (d:DK) (x:Side):Zds (stepS d x)=Zds x:=by
 obtain ⟨p1,p2,p3,_⟩:=Z2q (Zzp d x) d.TH (Zwp (Z4q d) x)
 obtain ⟨q1,q2,q3,_⟩:=Zyp (Z4q d) x
 unfold Zds stepS
 rw [p1,p2,p3,q1,q2,q3]
theorem onceT_or (d:DK):Z6q d=d.TH∨d.TH=1∧Z6q d=2∧∀x∈(Z7q d).DI.SD,x.Peer∈d.Need→x.BO=true:=by
 unfold Z6q
 cases hh:decide (d.TH=1)&&(Z5q d).all (fun x=>!Zzp d x||x.BO) with
 | false=>left;rfl
 | true=>
   right
   rw [Bool.and_eq_true,decide_eq_true_eq,List.all_eq_true] at hh
   refine ⟨hh.1,rfl,fun x hx hn=>?_⟩
   have:=hh.2 x hx
   unfold Zzp at this
   simpa [hn] using this
structure FireR (a b:DK):Prop where
 id:b.DI.ID=a.DI.ID
 need:b.Need=a.Need
 core:b.DI.SD.map Zds=a.DI.SD.map Zds
 th:b.TH=a.TH∨a.TH=1∧b.TH=2
theorem FireR.refl (a:DK):FireR a a:=⟨rfl,rfl,rfl,.inl rfl⟩
theorem FireR.once {a b:DK} (h:FireR a b):FireR a (Z7q b):=by
 refine ⟨h.id,h.need,?_,?_⟩
 ·rw [Zes,List.map_map,←h.core]
  exact List.map_congr_left fun x _=>Zfs b x
 ·show Z6q b=a.TH∨a.TH=1∧Z6q b=2
  have:=h.th
  rcases onceT_or b with e | ⟨e1,e2,_⟩
  ·rw [e];exact this
  ·omega
theorem Zgs {P:DK→Prop} (hs:∀d,P d→P (Z7q d)):∀(n:Nat) (d:DK) (out:List Mail),P d→P (Zdq n d out).1
 | 0,_,_,h=>h
 | n+1,d,out,h=>by
   unfold Zdq
   split
   ·exact h
   ·exact Zgs hs n _ _ (hs d h)
theorem Zhs (d:DK):FireR d (Zeq d).1:=Zgs (P:=FireR d) (fun _ h=>h.once) 300 d [] (FireR.refl d)
theorem Zis {S S':List Side} (h:S'.map Zds=S.map Zds) {x:Side} (hx:x∈S'):∃y∈S,y.Peer=x.Peer∧y.Epoch=x.Epoch∧y.State=x.State:=by
 have:Zds x∈S.map Zds:=by rw [←h];exact List.mem_map_of_mem hx
 obtain ⟨y,hy,e⟩:=List.mem_map.1 this
 unfold Zds at e
 simp only [Prod.mk.injEq] at e
 exact ⟨y,hy,e⟩
theorem core_peers {S S':List Side} (h:S'.map Zds=S.map Zds):S'.map (·.Peer)=S.map (·.Peer):=by
 have:=congrArg (List.map fun c:Int×Int×Int=>c.1) h
 rw [List.map_map,List.map_map] at this
 exact this
theorem fireN_fix:∀(n:Nat) (d:DK) (out:List Mail),okD d.DI=true→mu d<n→Z7q (Zdq n d out).1=(Zdq n d out).1
 | 0,_,_,_,h=>by omega
 | n+1,d,out,hk,h=>by
   have hp:=Zgq hk
   unfold Zdq
   by_cases hq:Z7q d=d
   ·rw [if_pos hq];exact hq
   ·rw [if_neg hq]
    rcases once_mu hp.1 hp.2 with h1 | h1
    ·exact absurd h1.1 hq
    ·exact fireN_fix n (Z7q d) _ (once_ok hk) (by omega)
theorem fireDr_fix {d:DK} (h:okD d.DI=true):Z7q (Zeq d).1=(Zeq d).1:=fireN_fix 300 d [] h (by have:=mu_le h;omega)
theorem fireDr_calm {d:DK} (h:Z7q d=d):Zeq d=(d,[]):=by
 unfold Zeq Zdq;rw [if_pos h]
theorem DrOK.once {d:DK} (h:DrOK d):DrOK (Z7q d):=by
 have hk:=(okD_iff _).1 (once_ok ((okD_iff _).2 h.din))
 have hr:=(FireR.refl d).once
 have ht:=hr.th
 have h0:=h.t0
 have h2:=h.t2
 refine ⟨hk,by omega,by omega,h.up,fun e=>h.nz (by omega),fun p hp=>?_⟩
 obtain ⟨x,hx,e⟩:=h.has p hp
 obtain ⟨y,hy,e1,_⟩:=Zis hr.core.symm hx
 exact ⟨y,hy,by omega⟩
theorem DrOK.fire {d:DK} (h:DrOK d):DrOK (Zeq d).1:=Zgs (P:=DrOK) (fun _ h=>h.once) 300 d [] h
def busy (d:DK):Prop:=d.DI.PH≠0∧∃x∈d.DI.SD,x.State=1
theorem busy_once {d:DK} (h:busy d):busy (Z7q d):=by
 obtain ⟨h0,x,hx,h1⟩:=h
 refine ⟨?_,?_⟩
 ·show (Ztp (Z4q d)).PH≠0
  have hp:Z3q d≠0:=by
   unfold Z3q
   have:d.DI.SD.any (fun x=>decide (x.State=1))=true:=List.any_eq_true.2 ⟨x,hx,by simpa using h1⟩
   rw [this,DN h0]
   simp [h0]
  rcases Zbq (Z4q d) with ⟨e,_⟩ | ⟨_,e⟩
  ·rw [e];exact hp
  ·rw [e];omega
 ·obtain ⟨y,hy,_,_,e⟩:=Zis ((FireR.refl d).once).core.symm hx
  exact ⟨y,hy,by omega⟩
theorem busy_fire {d:DK} (h:busy d):busy (Zeq d).1:=Zgs (P:=busy) (fun _ h=>busy_once h) 300 d [] h
def eats (d:DK):Prop:=d.DI.PH=2∧∃x∈d.DI.SD,x.State=1
theorem eats_once {d:DK} (h:eats d):eats (Z7q d):=by
 obtain ⟨h0,x,hx,h1⟩:=h
 refine ⟨?_,?_⟩
 ·show (Ztp (Z4q d)).PH=2
  have hp:Z3q d=2:=by
   unfold Z3q
   have:d.DI.SD.any (fun x=>decide (x.State=1))=true:=List.any_eq_true.2 ⟨x,hx,by simpa using h1⟩
   rw [this,h0]
   simp
  rcases Zbq (Z4q d) with ⟨e,_⟩ | ⟨_,e⟩
  ·rw [e];exact hp
  ·exact e
 ·obtain ⟨y,hy,_,_,e⟩:=Zis ((FireR.refl d).once).core.symm hx
  exact ⟨y,hy,by omega⟩
theorem eats_fire {d:DK} (h:eats d):eats (Zeq d).1:=Zgs (P:=eats) (fun _ h=>eats_once h) 300 d [] h
theorem Zls (n:Node):graB n=n.Book∧graV n=[]∨∃s l,n.Book.Sess=s::l∧s.State=0∧n.DK.TH=2∧graB n=⟨n.Book.Last,⟨s.ID,s.Need,1,s.Age⟩::l⟩∧graV n=[⟨1,n.DK.DI.ID,s.ID,0,[]⟩]:=by
 unfold graB graV Zor
 cases hb:n.Book.Sess with
 | nil=>left;exact ⟨rfl,rfl⟩
 | cons s l=>
   dsimp only
   by_cases h0:s.State=0
   ·rw [if_pos h0,if_pos h0]
    by_cases h2:n.DK.TH=2
    ·right;rw [if_pos h2];dsimp only;rw [if_pos h2];exact ⟨s,l,rfl,h0,h2,rfl,rfl⟩
    ·left;rw [if_neg h2];dsimp only;rw [if_neg h2];exact ⟨rfl,rfl⟩
   ·left;rw [if_neg h0,if_neg h0];exact ⟨rfl,rfl⟩
theorem BkOK.grant {b:Book} (h:BkOK b) {s:Sess} {l:List Sess} (e:b.Sess=s::l):BkOK ⟨b.Last,⟨s.ID,s.Need,1,s.Age⟩::l⟩:=by
 have h1:=h.up
 have h2:=h.len
 have h3:=h.tl
 rw [e] at h1 h2 h3
 have hs:=h.ok s (by rw [e];simp)
 refine ⟨h.last,h2,?_,fun t ht=>?_,h3⟩
 ·rw [List.pairwise_cons] at h1 ⊢;exact h1
 ·rcases List.mem_cons.1 ht with rfl | ht
  ·exact {hs with st:=.inl rfl}
  ·exact h.ok t (by rw [e];exact List.mem_cons_of_mem _ ht)
theorem Zms (n:Node):headQ n=true↔∃s l,n.Book.Sess=s::l∧s.Need=n.DK.Need:=by
 unfold headQ
 split
 ·rename_i h;simp [h]
 ·rename_i s l h
  rw [decide_eq_true_eq]
  constructor
  ·exact fun e=>⟨s,l,h,e⟩
  ·rintro ⟨s',l',h',e⟩
   rw [h] at h';simp only [List.cons.injEq] at h'
   rw [h'.1];exact e
theorem Zns (n:Node):Zxq n=true↔∃s l,n.Book.Sess=s::l∧s.State=1:=by
 unfold Zxq
 split
 ·rename_i h;simp [h]
 ·rename_i s l h
  rw [decide_eq_true_eq]
  constructor
  ·exact fun e=>⟨s,l,h,e⟩
  ·rintro ⟨s',l',h',e⟩
   rw [h] at h';simp only [List.cons.injEq] at h'
   rw [h'.1];exact e
theorem OkN.thirsty {n:Node} (h:OkN n) (h1:n.DK.TH=1):∃s l,n.Book.Sess=s::l∧s.State=0∧s.Need=n.DK.Need:=by
 have hq:=h.hq
 have h6:=(Zbs _).1 h.bk
 obtain ⟨s,l,hb,hn⟩:=(Zms n).1 (by rcases hq with hq | hq;omega;exact hq)
 refine ⟨s,l,hb,?_,hn⟩
 rcases head_or h6 hb with e | e
 ·have:=h.th.2 ((Zns n).2 ⟨s,l,hb,e⟩);omega
 ·exact e
theorem OkN.drinks {n:Node} (h:OkN n) (h1:n.DK.TH=2):∃s l,n.Book.Sess=s::l∧s.State=1∧s.Need=n.DK.Need:=by
 have hq:=h.hq
 obtain ⟨s,l,hb,hn⟩:=(Zms n).1 (by rcases hq with hq | hq;omega;exact hq)
 obtain ⟨s',l',hb',hs⟩:=(Zns n).1 (h.th.1 h1)
 rw [hb] at hb';simp only [List.cons.injEq] at hb'
 exact ⟨s,l,hb,by rw [hb'.1];exact hs,hn⟩
theorem OkN.nowait {n:Node} (h:OkN n) (h1:n.DK.TH=2):Zor n=none:=by
 obtain ⟨s,l,hb,hs,_⟩:=h.drinks h1
 unfold Zor;rw [hb];dsimp only;rw [if_neg (by omega)]
theorem OkN.firgra {m:Node} (h:OkN m):OkN (Ztr (Zsr m)):=by
 have hR:=Zhs m.DK
 have h9:=(Zbs _).1 h.bk
 have hc:=h.dr.fire
 have h8:(Ztr (Zsr m)).DK.DI.ID=m.DK.DI.ID:=hR.id
 have side:∀ {x:Side},x∈(Ztr (Zsr m)).DK.DI.SD→∃y∈m.DK.DI.SD,y.Peer=x.Peer∧y.Epoch=x.Epoch∧y.State=x.State:=fun hx=>Zis hR.core hx
 have edis:∀ {x:Side},x∈m.DK.DI.SD→∃y∈(Ztr (Zsr m)).DK.DI.SD,y.Peer=x.Peer∧y.Epoch=x.Epoch∧y.State=x.State:=fun hx=>Zis hR.core.symm hx
 have hg:=Zls (Zsr m)
 have hb':(Ztr (Zsr m)).Book=graB (Zsr m):=rfl
 have ht':(Ztr (Zsr m)).DK.TH=(Zeq m.DK).1.TH:=rfl
 have hd:=hR.th
 refine ⟨hc,?_,fun k hk=>?_,h.dis,by rw [h8];exact h.id,h.kup,h.kr,fun x hx=>?_,h.told,fun p hp=>?_,?_,?_,fun x hx hn=>?_,fun s hs h0 p hp=>?_⟩
 ·rw [hb',Zbs]
  rcases hg with ⟨e,_⟩ | ⟨s,l,e1,_,_,e2,_⟩
  ·rw [e];exact h9
  ·rw [e2];exact h9.grant e1
 ·have hm:=h.may k hk
  rw [h8]
  exact ⟨fun x hx=>by obtain ⟨y,hy,e,_⟩:=side hx;rw [←e];exact hm.1 y hy,hm.2⟩
 ·obtain ⟨y,hy,e1,e2,e3⟩:=side hx
  have:=h.sd y hy
  rw [h8,←e1,←e2,←e3];exact this
 ·obtain ⟨x,hx,h1,e⟩:=h.tin p hp
  obtain ⟨y,hy,e1,_,e3⟩:=edis hx
  exact ⟨y,hy,by omega,by omega⟩
 ·rw [Zns,hb',ht']
  constructor
  ·intro h2
   rcases hg with ⟨e,_⟩ | ⟨s,l,e1,_,_,e2,_⟩
   ·rw [e]
    rcases hd with q | ⟨q1,_⟩
    ·exact (Zns m).1 (h.th.1 (by omega))
    ·exfalso
     obtain ⟨s,l,hb,hs,_⟩:=h.thirsty q1
     have:graB (Zsr m)=⟨m.Book.Last,⟨s.ID,s.Need,1,s.Age⟩::l⟩:=by
      unfold graB
      rw [show (Zsr m).Book.Sess=s::l from hb]
      dsimp only
      rw [if_pos hs,if_pos (show (Zsr m).DK.TH=2 from h2)];rfl
     rw [this] at e
     have e:=congrArg Book.Sess e
     rw [show (Zsr m).Book.Sess=s::l from hb] at e
     simp only [List.cons.injEq] at e
     have:=congrArg Sess.State e.1
     simp only at this;omega
   ·rw [e2];exact ⟨_,l,rfl,rfl⟩
  ·rintro ⟨s',l',e',hs'⟩
   rcases hg with ⟨e,_⟩ | ⟨s,l,e1,_,e3,_,_⟩
   ·rw [e] at e'
    have:=h.th.2 ((Zns m).2 ⟨s',l',e',hs'⟩)
    omega
   ·exact e3
 ·rw [ht']
  rcases h.hq with q | q
  ·left;omega
  ·right
   obtain ⟨s,l,hb,hn⟩:=(Zms m).1 q
   rw [Zms,hb']
   have h6:(Ztr (Zsr m)).DK.Need=m.DK.Need:=hR.need
   rw [h6]
   rcases hg with ⟨e,_⟩ | ⟨s',l',e1,_,_,e2,_⟩
   ·rw [e];exact ⟨s,l,hb,hn⟩
   ·rw [e2]
    have e1:m.Book.Sess=s'::l':=e1
    rw [hb] at e1;simp only [List.cons.injEq] at e1
    exact ⟨_,l',rfl,by rw [←hn,e1.1]⟩
 ·have h6:(Ztr (Zsr m)).DK.Need=m.DK.Need:=hR.need
  rw [h6] at hn
  obtain ⟨y,hy,e1,_,e3⟩:=side hx
  rw [←e3];rw [←e1] at hn
  exact h.nl y hy hn
 ·rw [hb'] at hs
  have hs':s∈m.Book.Sess:=by
   rcases hg with ⟨e,_⟩ | ⟨s',l',e1,_,_,e2,_⟩
   ·rw [e] at hs;exact hs
   ·rw [e2] at hs
    rcases List.mem_cons.1 hs with rfl | hs
    ·exact absurd h0 (by show ¬(1:Int)=0;omega)
    ·have e1:m.Book.Sess=s'::l':=e1
     rw [e1];exact List.mem_cons_of_mem _ hs
  obtain ⟨x,hx,e0,e⟩:=h.wt s hs' h0 p hp
  obtain ⟨y,hy,e1,_,e3⟩:=edis hx
  exact ⟨y,hy,by omega,by omega⟩
theorem Zos (id:Int):∀(S:List Side) (T:List Int) (E:List Mail) (p:Int),p∈(Zbr id S T E).1↔p∈T∨∃x∈S,x.State=1∧x.Peer=p
 | [],T,E,p=>by simp [Zbr]
 | x::S,T,E,p=>by
   have hs:=(Z1p (T++[x.Peer])).2
   unfold Zbr
   cases hu:Zar T x with
   | true=>
     rw [if_pos rfl,Zos id S]
     unfold Zar Zpq at hu
     rw [Bool.and_eq_true,decide_eq_true_eq] at hu
     rw [hs,List.mem_append,List.mem_singleton]
     constructor
     ·rintro ((h | h) | ⟨y,hy,h⟩)
      ·exact .inl h
      ·exact .inr ⟨x,by simp,hu.1,h.symm⟩
      ·exact .inr ⟨y,List.mem_cons_of_mem _ hy,h⟩
     ·rintro (h | ⟨y,hy,h⟩)
      ·exact .inl (.inl h)
      ·rcases List.mem_cons.1 hy with rfl | hy
       ·exact .inl (.inr h.2.symm)
       ·exact .inr ⟨y,hy,h⟩
   | false=>
     rw [if_neg (by simp),Zos id S]
     unfold Zar Zpq at hu
     rw [Bool.and_eq_false_iff,decide_eq_false_iff_not,Bool.not_eq_false',decide_eq_true_eq] at hu
     constructor
     ·rintro (h | ⟨y,hy,h⟩)
      ·exact .inl h
      ·exact .inr ⟨y,List.mem_cons_of_mem _ hy,h⟩
     ·rintro (h | ⟨y,hy,h⟩)
      ·exact .inl h
      ·rcases List.mem_cons.1 hy with rfl | hy
       ·rcases hu with hu | hu
        ·exact absurd h.1 hu
        ·rw [h.2] at hu;exact .inl hu
       ·exact .inr ⟨y,hy,h⟩
theorem tellR_up (id:Int):∀(S:List Side) (T:List Int) (E:List Mail),T.Pairwise (· < ·)→(Zbr id S T E).1.Pairwise (· < ·)
 | [],T,E,h=>h
 | x::S,T,E,h=>by
   unfold Zbr
   split
   ·exact tellR_up id S _ _ (Z1p _).1
   ·exact tellR_up id S _ _ h
theorem Zqs (id:Int):∀(S:List Side) (T:List Int) (E:List Mail),(∀x∈S,Zar T x=false)→Zbr id S T E=(T,E)
 | [],T,E,_=>rfl
 | x::S,T,E,h=>by
   unfold Zbr
   rw [h x (by simp),if_neg (by simp)]
   exact Zqs id S T E fun y hy=>h y (List.mem_cons_of_mem _ hy)
theorem Zrs (n:Node) (p:Int):p∈(Zur n).1↔p∈n.Told∨n.DK.DI.PH=2∧∃x∈n.DK.DI.SD,x.State=1∧x.Peer=p:=by
 unfold Zur
 split
 ·rename_i h;rw [Zos];simp [h]
 ·rename_i h;simp [h]
theorem OkN.tel {m:Node} (h:OkN m):OkN (Zvr m):=by
 refine {h with told:=?_,tin:=fun p hp=>?_}
 ·show (Zur m).1.Pairwise _
  unfold Zur
  split
  ·exact tellR_up _ _ _ _ h.told
  ·exact h.told
 ·rcases (Zrs m p).1 hp with hp | ⟨_,hp⟩
  ·exact h.tin p hp
  ·exact hp
theorem Zss {id th:Int} {N:List Int} {S:List Side} {x:Side} (h:x∈Zgr id th N S):∃y∈S,(x=y∧Zdr th N y=false)∨(Zdr th N y=true∧id<y.Peer∧x={y with State:=3}):=by
 obtain ⟨y,hy,e⟩:=List.mem_filterMap.1 h
 refine ⟨y,hy,?_⟩
 unfold Zer at e
 cases hg:Zdr th N y with
 | false=>rw [hg,if_neg (by simp)] at e;simp at e;exact .inl ⟨e.symm,rfl⟩
 | true=>
   rw [hg,if_pos rfl] at e
   split at e
   ·simp at e;exact .inr ⟨rfl,by assumption,e.symm⟩
   ·simp at e
theorem Zts {id th:Int} {N:List Int} {S:List Side} {y:Side} (h:y∈S) (hg:Zdr th N y=false):y∈Zgr id th N S:=
 List.mem_filterMap.2 ⟨y,h,by unfold Zer;rw [hg,if_neg (by simp)]⟩
theorem Zus {th:Int} {N:List Int} {x:Side} (h:Zdr th N x=true):x.State=2:=by
 unfold Zdr at h;rw [Bool.and_eq_true,decide_eq_true_eq] at h;exact h.1
theorem Zvs {th:Int} {N:List Int} {x:Side} (h:x.State≠2):Zdr th N x=false:=by
 unfold Zdr;rw [DN h];rfl
theorem OkN.needed {m:Node} (h:OkN m) {x:Side} (hx:x∈m.DK.DI.SD) (hn:x.Peer∈m.DK.Need):Zdr m.DK.TH m.DK.Need x=false:=by
 cases hg:Zdr m.DK.TH m.DK.Need x with
 | false=>rfl
 | true=>
   exfalso
   have h2:=Zus hg
   unfold Zdr at hg
   rw [DT h2,DT hn] at hg
   simp at hg
   have h0:=h.dr.t0
   have ht:=h.dr.t2
   have hz:m.DK.TH≠0:=fun e=>by rw [h.dr.nz e] at hn;simp at hn
   obtain ⟨s,l,hb,hs,e⟩:=h.thirsty (by omega)
   obtain ⟨y,hy,h6,ey⟩:=h.wt s (by rw [hb];simp) hs x.Peer (by rw [e];exact hn)
   have:=up_eq h.rowS.up hx hy ey.symm
   subst this;omega
theorem OkN.lea {m:Node} (h:OkN m):OkN (leaN m):=by
 have h8:∀ {x:Side},x∈(leaN m).DK.DI.SD→∃y∈m.DK.DI.SD,(x=y∧Zdr m.DK.TH m.DK.Need y=false)∨(Zdr m.DK.TH m.DK.Need y=true∧m.DK.DI.ID<y.Peer∧x={y with State:=3}):=fun hx=>Zss hx
 have hc:∀ {x:Side},x∈(leaN m).DK.DI.SD→∃y∈m.DK.DI.SD,x.Peer=y.Peer:=fun hx=>by
  obtain ⟨y,hy,(⟨rfl,_⟩ | ⟨_,_,rfl⟩)⟩:=h8 hx
  ·exact ⟨_,hy,rfl⟩
  ·exact ⟨y,hy,rfl⟩
 have h9:∀ {y:Side},y∈m.DK.DI.SD→Zdr m.DK.TH m.DK.Need y=false→y∈(leaN m).DK.DI.SD:=fun hy hg=>Zts hy hg
 have h6:=h.dr.din
 refine ⟨⟨⟨h6.id0,h6.p0,h6.p2,?_,?_,fun x hx=>?_⟩,h.dr.t0,h.dr.t2,h.dr.up,h.dr.nz,fun p hp=>?_⟩,h.bk,fun k hk=>⟨fun x hx=>?_,(h.may k hk).2⟩,h.dis,h.id,h.kup,h.kr,fun x hx=>?_,h.told,fun p hp=>?_,h.th,h.hq,fun x hx hn=>?_,fun s hs h0 p hp=>?_⟩
 ·have:=leavS_len m.DK.DI.ID m.DK.TH m.DK.Need m.DK.DI.SD
  have:=h6.len
  show (Zgr _ _ _ _).length<64
  omega
 ·show (Zgr _ _ _ _).Pairwise _
  unfold Zgr
  rw [List.pairwise_filterMap]
  refine h6.up.imp fun {a b} hd y hy z hz=>?_
  have e:∀ {a y:Side},Zer m.DK.DI.ID m.DK.TH m.DK.Need a=some y→y.Peer=a.Peer:=by
   intro a y hy
   unfold Zer at hy
   split at hy
   ·split at hy
    ·simp at hy;subst hy;rfl
    ·simp at hy
   ·simp at hy;subst hy;rfl
  rw [e hy,e hz];exact hd
 ·obtain ⟨y,hy,(⟨rfl,_⟩ | ⟨_,_,rfl⟩)⟩:=h8 hx
  ·exact h6.side _ hy
  ·have:=h6.side y hy
   exact ⟨this.lo,this.ne,this.e0,this.e1,by show (0:Int)≤3;omega,by show (3:Int)≤3;omega,this.df⟩
 ·obtain ⟨x,hx,e⟩:=h.dr.has p hp
  exact ⟨x,h9 hx (h.needed hx (by rw [e];exact hp)),e⟩
 ·obtain ⟨y,hy,e⟩:=hc hx
  rw [e];exact (h.may k hk).1 y hy
 ·obtain ⟨y,hy,(⟨rfl,_⟩ | ⟨_,hi,rfl⟩)⟩:=h8 hx
  ·exact h.sd _ hy
  ·have:=h.sd y hy
   exact ⟨this.1,this.2.1,this.2.2.1,fun _=>by show m.DK.DI.ID≤y.Peer;omega⟩
 ·obtain ⟨x,hx,h1,e⟩:=h.tin p hp
  exact ⟨x,h9 hx (Zvs (by omega)),h1,e⟩
 ·obtain ⟨y,hy,(⟨rfl,_⟩ | ⟨hg,_,rfl⟩)⟩:=h8 hx
  ·exact h.nl _ hy hn
  ·have:=h.needed hy hn
   rw [hg] at this;simp at this
 ·obtain ⟨x,hx,e0,e⟩:=h.wt s hs h0 p hp
  exact ⟨x,h9 hx (Zvs (by omega)),e0,e⟩
theorem OkN.once {n:Node} (h:OkN n):OkN (Zzr n):=h.pre.firgra.tel.lea
theorem Known_eqB (x y:KE):(decide (x.Peer=y.Peer)&&(decide (x.Epoch=y.Epoch)&&true))=decide (x=y):=by
 obtain ⟨a,b⟩:=x;obtain ⟨c,d⟩:=y
 simp only [KE.mk.injEq,Bool.and_true]
 by_cases h1:a=c<;>by_cases h2:b=d<;>simp [h1,h2]
theorem Zws (l m:List KE) (hl:l.length≤1000000):Zu9 l m=some (decide (l=m)):=by
 simp only [Zu9,Zlo]
 by_cases h:l.length=m.length
 ·simp only [h,decide_true,Bool.not_true,Zvn]
  rw [Zio l m _ (fun x y=>decide (x=y)) h (by omega) (fun k x y hx hy=>by
   simp only [Zt9,Z0o hx,Zun,Zyn hx,Zyn hy,OB,Known_eqB,Z3o hx (show l.length≤4000000000000000000 by omega),Zwn]
   cases decide (x=y)<;>rfl) (by simp only [Zt9,Z1o,Zvn,Zs9,Option.map_some]),Zjo l m h]
 ·simp [h,Zko h]
theorem s_sessSame1 (x y:Sess) (hx:x.Need.length≤1000000):Zhc x y=some (decide (x=y)):=by
 obtain ⟨i,n,s,a⟩:=x;obtain ⟨i',n',s',a'⟩:=y
 simp only at hx
 simp only [Zhc,Zgc,Zfq n n' hx,OB,Sess.mk.injEq]
 by_cases h1:i=i'<;>by_cases h2:s=s'<;>by_cases h3:a=a'<;>by_cases h4:n=n'<;>simp [h1,h2,h3,h4]
theorem s_sessSame (b c:Book) (hb:Z7p b):Zje b c=some (decide (b=c)):=by
 obtain ⟨L,l⟩:=b;obtain ⟨L',m⟩:=c
 have h1:l.length≤1000000:=hb.1
 have h2:∀s∈l,s.Need.length≤1000000:=hb.2
 have e:Zq9 l m (fun z=>Zhc z.1 z.2)=some (decide (l=m)):=by
  simp only [Zq9,Zlo]
  by_cases h:l.length=m.length
  ·simp only [h,decide_true,Bool.not_true,Zvn]
   rw [Zio l m _ (fun x y=>decide (x=y)) h (by omega) (fun k x y hx hy=>by
    have hm:=h2 x (List.mem_of_getElem? hx)
    simp only [Zp9,Z0o hx,Zun,Zyn hx,Zyn hy,OB,s_sessSame1 x y hm,Z3o hx (show l.length≤4000000000000000000 by omega),Zwn]
    cases decide (x=y)<;>rfl) (by simp only [Zp9,Z1o,Zvn,Zo9,Option.map_some]),Zjo l m h]
  ·simp [h,Zko h]
 simp only [Zje,Zie,e,OB,Book.mk.injEq]
 by_cases q1:L=L'<;>by_cases q2:l=m<;>simp [q1,q2]
theorem s_nSame (a b:Node) (h:FewN a):Zyf a b=some (decide (a=b)):=by
 have h1:=h.sides
 have h2:=h.need
 have h3:=h.told
 have h4:=h.known
 have h5:=h.asked
 obtain ⟨d,k,K,T,A⟩:=a
 obtain ⟨d',k',K',T',A'⟩:=b
 simp only at h1 h2 h3 h4 h5
 simp only [Zyf,Zxf,s_drSame d d' (by omega) (by omega),s_sessSame k k' h.bk,Zws K K' (by omega),Zws A A' (by omega),Zfq T T' (by omega),OB,Node.mk.injEq]
 by_cases q1:d=d'<;>by_cases q2:k=k'<;>by_cases q3:K=K'<;>by_cases q4:T=T'<;>by_cases q5:A=A'<;>simp [q1,q2,q3,q4,q5]
theorem Zxs (l:List KE) (h:l.length≤1000000):Zu8 l=some l:=by
 simp only [Zu8]
 rw [Zzn _ _ (by omega) (by simp;omega),List.nil_append]
theorem s_own4 (n:Node) (a b c d:Int) (h:FewN n):Zpe a b c d n.Book.Sess n.Told n.DK.DI.SD n.DK.Need n.KN n.AK=some (n.DK.DI.SD,n.DK.Need,n.KN,n.Told,n.AK,n.Book.Sess):=by
 have h1:=h.sides
 have h2:=h.need
 have h3:=h.told
 have h4:=h.known
 have h5:=h.asked
 have h6:=h.book
 dsimp only [Zpe,Zoe,Zne]
 rw [Znp _ (by omega),OB,Zap _ (by omega),OB,Zxs _ (by omega),OB,Zap _ (by omega),OB,Zxs _ (by omega),OB,Zbp _ (by omega),OB]
 refine Zbo n.Book.Sess _ (fun pre=>((pre.length:Int),n.Book.Sess)) _ (fun pre x post h0=>?_) ?_
 ·have hx:=Zco h0
  have hm:=Zdo h0
  have hN:=h.needs x (Zeo h0)
  dsimp only [Zme,Zle]
  rw [Z0o hx,Zun,Zyn hx,OB,Zap _ (by omega),OB,Z2o (by omega),Int.toNat_natCast,set_same hx,Zho]
 ·dsimp only [Zme,Zke]
  rw [Z1o,Zvn];rfl
theorem s_own2 (n:Node) (h:FewN n):Z8e n=some (n.DK.DI.SD,n.DK.Need,n.KN,n.Told,n.AK,n.Book.Sess):=by
 have h1:=h.sides
 have h2:=h.need
 have h3:=h.told
 have h4:=h.known
 have h5:=h.asked
 have h6:=h.book
 dsimp only [Z8e,Z7e,Z6e]
 rw [Znp _ (by omega),OB,Zap _ (by omega),OB,Zxs _ (by omega),OB,Zap _ (by omega),OB,Zxs _ (by omega),OB,Zbp _ (by omega),OB]
 refine Zbo n.Book.Sess _ (fun pre=>((pre.length:Int),n.Book.Sess)) _ (fun pre x post h0=>?_) ?_
 ·have hx:=Zco h0
  have hm:=Zdo h0
  have hN:=h.needs x (Zeo h0)
  dsimp only [Z5e,Z4e]
  rw [Z0o hx,Zun,Zyn hx,OB,Zap _ (by omega),OB,Z2o (by omega),Int.toNat_natCast,set_same hx,Zho]
 ·dsimp only [Z5e,Z3e]
  rw [Z1o,Zvn];rfl
structure Quiet (n:Node):Prop where
 ask:n.DK.DI.PH=2∨n.AK=[]
 thi:Zor n=none∨n.DK.TH≠0
 hun:n.DK.DI.PH≠0∨n.DK.DI.SD.any (Zar n.Told)=false
 fire:Z7q n.DK=n.DK
 tel:n.DK.DI.PH≠2∨n.DK.DI.SD.any (Zar n.Told)=false
 lea:n.DK.DI.SD.any (Zdr n.DK.TH n.DK.Need)=false
theorem Quiet.pre {n:Node} (h:Quiet n):Zxr n=n∧Znr n=n∧ansNM n=[]∧ansNV n=[]:=by
 obtain ⟨⟨⟨id,ph,S⟩,th,N⟩,B,K,T,A⟩:=n
 have ha:=h.ask
 have ht:=h.thi
 have hh:=h.hun
 simp only at ha ht hh
 have e1:Znr ⟨⟨⟨id,ph,S⟩,th,N⟩,B,K,T,A⟩=⟨⟨⟨id,ph,S⟩,th,N⟩,B,K,T,A⟩∧ansNM ⟨⟨⟨id,ph,S⟩,th,N⟩,B,K,T,A⟩=[]∧ansNV ⟨⟨⟨id,ph,S⟩,th,N⟩,B,K,T,A⟩=[]:=by
  unfold Znr ansNM ansNV
  dsimp only
  split
  ·exact ⟨rfl,rfl,rfl⟩
  ·rename_i h2
   rcases ha with ha | ha
   ·exact absurd ha h2
   ·subst ha;exact ⟨rfl,rfl,rfl⟩
 have e2:Zqr ⟨⟨⟨id,ph,S⟩,th,N⟩,B,K,T,A⟩=⟨⟨⟨id,ph,S⟩,th,N⟩,B,K,T,A⟩:=by
  unfold Zqr Zpr
  split
  ·rename_i s hw
   rcases ht with ht | ht
   ·rw [hw] at ht;simp at ht
   ·dsimp only;rw [if_neg ht]
  ·rfl
 have e3:Zrr ⟨⟨⟨id,ph,S⟩,th,N⟩,B,K,T,A⟩=⟨⟨⟨id,ph,S⟩,th,N⟩,B,K,T,A⟩:=by
  unfold Zrr hunP
  dsimp only
  rcases hh with hh | hh
  ·rw [DN hh];rfl
  ·rw [hh,Bool.and_false];rfl
 unfold Zxr
 rw [e1.1,e2,e3]
 exact ⟨rfl,rfl,e1.2⟩
theorem any_all {α:Type} {l:List α} {q:α→Bool} (h:l.any q=false):∀x∈l,q x=false:=by
 rw [List.any_eq_false] at h
 intro x hx;simpa using h x hx
theorem Quiet.once {n:Node} (hk:OkN n) (h:Quiet n):Zzr n=n∧Z0s n=[]∧Z1s n=[]:=by
 obtain ⟨p1,p2,p3,p4⟩:=h.pre
 have hf:=fireDr_calm h.fire
 have hm:Zyr n=n:=by unfold Zyr;rw [p1];unfold Zsr;rw [hf]
 have hg:Ztr n=n∧graV n=[]:=by
  rcases Zls n with ⟨e1,e2⟩ | ⟨s,l,e1,e2,e3,_⟩
  ·exact ⟨by unfold Ztr;rw [e1],e2⟩
  ·exfalso
   have:=hk.nowait e3
   unfold Zor at this
   rw [e1] at this
   dsimp only at this
   rw [if_pos e2] at this;simp at this
 have ht:Zvr n=n∧(Zur n).2=[]:=by
  have:Zur n=(n.Told,[]):=by
   unfold Zur
   split
   ·rename_i h2
    rcases h.tel with q | q
    ·exact absurd h2 q
    ·exact Zqs _ _ _ _ (any_all q)
   ·rfl
  unfold Zvr;rw [this];exact ⟨rfl,rfl⟩
 have hl:=Zir (id:=n.DK.DI.ID) (any_all h.lea)
 have h6:leaN n=n:=by unfold leaN;rw [hl.1]
 unfold Zzr Z0s Z1s Zwr
 rw [hm,hg.1,ht.1,h6,p1,p3,p4,hg.2,ht.2,hf,hl.2]
 exact ⟨rfl,rfl,rfl⟩
theorem Zys (n:Node):(Znr n).Told=n.Told∧(Znr n).Book=n.Book∧(Znr n).DK.TH=n.DK.TH∧(Znr n).DK.Need=n.DK.Need∧(Znr n).DK.DI.ID=n.DK.DI.ID∧(Znr n).DK.DI.PH=n.DK.DI.PH:=by
 unfold Znr
 split<;>exact ⟨rfl,rfl,rfl,rfl,rfl,rfl⟩
theorem ans_side {n:Node} {x:Side} (h:x∈(Znr n).DK.DI.SD):x∈n.DK.DI.SD∨∃k∈n.AK,x=newS k:=by
 unfold Znr at h
 split at h
 ·exact .inl h
 ·exact ansS_mem.1 h
theorem Zzs {n:Node} {x:Side} (h:x∈n.DK.DI.SD):x∈(Znr n).DK.DI.SD:=by
 unfold Znr
 split
 ·exact h
 ·exact ansS_mem.2 (.inl h)
theorem Z0t (n:Node):(Zqr n).DK.DI=n.DK.DI:=by
 show (Zpr n).DI=_
 unfold Zpr
 split
 ·split<;>rfl
 ·rfl
theorem Z1t (n:Node):(Zxr n).DK.DI.SD=(Znr n).DK.DI.SD:=by
 show (Zqr (Znr n)).DK.DI.SD=_
 rw [Z0t]
theorem waits_ans (n:Node):Zor (Znr n)=Zor n:=by
 unfold Zor;rw [(Zys n).2.1]
theorem pre_phase (n:Node):(Zxr n).DK.DI.PH=if decide (n.DK.DI.PH=0)&&(Znr n).DK.DI.SD.any (Zar n.Told) then 1 else n.DK.DI.PH:=by
 show hunP (Zqr (Znr n))=_
 unfold hunP
 rw [Z0t,(Zys n).2.2.2.2.2,show (Zqr (Znr n)).Told=n.Told from (Zys n).1]
theorem pre_th (n:Node):(Zor n=none∨n.DK.TH≠0)∧(Zxr n).DK.TH=n.DK.TH∧(Zxr n).DK.Need=n.DK.Need∨n.DK.TH=0∧∃s,Zor n=some s∧(Zxr n).DK.TH=1∧(Zxr n).DK.Need=s.Need:=by
 have e1:(Zxr n).DK.TH=(Zpr (Znr n)).TH:=rfl
 have e2:(Zxr n).DK.Need=(Zpr (Znr n)).Need:=rfl
 rw [e1,e2]
 unfold Zpr
 rw [waits_ans,(Zys n).2.2.1]
 cases hw:Zor n with
 | none=>left;exact ⟨.inl rfl,(Zys n).2.2.1,(Zys n).2.2.2.1⟩
 | some s=>
   by_cases h0:n.DK.TH=0
   ·right;dsimp only;rw [if_pos h0];exact ⟨h0,s,rfl,rfl,rfl⟩
   ·left;dsimp only;rw [if_neg h0];exact ⟨.inr h0,(Zys n).2.2.1,(Zys n).2.2.2.1⟩
theorem mid_side {n:Node} {x:Side} (h:x∈(Zyr n).DK.DI.SD):∃y∈(Znr n).DK.DI.SD,y.Peer=x.Peer∧y.Epoch=x.Epoch∧y.State=x.State:=by
 have:=Zis (Zhs (Zxr n).DK).core h
 rw [Z1t] at this;exact this
theorem once_side {n:Node} {x:Side} (h:x∈(Zzr n).DK.DI.SD):∃y∈(Znr n).DK.DI.SD,y.Peer=x.Peer∧y.Epoch=x.Epoch∧(y.State=x.State∨y.State=2∧x.State=3):=by
 obtain ⟨z,hz,hq⟩:=Zss h
 obtain ⟨y,hy,e1,e2,e3⟩:=mid_side (n:=n) hz
 refine ⟨y,hy,?_⟩
 rcases hq with ⟨rfl,_⟩ | ⟨hg,_,rfl⟩
 ·exact ⟨e1,e2,.inl e3⟩
 ·exact ⟨e1,e2,.inr ⟨by rw [e3];exact Zus hg,rfl⟩⟩
theorem told_sub {n:Node} {p:Int} (h:p∈n.Told):p∈(Zzr n).Told:=(Zrs (Ztr (Zyr n)) p).2 (.inl (by
 show p∈(Znr n).Told
 rw [(Zys n).1];exact h))
theorem once_unt {n:Node} (h:(Zzr n).DK.DI.SD.any (Zar (Zzr n).Told)=true):∃z∈n.DK.DI.SD,Zar n.Told z=true:=by
 obtain ⟨x,hx,hu⟩:=List.any_eq_true.1 h
 unfold Zar Zpq at hu ⊢
 simp only [Bool.and_eq_true,decide_eq_true_eq,Bool.not_eq_true',decide_eq_false_iff_not] at hu ⊢
 obtain ⟨y,hy,e1,e2,e3⟩:=once_side hx
 rcases ans_side hy with hy | ⟨k,_,rfl⟩
 ·exact ⟨y,hy,by omega,fun hm=>hu.2 (by rw [←e1];exact told_sub hm)⟩
 ·exfalso;have:(newS k).State=0:=rfl;omega
def thM (th:Int):Nat:=if th=0 then 2 else if th=1 then 1 else 0
def gosN (n:Node):Bool:=n.DK.DI.SD.any (Zdr n.DK.TH n.DK.Need)
def untN (n:Node):Bool:=n.DK.DI.SD.any (Zar n.Told)
def meas (n:Node):Nat:=bn (!n.AK.isEmpty)+thM n.DK.TH+bn (decide (n.DK.DI.PH=0)&&untN n)+bn (!decide (Z7q n.DK=n.DK))+bn (untN n)+2*bn (gosN n)
theorem bn_le (b:Bool):bn b≤1:=by cases b<;>simp [bn]
theorem bn_mono {a b:Bool} (h:a=true→b=true):bn a≤bn b:=by
 cases a with
 | false=>simp [bn]
 | true=>rw [h rfl];exact Nat.le_refl _
theorem bn_f {a:Bool} (h:a=false):bn a=0:=by rw [h];rfl
theorem bn_t {a:Bool} (h:a=true):bn a=1:=by rw [h];rfl
theorem Z2t (n:Node):(Zzr n).AK=if n.DK.DI.PH=2 then n.AK else []:=by
 show (Znr n).AK=_
 unfold Znr
 split<;>rfl
theorem once_gos (n:Node):gosN (Zzr n)=false:=by
 unfold gosN
 rw [List.any_eq_false]
 intro x hx
 have:=leav_done _ _ _ _ x hx
 rw [show (Zzr n).DK.TH=(Zvr (Ztr (Zyr n))).DK.TH from rfl,show (Zzr n).DK.Need=(Zvr (Ztr (Zyr n))).DK.Need from rfl,this]
 simp
theorem once_th (n:Node) (h:OkN n):(thM (Zzr n).DK.TH≤thM n.DK.TH)∧((Zor n=none∨n.DK.TH≠0)∨thM (Zzr n).DK.TH<thM n.DK.TH):=by
 have hR:=(Zhs (Zxr n).DK).th
 have e:(Zzr n).DK.TH=(Zeq (Zxr n).DK).1.TH:=rfl
 have h0:=h.dr.t0
 have h2:=h.dr.t2
 rw [e]
 unfold thM
 rcases pre_th n with ⟨q1,q2,_⟩ | ⟨q1,s,_,q2,_⟩
 ·refine ⟨?_,.inl q1⟩
  (repeat' split)<;>omega
 ·refine ⟨?_,.inr ?_⟩<;>(repeat' split)<;>omega
theorem mid_gos {n:Node} (hg:gosN n=false):∀x∈(Zyr n).DK.DI.SD,Zdr (Zyr n).DK.TH (Zyr n).DK.Need x=false:=by
 intro x hx
 by_cases h2:x.State=2
 ·obtain ⟨y,hy,e1,_,e3⟩:=mid_side hx
  rcases ans_side hy with hy | ⟨k,_,rfl⟩
  ·have:=any_all hg y hy
   unfold Zdr at this ⊢
   rw [DT (show y.State=2 by omega),Bool.true_and,Bool.not_eq_false',Bool.and_eq_true,decide_eq_true_eq,decide_eq_true_eq] at this
   have hR:=Zhs (Zxr n).DK
   have h9:=hR.th
   have h6:(Zyr n).DK.Need=(Zxr n).DK.Need:=hR.need
   have h8:(Zyr n).DK.TH=(Zeq (Zxr n).DK).1.TH:=rfl
   rcases pre_th n with ⟨_,q2,q3⟩ | ⟨q1,_⟩
   ·rw [h6,q3,h8,DT (show (Zeq (Zxr n).DK).1.TH=2 by omega),←e1,DT this.2]
    simp
   ·omega
  ·exfalso;have:(newS k).State=0:=rfl;omega
 ·exact Zvs h2
theorem once_fix {n:Node} (h:OkN n) (hg:gosN n=false):Z7q (Zzr n).DK=(Zzr n).DK:=by
 have hc:=Zir (id:=(Zyr n).DK.DI.ID) (mid_gos hg)
 have e:(Zzr n).DK=(Zyr n).DK:=by
  show (⟨⟨(Zyr n).DK.DI.ID,(Zyr n).DK.DI.PH,Zgr (Zyr n).DK.DI.ID (Zyr n).DK.TH (Zyr n).DK.Need (Zyr n).DK.DI.SD⟩,(Zyr n).DK.TH,(Zyr n).DK.Need⟩:DK)=_
  rw [hc.1]
 rw [e]
 exact fireDr_fix ((okD_iff _).2 h.pre.dr.din)
theorem once_hun {n:Node} (hu:untN (Zzr n)=true):(Zzr n).DK.DI.PH≠0:=by
 obtain ⟨z,hz,hz'⟩:=once_unt hu
 have hs:z.State=1:=by unfold Zar Zpq at hz';rw [Bool.and_eq_true,decide_eq_true_eq] at hz';exact hz'.1
 have hb:busy (Zxr n).DK:=by
  refine ⟨?_,z,by rw [Z1t];exact Zzs hz,hs⟩
  rw [pre_phase]
  split
  ·omega
  ·rename_i hc
   intro e
   exact hc (by rw [DT e,Bool.true_and];exact List.any_eq_true.2 ⟨z,Zzs hz,hz'⟩)
 exact (busy_fire hb).1
theorem pre_eats {n:Node} (h:eats n.DK):eats (Zxr n).DK:=by
 obtain ⟨h1,x,hx,h2⟩:=h
 refine ⟨?_,x,by rw [Z1t];exact Zzs hx,h2⟩
 rw [pre_phase,DN (by omega)]
 exact h1
theorem once_tel {n:Node} (hp:n.DK.DI.PH=2):untN (Zzr n)=false:=by
 cases hu:untN (Zzr n) with
 | false=>rfl
 | true=>
   exfalso
   obtain ⟨x,hx,h6⟩:=List.any_eq_true.1 hu
   obtain ⟨z,hz,hz'⟩:=once_unt hu
   have hs:z.State=1:=by unfold Zar Zpq at hz';rw [Bool.and_eq_true,decide_eq_true_eq] at hz';exact hz'.1
   have he:=eats_fire (pre_eats (n:=n) ⟨hp,z,hz,hs⟩)
   unfold Zar Zpq at h6
   simp only [Bool.and_eq_true,decide_eq_true_eq,Bool.not_eq_true',decide_eq_false_iff_not] at h6
   refine h6.2 ?_
   refine (Zrs (Ztr (Zyr n)) x.Peer).2 (.inr ⟨he.1,?_⟩)
   obtain ⟨y,hy,hq⟩:=Zss hx
   rcases hq with ⟨rfl,_⟩ | ⟨_,_,rfl⟩
   ·exact ⟨_,hy,h6.1,rfl⟩
   ·exact absurd h6.1 (by show ¬(3:Int)=1;omega)
theorem Z3t {n:Node} (h:OkN n):Quiet n∨meas (Zzr n)<meas n:=by
 have a1:bn (!(Zzr n).AK.isEmpty)≤bn (!n.AK.isEmpty):=by
  rw [Z2t];split
  ·exact Nat.le_refl _
  ·simp [bn]
 have a2:=once_th n h
 have a3:bn (decide ((Zzr n).DK.DI.PH=0)&&untN (Zzr n))=0:=bn_f (by
  cases hu:untN (Zzr n) with
  | false=>simp
  | true=>rw [DN (once_hun hu)];rfl)
 have a4:bn (untN (Zzr n))≤bn (untN n):=bn_mono fun hu=>by
  obtain ⟨z,hz,hz'⟩:=once_unt hu
  exact List.any_eq_true.2 ⟨z,hz,hz'⟩
 have a5:bn (gosN (Zzr n))=0:=bn_f (once_gos n)
 have a6:=bn_le (!decide (Z7q (Zzr n).DK=(Zzr n).DK))
 have a7:gosN n=false→bn (!decide (Z7q (Zzr n).DK=(Zzr n).DK))=0:=fun hg=>bn_f (by rw [DT (once_fix h hg)];rfl)
 unfold meas
 cases hg:gosN n with
 | true=>
   right
   rw [show bn true=1 from rfl,a3,a5]
   omega
 | false=>
   rw [a7 hg,a3,a5,show bn false=0 from rfl]
   by_cases c1:n.DK.DI.PH=2∨n.AK=[]
   ·by_cases c2:Zor n=none∨n.DK.TH≠0
    ·cases c3:decide (n.DK.DI.PH=0)&&untN n with
     | true=>right;rw [show bn true=1 from rfl];omega
     | false=>
       by_cases c4:Z7q n.DK=n.DK
       ·by_cases c5:n.DK.DI.PH=2∧untN n=true
        ·right
         rw [bn_t c5.2,bn_f (once_tel c5.1)]
         omega
        ·left
         refine ⟨c1,c2,?_,c4,?_,hg⟩
         ·rw [Bool.and_eq_false_iff,decide_eq_false_iff_not] at c3;exact c3
         ·by_cases hp:n.DK.DI.PH=2
          ·right
           cases hu:n.DK.DI.SD.any (Zar n.Told) with
           | false=>rfl
           | true=>exact absurd ⟨hp,hu⟩ c5
          ·exact .inl hp
       ·right
        rw [DN c4,show bn (!false)=1 from rfl]
        omega
    ·right
     rcases a2.2 with q | q
     ·exact absurd q c2
     ·omega
   ·right
    have c1:=not_or.1 c1
    rw [Z2t,if_neg c1.1]
    have:bn (!n.AK.isEmpty)=1:=bn_t (by cases he:n.AK with
     | nil=>exact absurd he c1.2
     | cons a l=>rfl)
    rw [this]
    have:bn (!([]:List KE).isEmpty)=0:=rfl
    omega
theorem meas_le (n:Node):meas n≤8:=by
 have b1:=bn_le (!n.AK.isEmpty)
 have b2:=bn_le (decide (n.DK.DI.PH=0)&&untN n)
 have b3:=bn_le (!decide (Z7q n.DK=n.DK))
 have b4:=bn_le (untN n)
 have b5:=bn_le (gosN n)
 have:thM n.DK.TH≤2:=by unfold thM;(repeat' split)<;>omega
 unfold meas;omega
theorem quiet_iff {n:Node} (h:OkN n):Quiet n↔Zzr n=n:=by
 constructor
 ·exact fun q=>(q.once h).1
 ·intro e
  rcases Z3t h with q | q
  ·exact q
  ·rw [e] at q;omega
def Z4t:Nat→Node→List Mail→List Event→Node×List Mail×List Event
 | 0,n,E,V=>(n,E,V)
 | k+1,n,E,V=>if Zzr n=n then (n,E,V) else Z4t k (Zzr n) (E++Z0s n) (V++Z1s n)
def Z5t (n:Node) (E:List Mail) (V:List Event):Node×List Mail×List Event:=Z4t 9 n E V
theorem Z6t {n:Node} (h:OkN n):(Z0s n).length≤500:=by
 have h1:=h.askedL
 have h2:=Z5s ((Z8s _).2 h.pre.dr)
 have hm:OkN (Ztr (Zyr n)):=h.pre.firgra
 have h3:=hm.dr.din.len
 have h4:(Zur (Ztr (Zyr n))).2.length≤64:=by
  unfold Zur
  split
  ·have:=Z3s (Ztr (Zyr n)).DK.DI.ID (Ztr (Zyr n)).DK.DI.SD (Ztr (Zyr n)).Told []
   simp only [List.length_nil] at this
   omega
  ·simp
 have h5:(Zwr (Zvr (Ztr (Zyr n)))).length≤64:=by
  have:=Zlr (Ztr (Zyr n)).DK.DI.ID (Ztr (Zyr n)).DK.TH (Ztr (Zyr n)).DK.Need (Ztr (Zyr n)).DK.DI.SD
  unfold Zwr
  show (Zhr (Ztr (Zyr n)).DK.DI.ID (Ztr (Zyr n)).DK.TH (Ztr (Zyr n)).DK.Need (Ztr (Zyr n)).DK.DI.SD).length≤64
  omega
 have h6:(ansNM n).length≤64:=by
  unfold ansNM;split
  ·simp
  ·unfold ansM;rw [List.length_map];omega
 unfold Z0s
 simp only [List.length_append]
 omega
theorem Z7t {n:Node} (h:OkN n):(Z1s n).length≤500:=by
 have h1:=h.askedL
 have h6:(ansNV n).length≤64:=by
  unfold ansNV;split
  ·simp
  ·unfold ansV;rw [List.length_map];omega
 have:(graV (Zyr n)).length≤1:=by
  rcases Zls (Zyr n) with ⟨_,e⟩ | ⟨s,l,_,_,_,_,e⟩<;>rw [e]<;>simp
 unfold Z1s
 rw [List.length_append];omega
def tupS (r:Node×List Mail×List Event):Int×Int×Int×Int×List Sess×List Int×Int×List Side×List Int×List KE×List KE×List Mail×List Event:=
 (r.1.DK.DI.ID,r.1.DK.DI.PH,r.1.DK.TH,r.1.Book.Last,r.1.Book.Sess,r.1.Told,0,r.1.DK.DI.SD,r.1.DK.Need,r.1.KN,r.1.AK,r.2.1,r.2.2)
theorem Z8t (body:Int×Int×Int×Int×List Sess×List Int×List Mail×List KE×List Event×List KE×List Int×List Side→Option ((Int×Int×Int×Int×List Sess×List Int×List Mail×List KE×List Event×List KE×List Int×List Side) ⊕ (Int×Int×Int×Int×List Sess×List Int×Int×List Side×List Int×List KE×List KE×List Mail×List Event)))
  (hb:∀(n:Node) E V,OkN n→E.length≤600000→V.length≤600000→body (n.DK.DI.ID,n.DK.DI.PH,n.DK.TH,n.Book.Last,n.Book.Sess,n.Told,E,n.KN,V,n.AK,n.DK.Need,n.DK.DI.SD) =
    if n=Zzr n then some (.inr (tupS (Zzr n,E++Z0s n,V++Z1s n))) else some (.inl ((Zzr n).DK.DI.ID,(Zzr n).DK.DI.PH,(Zzr n).DK.TH,(Zzr n).Book.Last,(Zzr n).Book.Sess,(Zzr n).Told,E++Z0s n,(Zzr n).KN,V++Z1s n,(Zzr n).AK,(Zzr n).DK.Need,(Zzr n).DK.DI.SD))):
  ∀(k:Nat) (n:Node) (E:List Mail) (V:List Event),OkN n→meas n<k→E.length+500*k≤500000→V.length+500*k≤500000→
   loop body (n.DK.DI.ID,n.DK.DI.PH,n.DK.TH,n.Book.Last,n.Book.Sess,n.Told,E,n.KN,V,n.AK,n.DK.Need,n.DK.DI.SD)=some (tupS (Z4t k n E V))
 | 0,_,_,_,_,h,_,_=>by omega
 | k+1,n,E,V,hn,hm,hE,hV=>by
   have l1:=Z6t hn
   have l2:=Z7t hn
   rw [loop_eq,hb n E V hn (by omega) (by omega)]
   unfold Z4t
   by_cases hq:Zzr n=n
   ·obtain ⟨q1,q2,q3⟩:=((quiet_iff hn).2 hq).once hn
    rw [if_pos hq.symm,if_pos hq,q2,q3,List.append_nil,List.append_nil,hq]
   ·rw [if_neg fun e=>hq e.symm,if_neg hq]
    refine Z8t body hb k (Zzr n) _ _ hn.once ?_ (by rw [List.length_append];omega) (by rw [List.length_append];omega)
    rcases Z3t hn with q | q
    ·exact absurd (q.once hn).1 hq
    ·omega
theorem settled_body (f:Int) (n:Node) (E:List Mail) (V:List Event) (hn:OkN n) (hE:E.length≤600000) (hV:V.length≤600000):
  (Zpe n.DK.DI.ID n.DK.DI.PH n.DK.TH n.Book.Last n.Book.Sess n.Told n.DK.DI.SD n.DK.Need n.KN n.AK)=some (n.DK.DI.SD,n.DK.Need,n.KN,n.Told,n.AK,n.Book.Sess)
  ∧Z1l n.DK.DI.ID n.DK.DI.PH n.DK.TH n.Book.Last n.Book.Sess n.Told f n.DK.DI.SD n.DK.Need n.KN n.AK E V=some (tupN (Zzr n) (E++Z0s n) (V++Z1s n))
  ∧Zyf n (Zzr n)=some (decide (n=Zzr n)):=
 ⟨s_own4 n _ _ _ _ hn.few,s_once1 f n hn.go E V hE hV,s_nSame n _ hn.few⟩
theorem Z9t (n:Node) (h:OkN n) (V:List Event) (hV:V.length≤100000):
  Z7l n.DK.DI.ID n.DK.DI.PH n.DK.TH n.Book.Last n.Book.Sess n.Told 0 n.DK.DI.SD n.DK.Need n.KN n.AK V=some (tupS (Z5t n [] V)):=by
 dsimp only [Z7l]
 rw [DT rfl,Bool.not_true,Zvn]
 refine Z8t _ (fun m E V hm hE hV=>?_) 9 n [] V h (by have:=meas_le n;omega) (by simp) (by omega)
 obtain ⟨e1,e2,e3⟩:=settled_body 0 m E V hm hE hV
 dsimp only [Z6l]
 rw [e1,OB,e2,OB]
 have e3':Zyf m (Zzr m)=some (decide (m=Zzr m)):=e3
 dsimp only [tupN]
 rw [e3',OB]
 by_cases hq:m=Zzr m
 ·rw [if_pos hq,DT hq];rfl
 ·rw [if_neg hq,DN hq];rfl
theorem Zat (a b c d e:Int) (B:List Sess) (he:e≠0) (V:List Event) (N:List Int) (S:List Side) (T:List Int) (A K:List KE):
  Z7l a b c d B T e S N K A V=some (0,0,0,0,[],[],e,[],[],[],[],[],[]):=by
 dsimp only [Z7l]
 rw [DN he,Bool.not_false,Zun]
theorem Zbt {P:Node→List Mail→List Event→Prop} (hs:∀n E V,OkN n→P n E V→P (Zzr n) (E++Z0s n) (V++Z1s n)):∀(k:Nat) (n:Node) (E:List Mail) (V:List Event),OkN n→P n E V→P (Z4t k n E V).1 (Z4t k n E V).2.1 (Z4t k n E V).2.2
 | 0,_,_,_,_,h=>h
 | k+1,n,E,V,hn,h=>by
   unfold Z4t
   split
   ·exact h
   ·exact Zbt hs k _ _ _ hn.once (hs n E V hn h)
theorem Zct {P:Node→List Mail→List Event→Prop} (hs:∀n E V,OkN n→P n E V→P (Zzr n) (E++Z0s n) (V++Z1s n)) {n:Node} {E:List Mail} {V:List Event} (hn:OkN n) (h:P n E V):P (Z5t n E V).1 (Z5t n E V).2.1 (Z5t n E V).2.2:=Zbt hs 9 n E V hn h
theorem Zdt {n:Node} (h:OkN n) (E:List Mail) (V:List Event):OkN (Z5t n E V).1:=Zct (P:=fun n _ _=>OkN n) (fun _ _ _ h _=>h.once) h h
theorem Zet:∀(k:Nat) (n:Node) (E:List Mail) (V:List Event),OkN n→meas n<k→Quiet (Z4t k n E V).1
 | 0,_,_,_,_,h=>by omega
 | k+1,n,E,V,hn,hm=>by
   unfold Z4t
   split
   ·rename_i hq;exact (quiet_iff hn).2 hq
   ·rename_i hq
    refine Zet k _ _ _ hn.once ?_
    rcases Z3t hn with q | q
    ·exact absurd (q.once hn).1 hq
    ·omega
theorem Zft {n:Node} (h:OkN n) (E:List Mail) (V:List Event):Quiet (Z5t n E V).1:=Zet 9 n E V h (by have:=meas_le n;omega)
theorem rest_calm {n:Node} (h:OkN n) (hq:Quiet n) (E:List Mail) (V:List Event):Z5t n E V=(n,E,V):=by
 unfold Z5t Z4t
 rw [if_pos (hq.once h).1]
def Zgt (p:Int) (s:Sess):Bool:=decide (s.State=0)&&decide (p∈s.Need)
def Zht (p:Int) (l:List Sess):List Int:=(l.filter (Zgt p)).map (·.ID)
theorem s_Gone1 (s:Sess) (p:Int) (ids:List Int) (hs:s.Need.length≤1000000) (hi:ids.length≤1000000):Zwg s p ids=some (Zgt p s,if Zgt p s then ids++[s.ID] else ids):=by
 simp only [Zwg,Zvg,Zug,Zzo s.Need p hs,OB]
 rw [Zzn _ _ (by omega) (by simp;omega),OB]
 unfold Zgt
 cases decide (s.State=0)<;>cases decide (p∈s.Need)<;>rfl
theorem Zit (p:Int) (l:List Sess) (s:Sess):Zht p (l++[s])=if Zgt p s then Zht p l++[s.ID] else Zht p l:=by
 unfold Zht
 rw [List.filter_append,List.map_append]
 cases h:Zgt p s<;>simp [h]
theorem Zjt (p:Int) (l:List Sess):(Zht p l).length≤l.length:=by
 unfold Zht;rw [List.length_map];exact List.length_filter_le _ _
theorem s_IndexGone (p:Int) (l:List Sess) (hl:l.length≤100000) (hn:∀s∈l,s.Need.length≤1000000):
  Z2i p l=some (match l.findIdx? (Zgt p) with | some i=>((i:Int),Zht p (l.take (i+1))) | none=>(-1,[])):=by
 unfold Z2i
 have key:∀(post pre:List Sess),l=pre++post→(∀s∈pre,Zgt p s=false)→loop (Z1i p l) ((pre.length:Int),([]:List Int))=some (match l.findIdx? (Zgt p) with | some i=>((i:Int),Zht p (l.take (i+1))) | none=>(-1,[])):=by
  intro post
  induction post with
  | nil=>
    intro pre h hp
    have h:pre=l:=by simpa using h.symm
    subst h
    have:pre.findIdx? (Zgt p)=none:=by rw [List.findIdx?_eq_none_iff];exact hp
    rw [this,loop_eq]
    dsimp only [Z1i]
    rw [Z1o,Zvn];rfl
  | cons x post ih=>
    intro pre h hp
    have hx:=Zco h
    have hm:=Zdo h
    rw [loop_eq]
    dsimp only [Z1i]
    rw [Z0o hx,Zun,Zyn hx,OB,s_Gone1 x p [] (hn x (Zeo h)) (by simp),OB]
    cases hg:Zgt p x with
    | true=>
      have hf:l.findIdx? (Zgt p)=some pre.length:=by
       rw [List.findIdx?_eq_some_iff_getElem]
       refine ⟨by omega,?_,fun j hj=>?_⟩
       ·have:l[pre.length]'(by omega)=x:=(List.getElem?_eq_some_iff.1 hx).2
        rw [this];exact hg
       ·have h6:l[j]?=pre[j]?:=by rw [h,List.getElem?_append_left hj]
        have:l[j]'(by omega)∈pre:=by
         have e:l[j]?=some (l[j]'(by omega)):=List.getElem?_eq_getElem _
         rw [h6] at e
         exact List.mem_of_getElem? e
        simpa using hp _ this
      rw [hf]
      have ht:l.take (pre.length+1)=pre++[x]:=by rw [h,show pre++x::post=(pre++[x])++post by simp,List.take_left' (by simp)]
      have hz:Zht p pre=[]:=by unfold Zht;rw [List.filter_eq_nil_iff.2 fun s hs=>by rw [hp s hs];simp];rfl
      dsimp only
      rw [ht,Zit,hg,hz];rfl
    | false=>
      have:=ih (pre++[x]) (by simpa using h) fun s hs=>by
       rcases List.mem_append.1 hs with hs | hs
       ·exact hp s hs
       ·simp at hs;subst hs;exact hg
      rw [Zho] at this
      rw [←this]
      dsimp only
      rw [if_neg (by simp),Zvn,Z2o (by omega)]
 exact key l [] rfl (by simp)
theorem s_DeleteGone (p:Int) (l:List Sess) (hl:l.length≤100000) (hn:∀s∈l,s.Need.length≤1000000):
  Zri p l=some (Zht p l,l.filter fun s=>!Zgt p s):=by
 simp only [Zri,s_IndexGone p l hl hn,OB]
 cases hf:l.findIdx? (Zgt p) with
 | none=>
   rw [List.findIdx?_eq_none_iff] at hf
   dsimp only
   rw [DT rfl,Zun,List.filter_eq_self.2 (fun x hx=>by rw [hf x hx];rfl)]
   have:Zht p l=[]:=by unfold Zht;rw [List.filter_eq_nil_iff.2 fun s hs=>by rw [hf s hs];simp];rfl
   rw [this]
 | some i=>
   obtain ⟨hi,hq,ho⟩:=List.findIdx?_eq_some_iff_getElem.1 hf
   dsimp only
   rw [DN (by omega),Zvn,Z2o (by omega)]
   let F:List Sess→List Sess:=fun pre=>pre.filter fun x=>!Zgt p x
   have hF:∀pre post,l=pre++post→(F pre).length≤pre.length:=fun pre post _=>List.length_filter_le _ _
   have key:=Z9o l (Zqi p) (fun pre=>(((F pre).length:Int),(pre.length:Int),F pre++l.drop (F pre).length,Zht p pre)) (fun _ _=>some (Zht p l,F l)) (fun pre x post h=>?_) ?_ (l.drop (i+1)) (l.take (i+1)) (by simp)
   ·have e1:F (l.take (i+1))=l.take i:=by
     show (l.take (i+1)).filter _=_
     rw [List.take_succ_eq_append_getElem hi,List.filter_append]
     have a1:(l.take i).filter (fun x=>!Zgt p x)=l.take i:=by
      rw [List.filter_eq_self]
      intro x hx
      obtain ⟨j,hj,rfl⟩:=List.mem_iff_getElem.1 hx
      rw [List.getElem_take]
      have:=ho j (by simp at hj;omega)
      simpa using this
     have a2: [l[i]].filter (fun x=>!Zgt p x)=[]:=by simp [hq]
     rw [a1,a2,List.append_nil]
    rw [e1] at key
    have e2:(l.take i).length=i:=by simp;omega
    have e3:(l.take (i+1)).length=i+1:=by simp;omega
    rw [e2,e3,List.take_append_drop] at key
    exact key
   ·left
    refine ⟨?_,rfl⟩
    have hx:=Zco h
    have hm:=Zdo h
    have h8:=hF pre (x::post) h
    have hB:=Zjt p pre
    have h6:(F pre++l.drop (F pre).length).length=l.length:=by simp;omega
    have h9:(F pre++l.drop (F pre).length)[pre.length]?=some x:=by
     rw [List.getElem?_append_right h8,List.getElem?_drop,show (F pre).length+(pre.length-(F pre).length)=pre.length by omega];exact hx
    dsimp only [Zqi]
    rw [Z0o h9,Zun,Zyn h9,OB,s_Gone1 x p _ (hn x (Zeo h)) (by omega),OB]
    have hc:F (pre++[x])=F pre++(if Zgt p x then [] else [x]):=by
     show (pre++[x]).filter _=_
     rw [List.filter_append]
     congr 1
     cases hw:Zgt p x<;>simp [hw]
    rw [←Zit]
    cases he:Zgt p x with
    | true=>
      rw [Bool.not_true,Zvn]
      dsimp only [Zpi]
      rw [Z2o (by omega),hc,he,if_pos rfl,List.append_nil,Zho]
    | false=>
      rw [Bool.not_false,Zun]
      obtain ⟨d,hd⟩:=Z2p (fun x=>!Zgt p x) pre post x
      rw [←h] at hd
      have hd':l.drop (F pre).length=d::l.drop ((F pre).length+1):=hd
      have hA:(F pre++l.drop (F pre).length)[(F pre).length]?=some d:=by rw [hd'];simp
      rw [Zyn hA,OB]
      dsimp only [Zpi]
      rw [Z2o (by omega),Z2o (by omega),hc,he,if_neg (by simp),Zho,hd',Int.toNat_natCast,Zho]
      simp
   ·dsimp only [Zqi]
    have h8:=hF l [] (by simp)
    have h6:(F l++l.drop (F l).length).length=l.length:=by simp;omega
    rw [show ((l.length:Int))=((F l++l.drop (F l).length).length:Int) by rw [h6],Z1o,Zvn]
    dsimp only [Zoi]
    unfold vw_
    rw [ln_eq,h6,if_pos ⟨by omega,by omega,by omega,by omega⟩,OB]
    unfold clr_
    rw [h6,if_pos ⟨by omega,by simp;omega⟩,OB]
    unfold sub_
    rw [if_pos ⟨by omega,by omega,by simp;omega⟩,OB]
    simp [Int.toNat_natCast,List.append_assoc]
theorem s_sessGone (b:Book) (p:Int) (hk:okBk b=true):Zaj b p=some (⟨b.Last,b.Sess.filter fun s=>!Zgt p s⟩,Zht p b.Sess,0):=by
 have h:=(Zbs b).1 hk
 have hf:=h.few
 have hl:=h.len
 simp only [Zaj,Z9p b hf,hk,if_true,OB,Zcp b hf,s_DeleteGone p b.Sess (by omega) (fun s hs=>hf.2 s hs),decide_true,Bool.not_true,Zvn]
theorem BkOK.sub {b:Book} (h:BkOK b) {l:List Sess} (hs:l.Sublist b.Sess):BkOK ⟨b.Last,l⟩:=
 ⟨h.last,Nat.le_trans hs.length_le h.len,h.up.sublist hs,fun s hm=>h.ok s (hs.subset hm),fun s hm=>h.tl s (hs.tail.subset hm)⟩
theorem cut_sub {α:Type} (l:List α) (i:Nat):(l.take i++l.drop (i+1)).Sublist l:=by
 conv=>rhs;rw [←List.take_append_drop i l]
 refine List.Sublist.append (List.Sublist.refl _) ?_
 rw [←List.drop_drop]
 exact List.drop_sublist _ _
def Zkt (s:Sess):Sess:=⟨s.ID,s.Need,s.State,max s.Age (min s.Age 4611686018427387903+1)⟩
def Zlt (b:Book) (hold:Int):Book×Int:=match b.Sess with
 | []=>(b,0)
 | s::l=>if s.State=1 then (if (Zkt s).Age<hold then (⟨b.Last,Zkt s::l⟩,0) else (⟨b.Last,l⟩,s.ID)) else (b,0)
theorem s_Tick (b:Book) (hold:Int) (hk:okBk b=true):Zog b hold=some ((Zlt b hold).1,(Zlt b hold).2,0):=by
 have h:=(Zbs b).1 hk
 have hf:=h.few
 have hl:=h.len
 simp only [Zog,Z9p b hf,hk,if_true,OB,Zcp b hf,decide_true,Bool.not_true,Zvn,ln_eq]
 unfold Zlt
 cases hb:b.Sess with
 | nil=>
   dsimp only
   rw [show decide (((([]:List Sess).length:Nat):Int)=0)=true from rfl,Zun]
   dsimp only [Zng]
   rw [Zun,←hb]
 | cons s l=>
   have hs:=h.ok s (by rw [hb];simp)
   have h0:at_ (s::l) 0=some s:=rfl
   dsimp only
   rw [DN (by simp;omega),Zvn,h0,OB]
   dsimp only [Zng]
   by_cases h1:s.State=1
   ·have h8:=hs.age
    have h6:wr (min s.Age 4611686018427387903+1)=min s.Age 4611686018427387903+1:=Zxn (by omega) (by omega)
    rw [DT h1,Bool.not_true,Zvn,h0,OB,h6,if_pos h1]
    have e:(⟨s.ID,s.Need,s.State,max s.Age (min s.Age 4611686018427387903+1)⟩:Sess)=Zkt s:=rfl
    rw [e]
    have es:(s::l).set (Int.toNat 0) (Zkt s)=Zkt s::l:=rfl
    rw [es]
    by_cases hh:(Zkt s).Age<hold
    ·rw [if_pos hh,show decide (max s.Age (min s.Age 4611686018427387903+1)<hold)=true from DT hh,Zun]
    ·rw [if_neg hh,show decide (max s.Age (min s.Age 4611686018427387903+1)<hold)=false from DN hh,Zvn]
     have hd:=Zep (Zkt s::l) 0 (by simp) (by rw [hb] at hl;simp at hl ⊢;omega)
     have hd:Z7b 0 1 (Zkt s::l)=some l:=hd
     rw [hd,OB]
   ·rw [DN h1,Bool.not_false,Zun,if_neg h1,←hb]
theorem BkOK.tick {b:Book} (h:BkOK b) (hold:Int):BkOK (Zlt b hold).1:=by
 unfold Zlt
 cases hb:b.Sess with
 | nil=>exact h
 | cons s l=>
   dsimp only
   split
   ·rename_i h1
    split
    ·have hu:=h.up
     have hl:=h.len
     have ht:=h.tl
     have hs:=h.ok s (by rw [hb];simp)
     rw [hb] at hu hl ht
     refine ⟨h.last,hl,?_,fun t ht'=>?_,ht⟩
     ·rw [List.pairwise_cons] at hu ⊢;exact hu
     ·rcases List.mem_cons.1 ht' with rfl | ht'
      ·have:=hs.age
       exact {hs with age:=by show 0≤max s.Age _;omega,st:=.inl h1}
      ·exact h.ok t (by rw [hb];exact List.mem_cons_of_mem _ ht')
    ·exact h.sub (by rw [hb];exact List.sublist_cons_self _ _)
   ·exact h
def Zmt (is:Bool) (c e:Int):Int:=if decide (e=0)&&!is then c else e
theorem s_need1 (is:Bool) (c a b d f:Int) (B:List Sess) (e:Int) (S:List Side) (N:List Int) (K:List KE) (T:List Int) (A:List KE):Znb is c a b d f B e S N K T A=some (decide (Zmt is c e=0),Zmt is c e):=by
 simp only [Znb,Zmb,Zlb,Zmt]
 by_cases h:e=0<;>cases is<;>simp [h,ifb]
theorem Znt (is:Bool) (c a b d f e:Int) (S:List Side) (N:List Int) (B:List Sess) (K:List KE) (T:List Int) (A:List KE):Z2c is c a b d f e S N B K T A=some (decide (Zmt is c e=0),Zmt is c e):=by
 simp only [Z2c,Z1c,Z0c,Zmt]
 by_cases h:e=0<;>cases is<;>simp [h,ifb]
theorem s_need3 (c a b d f e:Int) (S:List Side) (N:List Int) (B:List Sess) (K:List KE) (T:List Int) (A:List KE):Z6c c a b d f e S N B K T A=some (decide (Zmt false c e=0),Zmt false c e):=by
 simp only [Z6c,Z5c,Z4c,Zmt]
 by_cases h:e=0<;>simp [h,ifb]
theorem Zot {c e:Int} (is:Bool) (h:e≠0):Zmt is c e=e:=by unfold Zmt;rw [DN h];rfl
theorem Zpt (c e:Int):Zmt true c e=e:=by unfold Zmt;simp
theorem Zqt (c:Int):Zmt false c 0=c:=rfl
def Zrt (S:List Side) (p:Int):Option Nat:=S.findIdx? fun x=>decide (x.Peer=p)
theorem s_place (x:node_node) (p:Int) (h:x.Node.DK.DI.SD.length≤1000000):Z8c x p=some (plc (Zrt x.Node.DK.DI.SD p)):=by
 simp only [Z8c,Zmo x.Node.DK.DI.SD (fun z=>Zi9 z p) (fun x=>decide (x.Peer=p)) (by omega) (fun _ _=>rfl),OB]
 rfl
theorem Zst {S:List Side} {p:Int} {j:Nat} (h:Zrt S p=some j):∃x,S[j]?=some x∧x.Peer=p:=by
 obtain ⟨hi,hq,_⟩:=List.findIdx?_eq_some_iff_getElem.1 h
 exact ⟨_,List.getElem?_eq_getElem hi,by simpa using hq⟩
theorem Ztt {S:List Side} {p:Int} (h:Zrt S p=none):∀x∈S,x.Peer≠p:=by
 unfold Zrt at h
 rw [List.findIdx?_eq_none_iff] at h
 intro x hx;simpa using h x hx
theorem Zut (d:DK) (h:DrOK d) (hN:d.Need.length≤1000000) (K A:List KE) (T:List Int) (V:List Event) (x:Int) (B:List Sess) (e:Int):
  Zsj d.DI.ID d.DI.PH d.TH x B e d.DI.SD d.Need K T A V=some (d.DI.ID,d.DI.PH,0,d.DI.SD,[]):=by
 simp only [Zsj,Zrj,s_drClose d ((Z8s d).2 h) hN,OB]
 by_cases h0:d.TH=0
 ·rw [if_pos h0,h.nz h0,h0];rfl
 ·rw [if_neg h0];rfl
theorem s_book (r:Book×Int) (b c d L:Int) (l:List Sess) (S:List Side) (N:List Int) (K:List KE) (T:List Int) (A:List KE):Zde r.1 r.2 b c d L l 0 S N K T A=some (if r.2=0 then (true,r.1.Last,r.1.Sess,0) else (false,L,l,r.2)):=by
 simp only [Zde,Zce,s_need1,OB]
 by_cases h:r.2=0
 ·rw [if_pos h,h];rfl
 ·rw [if_neg h,DN h,Zqt,DN h];rfl
theorem Zvt (k i a b c d:Int) (B:List Sess) (e:Int) (S:List Side) (N:List Int) (K:List KE) (T:List Int) (A:List KE):Zub k i a b c d B e S N K T A=some [⟨k,a,i,0,[]⟩]:=by
 simp only [Zub]
 rw [Zzn _ _ (by omega) (by simp),OB];rfl
theorem s_Live1 (n:Node) (hn:FewN n) (a b c d:Int) (N:List Int) (B:List Sess) (K:List KE) (T:List Int) (A:List KE):Zae a b c d B n.DK.DI.SD N K T A=some (Znq n Zoq):=by
 have hl:=hn.sides
 simp only [Zae,Zsb]
 have:loop (Zrb n.DK.DI.SD fun z=>Z19 z) (0,([]:List Int))=some (Znq n Zoq):=by
  refine Zbo n.DK.DI.SD _ (fun pre=>((pre.length:Int),(pre.filter Zoq).map (·.Peer))) _ (fun pre x post h=>?_) ?_
  ·have hx:=Zco h
   have hm:=Zdo h
   have hf:=List.length_filter_le Zoq pre
   dsimp only [Zrb]
   rw [Z0o hx,Zun,Zyn hx,OB,show Z19 x=some (Zoq x) from rfl,OB]
   cases hq:Zoq x with
   | true=>
     rw [Zun,Zzn _ _ (by omega) (by simp;omega),OB]
     dsimp only [Zqb]
     rw [Z2o (by omega),Zho]
     simp [hq]
   | false=>
     rw [Zvn]
     dsimp only [Zqb]
     rw [Z2o (by omega),Zho]
     simp [hq]
  ·dsimp only [Zrb]
   rw [Z1o,Zvn];rfl
 rw [this];rfl
def bookN (n:Node) (b:Book):Node:=⟨n.DK,b,n.KN,n.Told,n.AK⟩
def calmN (n:Node) (b:Book):Node:=⟨⟨n.DK.DI,0,[]⟩,b,n.KN,n.Told,n.AK⟩
def Zwt (n:Node) (a:Do):Int×Node×List Event:=
 if a.Kind=0 then
  (if (openP n.Book a.ID a.Need).2=0 then (if (a.Need.all fun z=>decide (z∈Znq n Zoq))=true then (0,bookN n (openP n.Book a.ID a.Need).1,[⟨0,n.DK.DI.ID,a.ID,0,Zwo a.Need⟩]) else (181,n,[])) else ((openP n.Book a.ID a.Need).2,n,[]))
 else if a.Kind=1 then
  (if (endP n.Book a.ID 1).2=0 then (0,calmN n (endP n.Book a.ID 1).1,[⟨2,n.DK.DI.ID,a.ID,0,[]⟩]) else ((endP n.Book a.ID 1).2,n,[]))
 else if a.Kind=2 then
  (if (endP n.Book a.ID 0).2=0 then (0,if (Z4s n).1.ID=a.ID∧n.DK.TH=1 then calmN n (endP n.Book a.ID 0).1 else bookN n (endP n.Book a.ID 0).1,[⟨3,n.DK.DI.ID,a.ID,0,[]⟩]) else ((endP n.Book a.ID 0).2,n,[]))
 else if a.Kind=3 then
  (if (Zlt n.Book a.Hold).2=0 then (0,bookN n (Zlt n.Book a.Hold).1,[]) else (0,calmN n (Zlt n.Book a.Hold).1,[⟨4,n.DK.DI.ID,(Zlt n.Book a.Hold).2,0,[]⟩]))
 else (0,n,[])
def tupA (e:Int) (m:Node) (V:List Event):Int×Int×Int×Int×List Sess×Int×List Event×List Side×List Int:=
 (m.DK.DI.ID,m.DK.DI.PH,m.DK.TH,m.Book.Last,m.Book.Sess,e,V,m.DK.DI.SD,m.DK.Need)
theorem s_first1 (n:Node) (a b c d:Int) (S:List Side) (N:List Int) (K:List KE) (T:List Int) (A:List KE):Zyb a b c d S N n.Book.Sess K T A=some (Z4s n):=by
 simp only [Zyb,ln_eq]
 unfold Z4s
 cases h:n.Book.Sess with
 | nil=>rfl
 | cons s l=>rw [DN (by simp;omega),Zvn];rfl
theorem s_first2 (n:Node) (a b c d:Int) (S:List Side) (N:List Int) (K:List KE) (T:List Int) (A:List KE):Zcc a b c d n.Book.Sess S N K T A=some (Z4s n):=by
 simp only [Zcc,ln_eq]
 unfold Z4s
 cases h:n.Book.Sess with
 | nil=>rfl
 | cons s l=>rw [DN (by simp;omega),Zvn];rfl
theorem s_sessions (n:Node) (a:Do) (h:OkN n) (ha:a.Need.length≤1000):
  Z5k a n.DK.DI.ID n.DK.DI.PH n.DK.TH n.Book.Last 0 n.DK.DI.SD n.DK.Need n.Book.Sess n.KN n.Told n.AK=some (tupA (Zwt n a).1 (Zwt n a).2.1 (Zwt n a).2.2):=by
 have hf:=h.few
 have hb:=hf.bk
 have hN:=hf.need
 have hS:=hf.sides
 have hp:=Zwq n Zoq
 have h6:∀(x:Int) (B:List Sess) (e:Int) (K A:List KE) (T:List Int) (V:List Event),Zsj n.DK.DI.ID n.DK.DI.PH n.DK.TH x B e n.DK.DI.SD n.DK.Need K T A V=some (n.DK.DI.ID,n.DK.DI.PH,0,n.DK.DI.SD,[]):=fun x B e K A T V=>Zut n.DK h.dr (by omega) K A T V x B e
 unfold Z5k Zwt
 have eb:(⟨n.Book.Last,n.Book.Sess⟩:Book)=n.Book:=rfl
 rw [eb]
 by_cases k0:a.Kind=0
 ·rw [DT k0,Zun,if_pos k0,s_Open n.Book a.ID a.Need hb (by omega),OB]
  dsimp only [Z1k]
  rw [s_need1,OB]
  by_cases e0:(openP n.Book a.ID a.Need).2=0
  ·rw [if_pos e0,e0,DT rfl,Zpt]
   dsimp only
   rw [DT rfl,Zun,s_Live1 n hf,OB,s_Within a.Need (Znq n Zoq) (by omega) (by omega),OB,s_need1,OB]
   dsimp only [Z0k]
   cases hw:(a.Need.all fun z=>decide (z∈Znq n Zoq)) with
   | true=>
     rw [Zpt,DT rfl,Zun,s_setL a.Need (by omega),OB,Zzn _ _ (by omega) (by simp),OB]
     rfl
   | false=>rfl
  ·rw [if_neg e0,DN e0,Zqt]
   dsimp only
   rw [DN e0,Zvn]
   rfl
 ·rw [DN k0,Zvn,if_neg k0]
  by_cases k1:a.Kind=1
  ·rw [DT k1,Zun,if_pos k1,s_Release n.Book a.ID hb,OB,s_book,OB]
   by_cases e0:(endP n.Book a.ID 1).2=0
   ·rw [if_pos e0,if_pos e0]
    dsimp only
    rw [Zun,Zvt,OB,h6,OB]
    rfl
   ·rw [if_neg e0,if_neg e0]
    rfl
  ·rw [DN k1,Zvn,if_neg k1]
   by_cases k2:a.Kind=2
   ·rw [DT k2,Zun,if_pos k2,s_first1 n,OB,s_Cancel n.Book a.ID hb,OB,s_book,OB]
    by_cases e0:(endP n.Book a.ID 0).2=0
    ·rw [if_pos e0,if_pos e0]
     dsimp only
     rw [Zun,Zvt,OB]
     dsimp only [Z2k]
     rw [h6,OB]
     by_cases c1:(Z4s n).1.ID=a.ID
     ·rw [DT c1]
      by_cases c2:n.DK.TH=1
      ·rw [DT c2,if_pos ⟨c1,c2⟩];rfl
      ·rw [DN c2,if_neg fun c=>c2 c.2];rfl
     ·rw [DN c1,if_neg fun c=>c1 c.1];rfl
    ·rw [if_neg e0,if_neg e0]
     rfl
   ·rw [DN k2,Zvn,if_neg k2]
    by_cases k3:a.Kind=3
    ·rw [DT k3,Zun,if_pos k3,s_Tick n.Book a.Hold h.bk,OB]
     dsimp only [Z4k,Z3k]
     have:=s_book ((Zlt n.Book a.Hold).1,0) n.DK.DI.ID n.DK.DI.PH n.DK.TH n.Book.Last n.Book.Sess n.DK.DI.SD n.DK.Need n.KN n.Told n.AK
     dsimp only at this
     rw [this,OB,if_pos rfl]
     dsimp only
     rw [Zun]
     by_cases e0:(Zlt n.Book a.Hold).2=0
     ·rw [if_pos e0,DT e0];rfl
     ·rw [if_neg e0,DN e0,Bool.not_false,Zun,Zvt,OB,h6,OB];rfl
    ·rw [DN k3,Zvn,if_neg k3];rfl
theorem Zxt {α:Type} {S:List α} {j:Nat} {x:α} (h:S[j]?=some x) (y:α):S=S.take j++x::S.drop (j+1)∧S.set j y=S.take j++y::S.drop (j+1):=by
 obtain ⟨hj,hx⟩:=List.getElem?_eq_some_iff.1 h
 have e1:S=S.take j++x::S.drop (j+1):=by rw [←hx];simp
 refine ⟨e1,?_⟩
 have hl:(S.take j).length=j:=by simp;omega
 conv=>lhs;rw [e1]
 rw [List.set_append_right _ _ (by omega),hl,Nat.sub_self];rfl
theorem Zyt {S:List Side} (hu:S.Pairwise fun x y=>x.Peer<y.Peer) {j:Nat} {x:Side} (h:S[j]?=some x) (y:Side) {z:Side}:z∈S.set j y↔z=y∨z∈S∧z.Peer≠x.Peer:=by
 obtain ⟨e1,e2⟩:=Zxt h y
 have hu':=hu
 rw [e1,List.pairwise_append,List.pairwise_cons] at hu'
 obtain ⟨_,⟨u2,_⟩,u3⟩:=hu'
 rw [e2,List.mem_append,List.mem_cons]
 constructor
 ·rintro (hz | hz | hz)
  ·have:=u3 z hz x (by simp)
   exact .inr ⟨by rw [e1];simp [hz],by omega⟩
  ·exact .inl hz
  ·have:=u2 z hz
   exact .inr ⟨by rw [e1];simp [hz],by omega⟩
 ·rintro (hz | ⟨hz,hn⟩)
  ·exact .inr (.inl hz)
  ·rw [e1,List.mem_append,List.mem_cons] at hz
   rcases hz with hz | hz | hz
   ·exact .inl hz
   ·rw [hz] at hn;exact absurd rfl hn
   ·exact .inr (.inr hz)
theorem set_peers {S:List Side} {j:Nat} {x y:Side} (h:S[j]?=some x) (hp:y.Peer=x.Peer):(S.set j y).map (·.Peer)=S.map (·.Peer):=by
 obtain ⟨e1,e2⟩:=Zxt h y
 rw [e2]
 conv=>rhs;rw [e1]
 simp [hp]
theorem DrOK.state {d:DK} (h:DrOK d) {j:Nat} {x:Side} (hx:d.DI.SD[j]?=some x) {s:Int} (hs:0≤s∧s≤3):DrOK ⟨⟨d.DI.ID,d.DI.PH,d.DI.SD.set j {x with State:=s}⟩,d.TH,d.Need⟩:=by
 have h6:=h.din.up
 have hm:=fun {z:Side}=>Zyt (z:=z) h6 hx {x with State:=s}
 have h8:=List.mem_of_getElem? hx
 refine ⟨⟨h.din.id0,h.din.p0,h.din.p2,by rw [List.length_set];exact h.din.len,pw_peers (set_peers hx rfl) h6,fun z hz=>?_⟩,h.t0,h.t2,h.up,h.nz,fun p hp=>?_⟩
 ·rcases hm.1 hz with rfl | ⟨hz,_⟩
  ·have:=h.din.side x h8
   exact ⟨this.lo,this.ne,this.e0,this.e1,hs.1,hs.2,this.df⟩
  ·exact h.din.side z hz
 ·obtain ⟨y,hy,e⟩:=h.has p hp
  by_cases hq:y.Peer=x.Peer
  ·exact ⟨_,hm.2 (.inl rfl),by show x.Peer=p;omega⟩
  ·exact ⟨y,hm.2 (.inr ⟨hy,hq⟩),e⟩
def shutC (n:Node) (p:Int):Bool:=(Z4s n).2&&(decide (n.DK.TH=1)&&decide ((Z4s n).1.ID∈Zht p n.Book.Sess))
def shutB (n:Node) (p:Int):Book:=⟨n.Book.Last,n.Book.Sess.filter fun s=>!Zgt p s⟩
def shutD (n:Node) (j:Nat) (x:Side):DI:=⟨n.DK.DI.ID,n.DK.DI.PH,n.DK.DI.SD.set j {x with State:=2}⟩
def Zzt (n:Node) (j:Nat) (x:Side):Node:=⟨if shutC n x.Peer then ⟨shutD n j x,0,[]⟩ else ⟨shutD n j x,n.DK.TH,n.DK.Need⟩,shutB n x.Peer,n.KN,n.Told,n.AK⟩
def Z0u (id:Int) (l:List Int):List Event:=l.map fun i=>⟨5,id,i,0,[]⟩
def Z1u (n:Node) (p:Int):List Event:=⟨7,n.DK.DI.ID,0,p,[]⟩::Z0u n.DK.DI.ID (Zht p n.Book.Sess)
theorem s_shut (n:Node) (h:OkN n) (p:Int) (j:Nat) (x:Side) (hp:Zrt n.DK.DI.SD p=some j) (hx:n.DK.DI.SD[j]?=some x) (h8:x.Peer=p) (e:Int):
  Zck p n.DK.DI.ID n.DK.DI.PH n.DK.TH n.Book.Last e n.DK.DI.SD n.DK.Need n.Book.Sess n.KN n.Told n.AK =
   some ((Zzt n j x).DK.DI.ID,(Zzt n j x).DK.DI.PH,(Zzt n j x).DK.TH,(Zzt n j x).Book.Last,(Zzt n j x).Book.Sess,Z1u n p,(Zzt n j x).DK.DI.SD,(Zzt n j x).DK.Need):=by
 subst h8
 have hf:=h.few
 have hS:=hf.sides
 have hN:=hf.need
 have hB:=hf.book
 have hg:=Zjt x.Peer n.Book.Sess
 have h9:=h.dr.state hx (s:=2) (by omega)
 unfold Zck
 rw [s_place _ _ (show _≤_ by dsimp only;omega),OB]
 dsimp only
 rw [hp]
 dsimp only [plc]
 rw [Zyn hx,OB,Int.toNat_natCast]
 have hc:(⟨x.Peer,x.Epoch,2,x.Fork,x.DY,x.Token,x.BO,x.Ask⟩:Side)={x with State:=2}:=rfl
 rw [hc]
 dsimp only [Zbk]
 have h6:∀(S:List Side),Zac 7 x.Peer n.DK.DI.ID n.DK.DI.PH n.DK.TH n.Book.Last e S n.DK.Need n.Book.Sess n.KN n.Told n.AK=some [⟨7,n.DK.DI.ID,0,x.Peer,[]⟩]:=fun S=>by
  simp only [Zac]
  rw [Zzn _ _ (by omega) (by simp),OB];rfl
 rw [h6,OB,show (⟨n.Book.Last,n.Book.Sess⟩:Book)=n.Book from rfl,s_sessGone n.Book x.Peer h.bk,OB,s_first2 n,OB]
 have j3:∀(d:DK),d.DI.ID=n.DK.DI.ID→Z9k e n.KN n.Told n.AK [⟨7,n.DK.DI.ID,0,x.Peer,[]⟩] (⟨n.Book.Last,n.Book.Sess.filter fun s=>!Zgt x.Peer s⟩,Zht x.Peer n.Book.Sess,0) (d.DI.ID,d.DI.PH,d.TH,d.DI.SD,d.Need) =
   some (d.DI.ID,d.DI.PH,d.TH,(shutB n x.Peer).Last,(shutB n x.Peer).Sess,Z1u n x.Peer,d.DI.SD,d.Need):=fun d hd=>by
  dsimp only [Z9k]
  refine Zbo (Zht x.Peer n.Book.Sess) _ (fun pre=>((pre.length:Int),⟨7,n.DK.DI.ID,0,x.Peer,[]⟩::Z0u n.DK.DI.ID pre)) _ (fun pre y post h0=>?_) ?_
  ·have hy:=Zco h0
   have hm:=Zdo h0
   have hn:(Z0u n.DK.DI.ID pre).length=pre.length:=by unfold Z0u;rw [List.length_map]
   dsimp only [Z8k,Zec]
   rw [Z0o hy,Zun,Zyn hy,OB,Zzn _ _ (by omega) (by simp;omega),OB,OB,Z2o (by omega),Zho,hd]
   simp [Z0u]
  ·dsimp only [Z8k,Z7k]
   rw [Z1o,Zvn];rfl
 have he:∀(x':Int) (B:List Sess) (e:Int) (K A:List KE) (T:List Int) (V:List Event),Zsj n.DK.DI.ID n.DK.DI.PH n.DK.TH x' B e (n.DK.DI.SD.set j {x with State:=2}) n.DK.Need K T A V=some (n.DK.DI.ID,n.DK.DI.PH,0,n.DK.DI.SD.set j {x with State:=2},[]):=fun x' B e K A T V=>Zut _ h9 (by show n.DK.Need.length≤_;omega) K A T V x' B e
 have j2:∀z,z=shutC n x.Peer→Zak n.DK.DI.ID n.DK.DI.PH n.DK.TH n.Book.Last e n.DK.Need n.Book.Sess n.KN n.Told n.AK (n.DK.DI.SD.set j {x with State:=2}) [⟨7,n.DK.DI.ID,0,x.Peer,[]⟩] (⟨n.Book.Last,n.Book.Sess.filter fun s=>!Zgt x.Peer s⟩,Zht x.Peer n.Book.Sess,0) z=some ((Zzt n j x).DK.DI.ID,(Zzt n j x).DK.DI.PH,(Zzt n j x).DK.TH,(Zzt n j x).Book.Last,(Zzt n j x).Book.Sess,Z1u n x.Peer,(Zzt n j x).DK.DI.SD,(Zzt n j x).DK.Need):=fun z hz=>by
  dsimp only [Zak]
  cases z with
  | true=>
    rw [Zun,he,OB]
    have:=j3 ⟨shutD n j x,0,[]⟩ rfl
    refine Eq.trans this ?_
    unfold Zzt
    rw [←hz];rfl
  | false=>
    rw [Zvn]
    have:=j3 ⟨shutD n j x,n.DK.TH,n.DK.Need⟩ rfl
    refine Eq.trans this ?_
    unfold Zzt
    rw [←hz];rfl
 unfold shutC at j2
 cases h1:(Z4s n).2 with
 | false=>
   rw [Zvn]
   exact j2 false (by rw [h1];rfl)
 | true=>
   rw [Zun]
   by_cases h2:n.DK.TH=1
   ·rw [DT h2,Zun,Zyo _ _ (by dsimp only;omega),OB]
    exact j2 _ (by rw [h1,DT h2];rfl)
   ·rw [DN h2,Zvn]
    exact j2 false (by rw [h1,DN h2];rfl)
theorem Z2u {n:Node} {s:Sess} {l:List Sess} (h:n.Book.Sess=s::l):Z4s n=(s,true):=by unfold Z4s;rw [h]
theorem OkN.shut {n:Node} (h:OkN n) {j:Nat} {x:Side} (hx:n.DK.DI.SD[j]?=some x) (h0:x.State=0):OkN (Zzt n j x):=by
 have ho:=(Zbs _).1 h.bk
 have h9:=List.mem_of_getElem? hx
 have hw:=h.dr.state hx (s:=2) (by omega)
 have hm:∀ {z:Side},z∈(shutD n j x).SD↔z={x with State:=2}∨z∈n.DK.DI.SD∧z.Peer≠x.Peer:=fun {z}=>Zyt (z:=z) h.rowS.up hx {x with State:=2}
 have h6:(Zzt n j x).DK.DI=shutD n j x:=by unfold Zzt;dsimp only;split<;>rfl
 have hf:∀p∈(Zzt n j x).DK.Need,p∈n.DK.Need:=by
  unfold Zzt;dsimp only;split
  ·intro p hp;simp at hp
  ·exact fun p hp=>hp
 have hC:∀s∈n.Book.Sess,s.State=1→Zgt x.Peer s=false:=fun s _ e=>by unfold Zgt;rw [DN (by omega)];rfl
 refine ⟨?_,(Zbs _).2 (ho.sub List.filter_sublist),fun k hk=>?_,h.dis,?_,h.kup,h.kr,fun z hz=>?_,h.told,fun p hp=>?_,?_,?_,fun z hz hn=>?_,fun s hs hd p hp=>?_⟩
 ·unfold Zzt;dsimp only;split
  ·exact ⟨hw.din,by show (0:Int)≤0;omega,by show (0:Int)≤2;omega,.nil,fun _=>rfl,by simp⟩
  ·exact hw
 ·have:=h.may k hk
  rw [h6]
  exact ⟨fun z hz=>by
   rcases hm.1 hz with rfl | ⟨hz,_⟩
   ·exact this.1 x h9
   ·exact this.1 z hz,this.2⟩
 ·rw [h6];exact h.id
 ·rw [h6] at hz ⊢
  rcases hm.1 hz with rfl | ⟨hz,_⟩
  ·have:=h.sd x h9
   exact ⟨this.1,this.2.1,this.2.2.1,fun e=>by have e:(2:Int)=1∨(2:Int)=3:=e;omega⟩
  ·exact h.sd z hz
 ·obtain ⟨z,hz,e1,e⟩:=h.tin p hp
  rw [h6]
  refine ⟨z,hm.2 (.inr ⟨hz,fun q=>?_⟩),e1,e⟩
  have:=up_eq h.rowS.up hz h9 q
  subst this;omega
 ·rw [Zns]
  constructor
  ·intro e
   have h2:n.DK.TH=2:=by
    unfold Zzt at e;dsimp only at e;split at e
    ·have e:(0:Int)=2:=e
     omega
    ·exact e
   obtain ⟨s,l,hb,h8,_⟩:=h.drinks h2
   refine ⟨s,l.filter fun s=>!Zgt x.Peer s,?_,h8⟩
   show (n.Book.Sess.filter _)=_
   rw [hb,List.filter_cons,hC s (by rw [hb];simp) h8];simp
  ·rintro ⟨s,l,hb,h8⟩
   have hb:n.Book.Sess.filter (fun s=>!Zgt x.Peer s)=s::l:=hb
   have hsm:s∈n.Book.Sess:=(List.mem_filter.1 (by rw [hb];simp)).1
   cases hB:n.Book.Sess with
   | nil=>rw [hB] at hsm;simp at hsm
   | cons t r=>
     have hA:=ho.tl
     rw [hB] at hA hsm
     rcases List.mem_cons.1 hsm with rfl | hsm
     ·have h2:=h.th.2 ((Zns n).2 ⟨s,r,hB,h8⟩)
      unfold Zzt shutC;dsimp only
      rw [DN (show ¬n.DK.TH=1 by omega)]
      simp [h2]
     ·have:=hA s hsm;omega
 ·cases hc:shutC n x.Peer with
  | true=>left;unfold Zzt;dsimp only;rw [hc];rfl
  | false=>
    rcases h.hq with q | q
    ·left;unfold Zzt;dsimp only;rw [hc];exact q
    ·by_cases hz:n.DK.TH=0
     ·left;unfold Zzt;dsimp only;rw [hc];exact hz
     ·right
      obtain ⟨s,l,hb,hn⟩:=(Zms n).1 q
      have hsm:s∈n.Book.Sess:=by rw [hb];simp
      have hg:Zgt x.Peer s=false:=by
       cases hg:Zgt x.Peer s with
       | false=>rfl
       | true=>
         exfalso
         have hd:s.State=0:=by unfold Zgt at hg;rw [Bool.and_eq_true,decide_eq_true_eq] at hg;exact hg.1
         have ht:n.DK.TH=1:=by
          have:=h.dr.t0
          have:=h.dr.t2
          by_cases e2:n.DK.TH=2
          ·obtain ⟨s',l',hb',hs',_⟩:=h.drinks e2
           rw [hb] at hb';simp only [List.cons.injEq] at hb'
           rw [←hb'.1] at hs';omega
          ·omega
         unfold shutC at hc
         rw [Z2u hb,DT ht,DT (show (s,true).1.ID∈Zht x.Peer n.Book.Sess from List.mem_map.2 ⟨s,List.mem_filter.2 ⟨hsm,hg⟩,rfl⟩)] at hc
         simp at hc
      rw [Zms]
      refine ⟨s,l.filter fun s=>!Zgt x.Peer s,?_,?_⟩
      ·show (n.Book.Sess.filter _)=_
       rw [hb,List.filter_cons,hg];simp
      ·unfold Zzt;dsimp only;rw [hc];exact hn
 ·rw [h6] at hz
  rcases hm.1 hz with rfl | ⟨hz,_⟩
  ·show (2:Int)≠3;omega
  ·exact h.nl z hz (hf _ hn)
 ·have hs:s∈n.Book.Sess.filter fun s=>!Zgt x.Peer s:=hs
  obtain ⟨h8,he⟩:=List.mem_filter.1 hs
  obtain ⟨y,hy,e0,e⟩:=h.wt s h8 hd p hp
  rw [h6]
  refine ⟨y,hm.2 (.inr ⟨hy,fun q=>?_⟩),e0,e⟩
  unfold Zgt at he
  rw [DT hd,DT (show x.Peer∈s.Need by rw [←q,e];exact hp)] at he
  simp at he
end NX
end Go.Proofs.YtdjkbodnjhgbcaaGreat
