/-
  Plain laws: what a node does once. No statement of the seat is proved here.
-/
import Derived.Test.YtdjkbodnjhgbcaaGreatBNodeSays32
namespace Go.Proofs.YtdjkbodnjhgbcaaGreat
namespace NX
open Go
def newS (k:KE):Side:=⟨k.Peer,k.Epoch,0,false,false,true,false,true⟩
theorem s_send3 (x:Side) (k a b c d:Int) (B:List Sess) (O:List Int) (f:Int) (S:List Side) (N:List Int) (K A:List KE) (E:List Mail) (V:List Event) (hE:E.length≤1000000):
  Zqc x k a b c d B O f S N K A E V=some (E++[⟨a,x.Peer,⟨k,x.Epoch,0⟩⟩]):=by
 simp only [Zqc]
 rw [Z0o _ _ (by omega) (by simp;omega),OB]
theorem s_edge3 (k p a b c d:Int) (B:List Sess) (O:List Int) (f:Int) (S:List Side) (N:List Int) (K A:List KE) (E:List Mail) (V:List Event) (hE:V.length≤1000000):
  Zsc k p a b c d B O f S N K A E V=some (V++[⟨k,a,0,p,[]⟩]):=by
 simp only [Zsc]
 rw [Z0o _ _ (by omega) (by simp;omega),OB]
theorem s_session4 (k i a b c d:Int) (B:List Sess) (O:List Int) (f:Int) (S:List Side) (N:List Int) (K A:List KE) (E:List Mail) (V:List Event) (hE:V.length≤1000000):
  Zoc k i a b c d B O f S N K A E V=some (V++[⟨k,a,i,0,[]⟩]):=by
 simp only [Zoc]
 rw [Z0o _ _ (by omega) (by simp;omega),OB]
def Zar (S:List Side) (A:List KE):List Side:=A.foldl (fun S k=>putS S (newS k)) S
def ansK (K:List KE) (A:List KE):List KE:=A.foldl (fun K k=>Z2r K k.Peer k.Epoch) K
def ansM (id:Int) (A:List KE):List Mail:=A.map fun k=>⟨id,k.Peer,⟨6,k.Epoch,0⟩⟩
def ansV (id:Int) (A:List KE):List Event:=A.map fun k=>⟨6,id,0,k.Peer,[]⟩
structure AskOK (S:List Side) (A:List KE):Prop where
 rng:∀k∈A, -100000≤k.Peer∧k.Peer≤100000
 new:∀k∈A,∀x∈S,x.Peer≠k.Peer
 dis:(A.map (·.Peer)).Nodup
theorem ansS_snoc (S:List Side) (A:List KE) (k:KE):Zar S (A++[k])=putS (Zar S A) (newS k):=by simp [Zar]
theorem ansK_snoc (K:List KE) (A:List KE) (k:KE):ansK K (A++[k])=Z2r (ansK K A) k.Peer k.Epoch:=by simp [ansK]
theorem ansS_mem {S:List Side}:∀ {A:List KE} {x:Side},x∈Zar S A↔x∈S∨∃k∈A,x=newS k:=by
 intro A
 have:∀(A:List KE) (S:List Side) (x:Side),x∈Zar S A↔x∈S∨∃k∈A,x=newS k:=by
  intro A
  induction A with
  | nil=>intro S x;simp [Zar]
  | cons k A ih=>
    intro S x
    show x∈Zar (putS S (newS k)) A↔_
    rw [ih,Z4r]
    constructor
    ·rintro ((h | h) | ⟨q,h1,h2⟩)
     ·exact .inr ⟨k,by simp,h⟩
     ·exact .inl h
     ·exact .inr ⟨q,by simp [h1],h2⟩
    ·rintro (h | ⟨q,h1,h2⟩)
     ·exact .inl (.inr h)
     ·rcases List.mem_cons.1 h1 with rfl | h1
      ·exact .inl (.inl h2)
      ·exact .inr ⟨q,h1,h2⟩
 exact fun {x}=>this A S x
theorem AskOK.mid {S:List Side} {A pre post:List KE} {k:KE} (h:AskOK S A) (e:A=pre++k::post):∀y∈Zar S pre,y.Peer≠k.Peer:=by
 intro y hy
 rcases ansS_mem.1 hy with hy | ⟨q,h1,rfl⟩
 ·exact h.new k (by rw [e];simp) y hy
 ·have hd:=h.dis
  rw [e,List.map_append,List.map_cons,List.nodup_append] at hd
  exact hd.2.2 q.Peer (List.mem_map.2 ⟨q,h1,rfl⟩) k.Peer (by simp)
theorem ans_rows {S:List Side} {K A:List KE} (hS:RowS S) (hK:RowK K) (hA:AskOK S A) (h8:S.length+A.length≤1000) (h9:K.length+A.length≤1000):∀(post pre:List KE),A=pre++post→RowS (Zar S pre)∧RowK (ansK K pre)∧(Zar S pre).length=S.length+pre.length∧(ansK K pre).length≤K.length+pre.length:=by
 intro post
 have:∀(n:Nat) (pre:List KE),pre.length=n→(∃post,A=pre++post)→RowS (Zar S pre)∧RowK (ansK K pre)∧(Zar S pre).length=S.length+pre.length∧(ansK K pre).length≤K.length+pre.length:=by
  intro n
  induction n with
  | zero=>
    intro pre h _
    have:pre=[]:=List.length_eq_zero_iff.1 h
    subst this
    exact ⟨hS,hK,rfl,Nat.le_refl _⟩
  | succ n ih=>
    intro pre h ⟨post,e⟩
    rcases List.eq_nil_or_concat pre with rfl | ⟨q,k,rfl⟩
    ·simp at h
    ·rw [List.concat_eq_append] at *
     have hq:q.length=n:=by rw [Zio] at h;omega
     obtain ⟨i1,i2,i3,i4⟩:=ih q hq ⟨k::post,by rw [e];simp⟩
     have hk:k∈A:=by rw [e];simp
     have h6:q.length+1≤A.length:=by rw [e,List.length_append,Zio];omega
     have hr:=hA.rng k hk
     rw [ansS_snoc,ansK_snoc,Zio]
     refine ⟨i1.put (by omega) (hA.mid (k:=k) (post:=post) (by rw [e];simp)) hr,i2.know (by omega) hr,by rw [putS_len];omega,?_⟩
     have:=knowK_len (ansK K q) k.Peer k.Epoch
     omega
 exact fun pre e=>this pre.length pre rfl ⟨post,e⟩
theorem s_answer (a b c d:Int) (B:List Sess) (O:List Int) (f:Int) (S:List Side) (N:List Int) (K A:List KE) (E:List Mail) (V:List Event) (hS:RowS S) (hK:RowK K) (hA:AskOK S A) (h6:S.length+A.length≤1000) (h8:K.length+A.length≤1000) (hE:E.length≤900000) (hV:V.length≤900000):
  Zjj a b c d B O f S N K A E V=some (Zar S A,ansK K A,E++ansM a A,V++ansV a A):=by
 unfold Zjj
 have e0:((0:Int),S,K,E,V)=((([]:List KE).length:Int),Zar S [],ansK K [],E++ansM a [],V++ansV a []):=by simp [Zar,ansK,ansM,ansV]
 rw [e0]
 refine Zco A _ (fun pre=>((pre.length:Int),Zar S pre,ansK K pre,E++ansM a pre,V++ansV a pre)) _ (fun pre k post h=>?_) ?_
 ·have hx:=Zdo h
  have hm:=Zeo h
  obtain ⟨r1,r2,r3,r4⟩:=ans_rows hS hK hA h6 h8 (k::post) pre h
  have hr:=hA.rng k (Zfo h)
  dsimp only [Zij]
  rw [Z1o hx,Zvn,Zzn hx,OB]
  have e1:(⟨k.Peer,k.Epoch,0,false,false,true,false,true⟩:Side)=newS k:=rfl
  rw [e1,s_put4 (newS k) a b c d B O f _ N _ A _ _ r1 r2 hr,OB,s_send3 _ _ _ _ _ _ _ _ _ _ _ _ _ _ _ (by rw [List.length_append,ansM,List.length_map];omega),OB,s_edge3 _ _ _ _ _ _ _ _ _ _ _ _ _ _ _ (by rw [List.length_append,ansV,List.length_map];omega),OB,Z3o (by omega),Zio,ansS_snoc,ansK_snoc]
  simp [ansM,ansV,newS]
 ·dsimp only [Zij]
  rw [Z2o,Zwn];rfl
def Zbr (T:List Int) (x:Side):Bool:=Zqq x&&!decide (x.Peer∈T)
def Zcr (id:Int):List Side→List Int→List Mail→List Int×List Mail
 | [],T,E=>(T,E)
 | x::l,T,E=>if Zbr T x then Zcr id l (Zxo (T++[x.Peer])) (E++[⟨id,x.Peer,⟨5,x.Epoch,0⟩⟩]) else Zcr id l T E
theorem s_tell (a b c d:Int) (B:List Sess) (O:List Int) (f:Int) (S:List Side) (N:List Int) (K A:List KE) (E:List Mail) (V:List Event) (hS:S.length≤1000) (hO:O.length≤1000) (hE:E.length≤900000):
  Zyi a b c d B O f S N K A E V=some (Zcr a S O E):=by
 unfold Zyi
 have key:∀(post pre:List Side) (T:List Int) (E:List Mail),S=pre++post→T.length≤1000+pre.length→E.length≤900000+pre.length→loop (Zxi a b c d B f S N K A V) ((pre.length:Int),T,E)=some (Zcr a post T E):=by
  intro post
  induction post with
  | nil=>
    intro pre T E h _ _
    have h:pre=S:=by simpa using h.symm
    subst h
    rw [loop_eq]
    dsimp only [Zxi]
    rw [Z2o,Zwn];rfl
  | cons x post ih=>
    intro pre T E h hT hE
    have hx:=Zdo h
    have hm:=Zeo h
    have h6:Zag T x.Peer=some (Zxo (T++[x.Peer])):=s_Add T x.Peer (by omega)
    have h8:(Zxo (T++[x.Peer])).length≤T.length+1:=by have:=Z4p (T++[x.Peer]);simpa using this
    have j3:∀(T:List Int) (E:List Mail),Zvi (pre.length:Int) (T,E)=some (.inl (((pre++[x]).length:Int),T,E)):=fun T E=>by
     dsimp only [Zvi]
     rw [Z3o (by omega),Zio]
    have j2:∀z,Zwi a b c d B f S N K A V (pre.length:Int) T E x z=if z then some (.inl (((pre++[x]).length:Int),Zxo (T++[x.Peer]),E++[⟨a,x.Peer,⟨5,x.Epoch,0⟩⟩])) else some (.inl (((pre++[x]).length:Int),T,E)):=fun z=>by
     cases z with
     | false=>dsimp only [Zwi];rw [Zwn,j3];rfl
     | true=>
       dsimp only [Zwi]
       rw [Zvn,s_send3 _ _ _ _ _ _ _ _ _ _ _ _ _ _ _ (by omega),OB,h6,OB,j3];rfl
    have step:Zxi a b c d B f S N K A V ((pre.length:Int),T,E)=if Zbr T x then some (.inl (((pre++[x]).length:Int),Zxo (T++[x.Peer]),E++[⟨a,x.Peer,⟨5,x.Epoch,0⟩⟩])) else some (.inl (((pre++[x]).length:Int),T,E)):=by
     dsimp only [Zxi]
     rw [Z1o hx,Zvn,Zzn hx,OB]
     simp only [Zl9,OB,Z0p T x.Peer (by omega),j2]
     unfold Zbr Zqq
     cases decide (x.State=1) with
     | false=>rfl
     | true=>cases decide (x.Peer∈T)<;>rfl
    rw [loop_eq,step]
    unfold Zcr
    cases hu:Zbr T x with
    | true=>
      rw [if_pos rfl,if_pos rfl]
      exact ih (pre++[x]) _ _ (by simpa using h) (by rw [Zio];omega) (by rw [Zio,Zio];omega)
    | false=>
      rw [if_neg (by simp),if_neg (by simp)]
      exact ih (pre++[x]) T E (by simpa using h) (by rw [Zio];omega) (by rw [Zio];omega)
 exact key S [] O E rfl (by simpa using hO) (by simpa using hE)
theorem Zdr (l:List Side) (p:Side→Option Bool) (q:Side→Bool) (hl:l.length≤1000000) (hp:∀x∈l,p x=some (q x)):Zue l p=some (l.filter fun x=>!q x):=by
 simp only [Zue,Zno l p q (by omega) hp,OB]
 cases hf:l.findIdx? q with
 | none=>
   rw [List.findIdx?_eq_none_iff] at hf
   rw [show plc none = -1 from rfl,DT rfl,Zvn,List.filter_eq_self.2 (fun x hx=>by rw [hf x hx];rfl)]
 | some i=>
   obtain ⟨hi,hq,hn⟩:=List.findIdx?_eq_some_iff_getElem.1 hf
   rw [show plc (some i)=(i:Int) from rfl,DN (by omega),Zwn,Z3o (by omega)]
   let F:List Side→List Side:=fun pre=>pre.filter fun x=>!q x
   have hF:∀pre post,l=pre++post→(F pre).length≤pre.length:=fun pre post _=>List.length_filter_le _ _
   have key:=Zao l (Zte p) (fun pre=>(((F pre).length:Int),(pre.length:Int),F pre++l.drop (F pre).length)) (fun _ _=>some (F l)) (fun pre x post h=>?_) ?_ (l.drop (i+1)) (l.take (i+1)) (by simp)
   ·have e1:F (l.take (i+1))=l.take i:=by
     show (l.take (i+1)).filter _=_
     rw [List.take_succ_eq_append_getElem hi,List.filter_append]
     have a1:(l.take i).filter (fun x=>!q x)=l.take i:=by
      rw [List.filter_eq_self]
      intro x hx
      obtain ⟨j,hj,rfl⟩:=List.mem_iff_getElem.1 hx
      rw [List.getElem_take]
      have:=hn j (by simp at hj;omega)
      simpa using this
     have a2: [l[i]].filter (fun x=>!q x)=[]:=by simp [hq]
     rw [a1,a2,List.append_nil]
    rw [e1] at key
    have e2:(l.take i).length=i:=by simp;omega
    have e3:(l.take (i+1)).length=i+1:=by simp;omega
    rw [e2,e3,List.take_append_drop] at key
    exact key
   ·left
    refine ⟨?_,rfl⟩
    have hx:=Zdo h
    have hm:=Zeo h
    have h8:=hF pre (x::post) h
    have h6:(F pre++l.drop (F pre).length).length=l.length:=by simp;omega
    have h9:(F pre++l.drop (F pre).length)[pre.length]?=some x:=by
     rw [List.getElem?_append_right h8,List.getElem?_drop,show (F pre).length+(pre.length-(F pre).length)=pre.length by omega];exact hx
    dsimp only [Zte]
    rw [Z1o h9,Zvn,Zzn h9,OB,hp x (Zfo h),OB]
    have hc:F (pre++[x])=F pre++(if q x then [] else [x]):=by
     show (pre++[x]).filter _=_
     rw [List.filter_append]
     congr 1
     cases ho:q x<;>simp [ho]
    cases he:q x with
    | true=>
      rw [Bool.not_true,Zwn]
      dsimp only [Zse]
      rw [Z3o (by omega),hc,he,if_pos rfl,List.append_nil,Zio]
    | false=>
      rw [Bool.not_false,Zvn]
      obtain ⟨d,hd⟩:=Z3p (fun x=>!q x) pre post x
      rw [←h] at hd
      have hd':l.drop (F pre).length=d::l.drop ((F pre).length+1):=hd
      have hw:(F pre++l.drop (F pre).length)[(F pre).length]?=some d:=by rw [hd'];simp
      rw [Zzn hw,OB]
      dsimp only [Zse]
      rw [Z3o (by omega),Z3o (by omega),hc,he,if_neg (by simp),Zio,hd',Int.toNat_natCast,Zio]
      simp
   ·dsimp only [Zte]
    have h8:=hF l [] (by simp)
    have h6:(F l++l.drop (F l).length).length=l.length:=by simp;omega
    rw [show ((l.length:Int))=((F l++l.drop (F l).length).length:Int) by rw [h6],Z2o,Zwn]
    dsimp only [Zre]
    unfold vw_
    rw [ln_eq,h6,if_pos ⟨by omega,by omega,by omega,by omega⟩,OB]
    unfold clr_
    rw [h6,if_pos ⟨by omega,by simp;omega⟩,OB]
    unfold sub_
    rw [if_pos ⟨by omega,by omega,by simp;omega⟩,OB]
    simp [Int.toNat_natCast,List.append_assoc]
theorem s_drop1 (p a b c d:Int) (B:List Sess) (O:List Int) (f:Int) (S:List Side) (N:List Int) (K A:List KE) (E:List Mail) (V:List Event) (hS:S.length≤1000):
  Z1g p a b c d B O f S N K A E V=some (S.filter fun x=>!decide (x.Peer=p)):=by
 simp only [Z1g,Zdr S (fun z=>Zn9 z p) (fun x=>decide (x.Peer=p)) (by omega) (fun _ _=>rfl),OB]
def Zer (th:Int) (N:List Int) (x:Side):Bool:=decide (x.State=2)&&!(decide (th=2)&&decide (x.Peer∈N))
def Zfr (id th:Int) (N:List Int) (x:Side):Option Side:=if Zer th N x then (if id<x.Peer then some {x with State:=3} else none) else some x
def Zgr (id th:Int) (N:List Int) (x:Side):List Mail:=if Zer th N x then [⟨id,x.Peer,⟨if id<x.Peer then 7 else 8,x.Epoch,0⟩⟩] else []
def Zhr (id th:Int) (N:List Int) (S:List Side):List Side:=S.filterMap (Zfr id th N)
def Zir (id th:Int) (N:List Int) (S:List Side):List Mail:=S.flatMap (Zgr id th N)
theorem goes3 (th:Int) (N:List Int) (x:Side):Zer th N {x with State:=3}=false:=by simp [Zer]
theorem Zjr {id th:Int} {N:List Int} {S:List Side} (h:∀x∈S,Zer th N x=false):Zhr id th N S=S∧Zir id th N S=[]:=by
 induction S with
 | nil=>exact ⟨rfl,rfl⟩
 | cons x S ih=>
   have h1:=h x (by simp)
   obtain ⟨i1,i2⟩:=ih fun y hy=>h y (List.mem_cons_of_mem _ hy)
   refine ⟨?_,?_⟩
   ·unfold Zhr at i1 ⊢
    rw [List.filterMap_cons,Zfr,h1]
    simp [i1]
   ·unfold Zir at i2 ⊢
    rw [List.flatMap_cons,i2,Zgr,h1]
    rfl
theorem Zkr (id th:Int) (N:List Int) (a b:List Side):Zhr id th N (a++b)=Zhr id th N a++Zhr id th N b:=List.filterMap_append
theorem Zlr (id th:Int) (N:List Int) (a b:List Side):Zir id th N (a++b)=Zir id th N a++Zir id th N b:=by simp [Zir]
theorem leav_done (id th:Int) (N:List Int) (S:List Side):∀x∈Zhr id th N S,Zer th N x=false:=by
 intro x hx
 obtain ⟨y,hy,h⟩:=List.mem_filterMap.1 hx
 unfold Zfr at h
 split at h
 ·split at h
  ·simp at h;subst h;exact goes3 th N y
  ·simp at h
 ·rename_i hg
  simp at h;subst h;simpa using hg
theorem Zmr (id th:Int) (N:List Int) (S:List Side):(Zir id th N S).length≤S.length:=by
 induction S with
 | nil=>simp [Zir]
 | cons x S ih=>
   have:(Zgr id th N x).length≤1:=by unfold Zgr;split<;>simp
   unfold Zir at ih ⊢
   rw [List.flatMap_cons,List.length_append,List.length_cons];omega
theorem leavS_len (id th:Int) (N:List Int) (S:List Side):(Zhr id th N S).length≤S.length:=List.length_filterMap_le _ _
section
variable (id ph th d:Int) (B:List Sess) (O:List Int) (f:Int) (N:List Int) (K A:List KE) (V:List Event)
theorem Znr (S:List Side) (hS:S.Pairwise fun x y=>x.Peer<y.Peer) (hl:S.length≤1000) (hN:N.length≤100000):∀(post pre:List Side) (E:List Mail),S=pre++post→(∀x∈pre,Zer th N x=true→id<x.Peer)→E.length≤900000+pre.length→
  (∃q x r,post=q++x::r∧(∀y∈q,Zer th N y=true→id<y.Peer)∧Zer th N x=true∧¬id<x.Peer∧loop (Zfh id ph th d B O f N K A V S) ((pre.length:Int),Zhr id th N pre++post,E)=some (.inl (Zhr id th N (pre++q)++r,E++Zir id th N (q++[x]))))
  ∨(∀x∈post,Zer th N x=true→id<x.Peer)∧loop (Zfh id ph th d B O f N K A V S) ((pre.length:Int),Zhr id th N pre++post,E)=some (.inr (E++Zir id th N post,Zhr id th N S)):=by
 intro post
 induction post with
 | nil=>
   intro pre E h hp hE
   have h:pre=S:=by simpa using h.symm
   subst h
   right
   refine ⟨by simp,?_⟩
   rw [loop_eq]
   dsimp only [Zfh]
   rw [Z2o,Zwn]
   simp [Zch,Zir]
 | cons x post ih=>
   intro pre E h hp hE
   have hx:=Zdo h
   have hm:=Zeo h
   have h6:(Zhr id th N pre).length=pre.length:=by
    have:∀(l:List Side),(∀x∈l,Zer th N x=true→id<x.Peer)→(Zhr id th N l).length=l.length:=by
     intro l
     induction l with
     | nil=>intro _;rfl
     | cons y l ih=>
       intro hl
       have i:=ih fun z hz=>hl z (List.mem_cons_of_mem _ hz)
       unfold Zhr at i ⊢
       have hy:=hl y (by simp)
       have e:∃z,Zfr id th N y=some z:=by
        unfold Zfr
        cases hg:Zer th N y with
        | false=>exact ⟨y,by simp⟩
        | true=>exact ⟨_,by simp [hy hg];rfl⟩
       obtain ⟨z,e⟩:=e
       rw [List.filterMap_cons,e]
       simp only [List.length_cons,i]
    exact this pre hp
   have at1:at_ (Zhr id th N pre++x::post) (pre.length:Int)=some x:=by rw [←h6];exact Zgo rfl
   have st1:∀z:Side,(Zhr id th N pre++x::post).set ((pre.length:Int)).toNat z=Zhr id th N pre++z::post:=fun z=>by rw [←h6];exact Zho _ _ _ _
   have j2:∀(z:Side) (E:List Mail),Zdh (pre.length:Int) (Zhr id th N pre++z::post,E)=some (.inl (((pre++[x]).length:Int),Zhr id th N pre++z::post,E)):=fun z E=>by
    dsimp only [Zdh]
    rw [Z3o (by omega),Zio]
   have j3:∀z,Zeh id ph th d B O f N K A V (pre.length:Int) (Zhr id th N pre++x::post) E x z=if z then some (.inl (((pre++[x]).length:Int),Zhr id th N pre++x::post,E)) else if id<x.Peer then some (.inl (((pre++[x]).length:Int),Zhr id th N pre++{x with State:=3}::post,E++[⟨id,x.Peer,⟨7,x.Epoch,0⟩⟩])) else some (.inr (.inl ((Zhr id th N pre++x::post).filter fun y=>!decide (y.Peer=x.Peer),E++[⟨id,x.Peer,⟨8,x.Epoch,0⟩⟩]))):=fun z=>by
    have h8:(Zhr id th N pre++x::post).length≤1000:=by rw [List.length_append,h6];rw [h,List.length_append] at hl;exact hl
    cases z with
    | true=>dsimp only [Zeh];rw [Zvn,j2];rfl
    | false=>
      dsimp only [Zeh]
      rw [Zwn,if_neg (by simp)]
      by_cases hq:id<x.Peer
      ·rw [DT hq,Zvn,if_pos hq,s_send3 _ _ _ _ _ _ _ _ _ _ _ _ _ _ _ (by omega),OB,st1,j2]
      ·rw [DN hq,Zwn,if_neg hq,s_drop1 _ _ _ _ _ _ _ _ _ _ _ _ _ _ h8,OB,s_send3 _ _ _ _ _ _ _ _ _ _ _ _ _ _ _ (by omega),OB];rfl
   have step:Zfh id ph th d B O f N K A V S ((pre.length:Int),Zhr id th N pre++x::post,E)=if Zer th N x then (if id<x.Peer then some (.inl (((pre++[x]).length:Int),Zhr id th N pre++{x with State:=3}::post,E++[⟨id,x.Peer,⟨7,x.Epoch,0⟩⟩])) else some (.inr (.inl ((Zhr id th N pre++x::post).filter fun y=>!decide (y.Peer=x.Peer),E++[⟨id,x.Peer,⟨8,x.Epoch,0⟩⟩])))) else some (.inl (((pre++[x]).length:Int),Zhr id th N pre++x::post,E)):=by
    dsimp only [Zfh]
    rw [Z1o hx,Zvn,at1,OB]
    simp only [Z0p N x.Peer (show N.length≤1000000 by omega),OB,j3]
    unfold Zer
    cases decide (x.State=2) with
    | false=>rfl
    | true=>cases decide (th=2) with
      | false=>rfl
      | true=>cases decide (x.Peer∈N)<;>rfl
   rw [loop_eq,step]
   cases hg:Zer th N x with
   | false=>
     rw [if_neg (by simp)]
     have e:Zhr id th N (pre++[x])=Zhr id th N pre++[x]:=by rw [Zkr];simp [Zhr,Zfr,hg]
     have:=ih (pre++[x]) E (by simpa using h) (fun y hy=>by
      rcases List.mem_append.1 hy with hy | hy
      ·exact hp y hy
      ·simp at hy;subst hy;rw [hg];simp) (by rw [Zio];omega)
     rw [e,List.append_assoc,List.singleton_append] at this
     rcases this with ⟨q,y,r,h1,h2,h3,h4,h5⟩ | ⟨h1,h2⟩
     ·left
      refine ⟨x::q,y,r,by rw [h1];rfl,fun z hz=>?_,h3,h4,?_⟩
      ·rcases List.mem_cons.1 hz with rfl | hz
       ·rw [hg];simp
       ·exact h2 z hz
      ·refine Eq.trans h5 ?_
       have e2:Zir id th N (x::q++[y])=Zir id th N (q++[y]):=by
        show Zir id th N ([x]++(q++[y]))=_
        rw [Zlr]
        simp [Zir,Zgr,hg]
       rw [e2,List.append_assoc];rfl
     ·right
      refine ⟨fun z hz=>?_,?_⟩
      ·rcases List.mem_cons.1 hz with rfl | hz
       ·rw [hg];simp
       ·exact h1 z hz
      ·refine Eq.trans h2 ?_
       have e2:Zir id th N (x::post)=Zir id th N post:=by
        show Zir id th N ([x]++post)=_
        rw [Zlr]
        simp [Zir,Zgr,hg]
       rw [e2]
   | true=>
     rw [if_pos rfl]
     by_cases hq:id<x.Peer
     ·rw [if_pos hq]
      have e:Zhr id th N (pre++[x])=Zhr id th N pre++[{x with State:=3}]:=by rw [Zkr];simp [Zhr,Zfr,hg,hq]
      have:=ih (pre++[x]) (E++[⟨id,x.Peer,⟨7,x.Epoch,0⟩⟩]) (by simpa using h) (fun y hy=>by
       rcases List.mem_append.1 hy with hy | hy
       ·exact hp y hy
       ·simp at hy;subst hy;exact fun _=>hq) (by rw [Zio,Zio];omega)
      rw [e,List.append_assoc,List.singleton_append] at this
      have em:Zir id th N [x]=[⟨id,x.Peer,⟨7,x.Epoch,0⟩⟩]:=by simp [Zir,Zgr,hg,hq]
      rcases this with ⟨q,y,r,h1,h2,h3,h4,h5⟩ | ⟨h1,h2⟩
      ·left
       refine ⟨x::q,y,r,by rw [h1];rfl,fun z hz=>?_,h3,h4,?_⟩
       ·rcases List.mem_cons.1 hz with rfl | hz
        ·exact fun _=>hq
        ·exact h2 z hz
       ·refine Eq.trans h5 ?_
        have e2:Zir id th N (x::q++[y])=Zir id th N [x]++Zir id th N (q++[y]):=Zlr id th N [x] (q++[y])
        rw [e2,em,List.append_assoc,List.append_assoc];rfl
      ·right
       refine ⟨fun z hz=>?_,?_⟩
       ·rcases List.mem_cons.1 hz with rfl | hz
        ·exact fun _=>hq
        ·exact h1 z hz
       ·refine Eq.trans h2 ?_
        have e2:Zir id th N (x::post)=Zir id th N [x]++Zir id th N post:=Zlr id th N [x] post
        rw [e2,em,List.append_assoc]
     ·rw [if_neg hq]
      left
      refine ⟨[],x,post,rfl,by simp,hg,hq,?_⟩
      rw [h] at hS
      rw [List.pairwise_append,List.pairwise_cons] at hS
      obtain ⟨_,⟨p1,_⟩,p2⟩:=hS
      have e1:(Zhr id th N pre++x::post).filter (fun y=>!decide (y.Peer=x.Peer))=Zhr id th N pre++post:=by
       rw [List.filter_append,List.filter_cons,List.filter_eq_self.2,List.filter_eq_self.2]
       ·simp
       ·intro y hy;have:=p1 y hy;simp;omega
       ·intro y hy
        obtain ⟨z,hz,hy⟩:=List.mem_filterMap.1 hy
        have:=p2 z hz x (by simp)
        have e:y.Peer=z.Peer:=by
         unfold Zfr at hy
         split at hy
         ·split at hy
          ·simp at hy;subst hy;rfl
          ·simp at hy
         ·simp at hy;subst hy;rfl
        simp;omega
      have em:Zir id th N [x]=[⟨id,x.Peer,⟨8,x.Epoch,0⟩⟩]:=by simp [Zir,Zgr,hg,hq]
      rw [e1,List.append_nil,List.nil_append,em]
theorem s_leave (hN:N.length≤100000):∀(n:Nat) (S:List Side) (E:List Mail),S.length≤n→S.length≤1000→S.Pairwise (fun x y=>x.Peer<y.Peer)→E.length+(Zir id th N S).length≤900000→
  loop (Zgh id ph th d B O f N K A V) (S,E)=some (E++Zir id th N S,Zhr id th N S):=by
 intro n
 induction n with
 | zero=>
   intro S E hn _ _ _
   have:S=[]:=List.length_eq_zero_iff.1 (by omega)
   subst this
   rw [loop_eq]
   dsimp only [Zgh]
   rcases Znr id ph th d B O f N K A V [] List.Pairwise.nil (by simp) hN [] [] E rfl (by simp) (by simp;omega) with ⟨q,x,r,h,_⟩ | ⟨_,h⟩
   ·have:=congrArg List.length h;simp at this
   ·have h:loop (Zfh id ph th d B O f N K A V []) (0,[],E)=_:=h
    rw [h]
 | succ n ih=>
   intro S E hn hl hS hE
   rw [loop_eq]
   dsimp only [Zgh]
   rcases Znr id ph th d B O f N K A V S hS hl hN S [] E rfl (by simp) (by simp;omega) with ⟨q,x,r,h1,h2,h3,h4,h5⟩ | ⟨_,h⟩
   ·have h5:loop (Zfh id ph th d B O f N K A V S) (0,S,E)=_:=h5
    rw [h5]
    dsimp only
    have ql:=leavS_len id th N q
    have qm:=Zmr id th N (q++[x])
    have h9:S.length=q.length+(r.length+1):=by rw [h1];simp
    have hx:Zhr id th N [x]=[]:=by simp [Zhr,Zfr,h3,h4]
    have h6:=Zjr (id:=id) (leav_done id th N q)
    have hp:(Zhr id th N ([]++q)++r).Pairwise fun x y=>x.Peer<y.Peer:=by
     rw [h1,List.pairwise_append,List.pairwise_cons] at hS
     obtain ⟨s1,⟨_,s2⟩,s3⟩:=hS
     have key:∀y∈Zhr id th N q,∃z∈q,y.Peer=z.Peer:=by
      intro y hy
      obtain ⟨z,hz,hy⟩:=List.mem_filterMap.1 hy
      refine ⟨z,hz,?_⟩
      unfold Zfr at hy
      split at hy
      ·split at hy
       ·simp at hy;subst hy;rfl
       ·simp at hy
      ·simp at hy;subst hy;rfl
     rw [List.nil_append,List.pairwise_append]
     refine ⟨?_,s2,fun y hy z hz=>?_⟩
     ·unfold Zhr
      rw [List.pairwise_filterMap]
      refine s1.imp fun {a b} h8 y hy z hz=>?_
      have e:∀ {a y:Side},Zfr id th N a=some y→y.Peer=a.Peer:=by
       intro a y hy
       unfold Zfr at hy
       split at hy
       ·split at hy
        ·simp at hy;subst hy;rfl
        ·simp at hy
       ·simp at hy;subst hy;rfl
      rw [e hy,e hz];exact h8
     ·obtain ⟨w,hw,e⟩:=key y hy
      rw [e];exact s3 w hw z (List.mem_cons_of_mem _ hz)
    have e3:Zir id th N (q++x::r)=Zir id th N (q++[x])++Zir id th N r:=by rw [←Zlr];simp
    have e4:Zhr id th N (q++x::r)=Zhr id th N q++Zhr id th N r:=by
     rw [show q++x::r=q++([x]++r) from rfl,Zkr,Zkr,hx];rfl
    have e5:Zir id th N (Zhr id th N q++r)=Zir id th N r:=by rw [Zlr id th N (Zhr id th N q) r,h6.2];rfl
    have e6:Zhr id th N (Zhr id th N q++r)=Zhr id th N q++Zhr id th N r:=by rw [Zkr id th N (Zhr id th N q) r,h6.1]
    rw [h1,e3,List.length_append] at hE
    rw [List.nil_append] at hp ⊢
    rw [ih _ _ (by rw [List.length_append];omega) (by rw [List.length_append];omega) hp (by rw [List.length_append,e5];omega)]
    rw [e5,e6,h1,e3,e4,List.append_assoc]
   ·have h:loop (Zfh id ph th d B O f N K A V S) (0,S,E)=_:=h
    rw [h]
end
end NX
end Go.Proofs.YtdjkbodnjhgbcaaGreat
/-
  Plain laws: what a node does once. No statement of the seat is proved here.
-/
namespace Go.Proofs.YtdjkbodnjhgbcaaGreat
namespace NX
open Go
def Zor (n:Node):Node:=if n.DK.DI.PH=2 then n else ⟨⟨⟨n.DK.DI.ID,n.DK.DI.PH,Zar n.DK.DI.SD n.AK⟩,n.DK.TH,n.DK.Need⟩,n.Book,ansK n.KN n.AK,n.Told,[]⟩
def ansNM (n:Node):List Mail:=if n.DK.DI.PH=2 then [] else ansM n.DK.DI.ID n.AK
def ansNV (n:Node):List Event:=if n.DK.DI.PH=2 then [] else ansV n.DK.DI.ID n.AK
def Zpr (n:Node):Option Sess:=match n.Book.Sess with | []=>none | s::_=>if s.State=0 then some s else none
def Zqr (n:Node):DK:=match Zpr n with | some s=>if n.DK.TH=0 then ⟨n.DK.DI,1,s.Need⟩ else n.DK | none=>n.DK
def Zrr (n:Node):Node:=⟨Zqr n,n.Book,n.KN,n.Told,n.AK⟩
def hunP (n:Node):Int:=if decide (n.DK.DI.PH=0)&&n.DK.DI.SD.any (Zbr n.Told) then 1 else n.DK.DI.PH
def Zsr (n:Node):Node:=⟨⟨⟨n.DK.DI.ID,hunP n,n.DK.DI.SD⟩,n.DK.TH,n.DK.Need⟩,n.Book,n.KN,n.Told,n.AK⟩
def Ztr (n:Node):Node:=⟨(Zfq n.DK).1,n.Book,n.KN,n.Told,n.AK⟩
def graB (n:Node):Book:=match n.Book.Sess with | []=>n.Book | s::l=>if s.State=0 then (if n.DK.TH=2 then ⟨n.Book.Last,⟨s.ID,s.Need,1,s.Age⟩::l⟩ else n.Book) else n.Book
def Zur (n:Node):Node:=⟨n.DK,graB n,n.KN,n.Told,n.AK⟩
def graV (n:Node):List Event:=match Zpr n with | some s=>if n.DK.TH=2 then [⟨1,n.DK.DI.ID,s.ID,0,[]⟩] else [] | none=>[]
def Zvr (n:Node):List Int×List Mail:=if n.DK.DI.PH=2 then Zcr n.DK.DI.ID n.DK.DI.SD n.Told [] else (n.Told,[])
def Zwr (n:Node):Node:=⟨n.DK,n.Book,n.KN,(Zvr n).1,n.AK⟩
def leaN (n:Node):Node:=⟨⟨⟨n.DK.DI.ID,n.DK.DI.PH,Zhr n.DK.DI.ID n.DK.TH n.DK.Need n.DK.DI.SD⟩,n.DK.TH,n.DK.Need⟩,n.Book,n.KN,n.Told,n.AK⟩
def Zxr (n:Node):List Mail:=Zir n.DK.DI.ID n.DK.TH n.DK.Need n.DK.DI.SD
def Zyr (n:Node):Node:=Zsr (Zrr (Zor n))
def Zzr (n:Node):Node:=Ztr (Zyr n)
def Z0s (n:Node):Node:=leaN (Zwr (Zur (Zzr n)))
def Z1s (n:Node):List Mail:=ansNM n++((Zfq (Zyr n).DK).2++((Zvr (Zur (Zzr n))).2++Zxr (Zwr (Zur (Zzr n)))))
def Z2s (n:Node):List Event:=ansNV n++graV (Zzr n)
def tupN (n:Node) (E:List Mail) (V:List Event):Int×Int×Int×Int×List Sess×List Int×List KE×List Event×List KE×List Int×List Mail×List Side:=
 (n.DK.DI.ID,n.DK.DI.PH,n.DK.TH,n.Book.Last,n.Book.Sess,n.Told,n.KN,V,n.AK,n.DK.Need,E,n.DK.DI.SD)
def tupF (d:DK) (N:List Int) (M:List Mail):Int×Int×Int×Int×List Side×List Int×List Mail:=(d.DI.ID,d.DI.PH,d.TH,0,d.DI.SD,N,M)
theorem Z3s (id:Int):∀(l:List Side) (T:List Int) (E:List Mail),Zcr id l T E=((Zcr id l T []).1,E++(Zcr id l T []).2)
 | [],T,E=>by simp [Zcr]
 | x::l,T,E=>by
   unfold Zcr
   split
   ·rw [Z3s id l _ (E++_),Z3s id l _ ([]++_)];simp
   ·exact Z3s id l T E
theorem Z4s (id:Int):∀(l:List Side) (T:List Int) (E:List Mail),(Zcr id l T E).1.length≤T.length+l.length∧(Zcr id l T E).2.length≤E.length+l.length
 | [],T,E=>by simp [Zcr]
 | x::l,T,E=>by
   unfold Zcr
   split
   ·have:=Z4s id l (Zxo (T++[x.Peer])) (E++[⟨id,x.Peer,⟨5,x.Epoch,0⟩⟩])
    have h2:=Z4p (T++[x.Peer])
    simp only [List.length_append,List.length_cons,List.length_nil] at this h2 ⊢
    omega
   ·have:=Z4s id l T E
    simp only [List.length_cons];omega
section
variable (f:Int)
theorem once_end (m:Node) (M0 E:List Mail) (V:List Event) (hS:m.DK.DI.SD.length≤1000) (hs:m.DK.DI.SD.Pairwise fun x y=>x.Peer<y.Peer) (hO:m.Told.length≤1000) (hN:m.DK.Need.length≤100000) (hE:E.length≤800000):
  Ztk m.Told f m.KN m.AK (tupF m.DK m.DK.Need M0) E (m.Book.Last,m.Book.Sess,V)=some (tupN (leaN (Zwr m)) (E++((Zvr m).2++Zxr (Zwr m))) V):=by
 have h1:=Z4s m.DK.DI.ID m.DK.DI.SD m.Told []
 have h2:=Zmr m.DK.DI.ID m.DK.TH m.DK.Need m.DK.DI.SD
 have j10:∀(T:List Int) (E:List Mail),E.length≤890000→Zsk f m.KN m.AK (tupF m.DK m.DK.Need M0) m.Book.Last m.Book.Sess V (T,E)=some (tupN (leaN ⟨m.DK,m.Book,m.KN,T,m.AK⟩) (E++Zxr m) V):=fun T E hE=>by
  dsimp only [Zsk,tupF,Zhh]
  rw [s_leave m.DK.DI.ID m.DK.DI.PH m.DK.TH m.Book.Last m.Book.Sess T f m.DK.Need m.KN m.AK V hN _ m.DK.DI.SD E (Nat.le_refl _) hS hs (by omega),OB]
  rfl
 dsimp only [Ztk]
 unfold Zwr Zvr
 by_cases hp:m.DK.DI.PH=2
 ·rw [show decide ((tupF m.DK m.DK.Need M0).2.1=2)=true from DT hp,Zvn,if_pos hp]
  dsimp only [tupF]
  rw [s_tell _ _ _ _ _ _ _ _ _ _ _ _ _ hS hO (by omega),OB]
  have:=j10 (Zcr m.DK.DI.ID m.DK.DI.SD m.Told []).1 (E++(Zcr m.DK.DI.ID m.DK.DI.SD m.Told []).2) (by rw [List.length_append];simp only [List.length_nil] at h1;omega)
  rw [Z3s]
  dsimp only
  refine Eq.trans this ?_
  rw [List.append_assoc];rfl
 ·rw [show decide ((tupF m.DK m.DK.Need M0).2.1=2)=false from DN hp,Zwn,if_neg hp]
  rw [j10 m.Told E (by omega)]
  rfl
def Z5s (n:Node):Sess×Bool:=match n.Book.Sess with | []=>(sess0,false) | s::_=>(s,true)
theorem once_grant (m:Node) (M0 E:List Mail) (V:List Event) (hB:Z8p m.Book) (hk:okBk m.Book=true) (hS:m.DK.DI.SD.length≤1000) (hs:m.DK.DI.SD.Pairwise fun x y=>x.Peer<y.Peer) (hO:m.Told.length≤1000) (hN:m.DK.Need.length≤100000) (hE:E.length≤800000) (hV:V.length≤800000):
  Zwk m.Book.Last m.Book.Sess m.Told f m.KN V m.AK (Z5s m) (tupF m.DK m.DK.Need M0) E=some (tupN (leaN (Zwr (Zur m))) (E++((Zvr (Zur m)).2++Zxr (Zwr (Zur m)))) (V++graV m)):=by
 have no:graB m=m.Book→graV m=[]→Ztk m.Told f m.KN m.AK (tupF m.DK m.DK.Need M0) E (m.Book.Last,m.Book.Sess,V)=some (tupN (leaN (Zwr (Zur m))) (E++((Zvr (Zur m)).2++Zxr (Zwr (Zur m)))) (V++graV m)):=fun e1 e2=>by
  have e:Zur m=m:=by unfold Zur;rw [e1]
  rw [e,e2,List.append_nil]
  exact once_end f m M0 E V hS hs hO hN hE
 dsimp only [Zwk,Zvk]
 simp only [Zwn]
 unfold Z5s
 cases hb:m.Book.Sess with
 | nil=>
   rw [Zwn,←hb]
   exact no (by unfold graB;rw [hb]) (by unfold graV Zpr;rw [hb])
 | cons s l=>
   rw [Zvn]
   by_cases h0:s.State=0
   ·rw [DT h0,Zvn]
    by_cases h2:m.DK.TH=2
    ·rw [show decide ((tupF m.DK m.DK.Need M0).2.2.1=2)=true from DT h2,Zvn,←hb,s_Grant m.Book hB,OB]
     have eg:grantP m.Book=(⟨m.Book.Last,⟨s.ID,s.Need,1,s.Age⟩::l⟩,s.ID,0):=by
      unfold grantP;rw [hk,if_pos rfl,hb]
      dsimp only
      rw [if_neg (by omega)]
     have e1:Zur m=⟨m.DK,⟨m.Book.Last,⟨s.ID,s.Need,1,s.Age⟩::l⟩,m.KN,m.Told,m.AK⟩:=by unfold Zur graB;rw [hb];dsimp only;rw [if_pos h0,if_pos h2]
     have e2:graV m=[⟨1,m.DK.DI.ID,s.ID,0,[]⟩]:=by unfold graV Zpr;rw [hb];dsimp only;rw [if_pos h0];dsimp only;rw [if_pos h2]
     rw [eg]
     dsimp only [Zuk,tupF]
     rw [s_session4 _ _ _ _ _ _ _ _ _ _ _ _ _ _ _ (by omega),OB,e1,e2]
     have:=once_end f ⟨m.DK,⟨m.Book.Last,⟨s.ID,s.Need,1,s.Age⟩::l⟩,m.KN,m.Told,m.AK⟩ M0 E (V++[⟨1,m.DK.DI.ID,s.ID,0,[]⟩]) hS hs hO hN hE
     rw [hb]
     exact this
    ·rw [show decide ((tupF m.DK m.DK.Need M0).2.2.1=2)=false from DN h2,Zwn,←hb]
     exact no (by unfold graB;rw [hb];dsimp only;rw [if_pos h0,if_neg h2]) (by unfold graV Zpr;rw [hb];dsimp only;rw [if_pos h0];dsimp only;rw [if_neg h2])
   ·rw [DN h0,Zwn,←hb]
    exact no (by unfold graB;rw [hb];dsimp only;rw [if_neg h0]) (by unfold graV Zpr;rw [hb];dsimp only;rw [if_neg h0])
theorem s_untold (x:Side) (n:node_node) (h:n.Node.Told.length≤1000):Zwf x n=some (Zbr n.Node.Told x):=by
 simp only [Zwf,Zl9,OB,Z0p n.Node.Told x.Peer (by omega),Zvf]
 unfold Zbr Zqq
 cases decide (x.State=1)<;>rfl
theorem fireDr_up (n:Nat):∀(d:DK) (out:List Mail),((Zeq n d out).1.DI.SD.map (·.Peer))=d.DI.SD.map (·.Peer)∧(Zeq n d out).1.DI.ID=d.DI.ID:=by
 induction n with
 | zero=>intro d out;exact ⟨rfl,rfl⟩
 | succ n ih=>
   intro d out
   unfold Zeq
   split
   ·exact ⟨rfl,rfl⟩
   ·obtain ⟨i1,i2⟩:=ih (Z8q d) (out++Z9q d)
    refine ⟨i1.trans ?_,i2⟩
    show (Z6q d).map _=_
    unfold Z6q
    rw [List.map_map]
    have e:((fun x:Side=>x.Peer)∘fun x=>Z1q (Z0q d x) d.TH x)=fun x:Side=>x.Peer:=by
     funext x;exact (Z3q _ _ _).1
    rw [e,Zyp,List.map_map]
    show d.DI.SD.map _=_
    congr 1
    funext x
    exact (Zzp _ x).1
theorem fireDr_peers (d:DK):(Zfq d).1.DI.SD.map (·.Peer)=d.DI.SD.map (·.Peer)∧(Zfq d).1.DI.ID=d.DI.ID∧(Zfq d).1.Need=d.Need:=⟨(fireDr_up 300 d []).1,(fireDr_up 300 d []).2,Zmq 300 d []⟩
theorem pw_peers {S S':List Side} (h:S'.map (·.Peer)=S.map (·.Peer)) (hs:S.Pairwise fun x y=>x.Peer<y.Peer):S'.Pairwise fun x y=>x.Peer<y.Peer:=by
 have h1:(S.map (·.Peer)).Pairwise (· < ·):=List.pairwise_map.2 hs
 rw [←h] at h1
 exact List.pairwise_map.1 h1
theorem fireN_out:∀(n:Nat) (d:DK) (out:List Mail),(Zeq n d out).2.length+bits (Zeq n d out).1.DI.SD=out.length+bits d.DI.SD
 | 0,_,_=>rfl
 | n+1,d,out=>by
   unfold Zeq
   split
   ·rfl
   ·have h1:=fireN_out n (Z8q d) (out++Z9q d)
    have h2:=Zbq d
    rw [List.length_append] at h1
    omega
theorem Z6s {d:DK} (h:okDr d=true):(Zfq d).2.length≤256:=by
 have h1:=fireN_out 300 d []
 have h2:=bits_le d.DI.SD
 have h3:=Zpp (Zlq h)
 simp only [List.length_nil] at h1
 unfold Zfq;omega
theorem once_fire (m:Node) (x20:Sess×Bool) (h6:x20=Z5s m) (E:List Mail) (V:List Event) (hd:okDr (Zsr m).DK=true) (hB:Z8p m.Book) (hk:okBk m.Book=true) (hs:m.DK.DI.SD.Pairwise fun x y=>x.Peer<y.Peer) (hO:m.Told.length≤1000) (hN:m.DK.Need.length≤100000) (hE:E.length≤700000) (hV:V.length≤800000):
  Zzk m.DK.DI.ID m.DK.DI.PH m.Book.Last m.Book.Sess m.Told f m.DK.DI.SD m.KN E V m.AK x20 (m.DK.TH,m.DK.Need) =
   some (tupN (leaN (Zwr (Zur (Ztr (Zsr m))))) (E++((Zfq (Zsr m).DK).2++((Zvr (Zur (Ztr (Zsr m)))).2++Zxr (Zwr (Zur (Ztr (Zsr m))))))) (V++graV (Ztr (Zsr m)))):=by
 subst h6
 have hl:=Zpp (Zlq hd)
 have hl:m.DK.DI.SD.length<64:=hl
 have hq:=fireDr_peers (Zsr m).DK
 have h8:(Zfq (Zsr m).DK).1.DI.SD.length=m.DK.DI.SD.length:=by
  have:=congrArg List.length hq.1
  rw [List.length_map,List.length_map] at this;exact this
 have ho:=Z6s hd
 have h9:Zfq (Zsr m).DK=Zfq ⟨⟨m.DK.DI.ID,hunP m,m.DK.DI.SD⟩,m.DK.TH,m.DK.Need⟩:=rfl
 have j5:∀z,z=hunP m→Zxk m.DK.DI.ID m.Book.Last m.Book.Sess m.Told f m.DK.DI.SD m.KN E V m.AK (Z5s m) m.DK.TH m.DK.Need z=some (tupN (leaN (Zwr (Zur (Ztr (Zsr m))))) (E++((Zfq (Zsr m).DK).2++((Zvr (Zur (Ztr (Zsr m)))).2++Zxr (Zwr (Zur (Ztr (Zsr m))))))) (V++graV (Ztr (Zsr m)))):=fun z hz=>by
  subst hz
  dsimp only [Zxk]
  have hf:=s_drFire (Zsr m).DK hd (by show m.DK.Need.length≤1000000;omega)
  have hf':Zik m.DK.DI.ID (hunP m) m.DK.TH m.DK.DI.SD m.DK.Need=some (tupF (Zfq (Zsr m).DK).1 m.DK.Need (Zfq (Zsr m).DK).2):=hf
  rw [hf',OB]
  rw [show (tupF (Zfq (Zsr m).DK).1 m.DK.Need (Zfq (Zsr m).DK).2).2.2.2.2.2.2=(Zfq (Zsr m).DK).2 from rfl,Z0o _ _ (by omega) (by omega),OB]
  have hn:(Ztr (Zsr m)).DK.Need=m.DK.Need:=hq.2.2
  have:=once_grant f (Ztr (Zsr m)) (Zfq (Zsr m).DK).2 (E++(Zfq (Zsr m).DK).2) V hB hk (by show (Zfq (Zsr m).DK).1.DI.SD.length≤1000;omega) (pw_peers hq.1 hs) hO (by rw [hn];exact hN) (by rw [List.length_append];omega) hV
  rw [hn,List.append_assoc] at this
  exact this
 dsimp only [Zzk,Zyk]
 rw [Zwn,Zro m.DK.DI.SD _ (Zbr m.Told) (by omega) (fun x _=>s_untold x _ hO),OB]
 unfold hunP at j5
 by_cases h0:m.DK.DI.PH=0
 ·rw [DT h0] at j5 ⊢
  rw [Zvn]
  cases hu:m.DK.DI.SD.any (Zbr m.Told) with
  | true=>rw [hu] at j5;exact j5 1 rfl
  | false=>rw [hu] at j5;exact j5 _ rfl
 ·rw [DN h0] at j5 ⊢
  exact j5 _ rfl
theorem s_first3 (a b c d:Int) (B:Book) (O:List Int) (S:List Side) (N:List Int) (K A:List KE) (n:Node) (h:n.Book=B):Zkc a b c d B.Sess O S N K A=some (Z5s n):=by
 subst h
 simp only [Zkc,ln_eq]
 unfold Z5s
 cases h:n.Book.Sess with
 | nil=>rfl
 | cons s l=>rw [DN (by simp;omega),Zwn];rfl
theorem Z7s (m:Node) (E:List Mail) (V:List Event) (hd:okDr (Zsr (Zrr m)).DK=true) (hB:Z8p m.Book) (hk:okBk m.Book=true) (hs:m.DK.DI.SD.Pairwise fun x y=>x.Peer<y.Peer) (hO:m.Told.length≤1000) (hN:m.DK.Need.length≤100000) (h9:∀s∈m.Book.Sess,s.Need.length≤100000) (hE:E.length≤700000) (hV:V.length≤800000):
  Z1l m.DK.DI.ID m.DK.DI.PH m.DK.TH m.Book.Last m.Book.Sess m.Told f m.DK.Need (m.DK.DI.SD,m.KN,E,V,m.AK) =
   some (tupN (leaN (Zwr (Zur (Ztr (Zsr (Zrr m)))))) (E++((Zfq (Zsr (Zrr m)).DK).2++((Zvr (Zur (Ztr (Zsr (Zrr m))))).2++Zxr (Zwr (Zur (Ztr (Zsr (Zrr m)))))))) (V++graV (Ztr (Zsr (Zrr m))))):=by
 have h6:(Zrr m).DK.DI=m.DK.DI:=by
  show (Zqr m).DI=_
  unfold Zqr
  split
  ·split<;>rfl
  ·rfl
 have h8:(Zrr m).DK.Need.length≤100000:=by
  show (Zqr m).Need.length≤_
  unfold Zqr
  split
  ·rename_i s hw
   split
   ·unfold Zpr at hw
    split at hw
    ·simp at hw
    ·rename_i s' l hb
     split at hw
     ·simp at hw;subst hw;exact h9 _ (by rw [hb];simp)
     ·simp at hw
   ·exact hN
  ·exact hN
 have key:=once_fire f (Zrr m) (Z5s m) rfl E V hd hB hk (by rw [h6];exact hs) hO h8 hE hV
 rw [h6] at key
 have fin:∀(p:Int×List Int),p=((Zrr m).DK.TH,(Zrr m).DK.Need)→Zzk m.DK.DI.ID m.DK.DI.PH m.Book.Last m.Book.Sess m.Told f m.DK.DI.SD m.KN E V m.AK (Z5s m) p=some (tupN (leaN (Zwr (Zur (Ztr (Zsr (Zrr m)))))) (E++((Zfq (Zsr (Zrr m)).DK).2++((Zvr (Zur (Ztr (Zsr (Zrr m))))).2++Zxr (Zwr (Zur (Ztr (Zsr (Zrr m)))))))) (V++graV (Ztr (Zsr (Zrr m))))):=fun p hp=>by rw [hp];exact key
 dsimp only [Z1l,Z0l]
 rw [s_first3 _ _ _ _ m.Book _ _ _ _ _ m rfl,OB]
 simp only [Zwn]
 have noT:Zpr m=none→(m.DK.TH,m.DK.Need)=((Zrr m).DK.TH,(Zrr m).DK.Need):=fun h=>by
  show _=((Zqr m).TH,(Zqr m).Need)
  unfold Zqr;rw [h]
 cases hb:m.Book.Sess with
 | nil=>
   have e:(Z5s m).2=false:=by unfold Z5s;rw [hb]
   rw [e,Zwn,←hb]
   exact fin _ (noT (by unfold Zpr;rw [hb]))
 | cons s l=>
   have e:Z5s m=(s,true):=by unfold Z5s;rw [hb]
   rw [←hb]
   rw [show (Z5s m).2=true by rw [e],Zvn,show (Z5s m).1=s by rw [e]]
   by_cases h0:s.State=0
   ·have hw:Zpr m=some s:=by unfold Zpr;rw [hb];dsimp only;rw [if_pos h0]
    rw [DT h0,Zvn]
    by_cases h1:m.DK.TH=0
    ·rw [DT h1,Zvn,Zbp s.Need (by have:=h9 s (by rw [hb];simp);omega),OB]
     refine fin _ ?_
     show _=((Zqr m).TH,(Zqr m).Need)
     unfold Zqr;rw [hw];dsimp only;rw [if_pos h1]
    ·rw [DN h1,Zwn]
     refine fin _ ?_
     show _=((Zqr m).TH,(Zqr m).Need)
     unfold Zqr;rw [hw];dsimp only;rw [if_neg h1]
   ·rw [DN h0,Zwn]
    exact fin _ (noT (by unfold Zpr;rw [hb];dsimp only;rw [if_neg h0]))
structure GoN (n:Node):Prop where
 rowS:RowS n.DK.DI.SD
 rowK:RowK n.KN
 ask:AskOK n.DK.DI.SD n.AK
 lenS:n.DK.DI.SD.length+n.AK.length≤1000
 lenK:n.KN.length+n.AK.length≤1000
 dr:okDr (Zyr n).DK=true
 bk:Z8p n.Book
 ok:okBk n.Book=true
 told:n.Told.length≤1000
 need:n.DK.Need.length≤100000
 needs:∀s∈n.Book.Sess,s.Need.length≤100000
theorem s_once1 (n:Node) (h:GoN n) (E:List Mail) (V:List Event) (hE:E.length≤600000) (hV:V.length≤600000):
  Z2l n.DK.DI.ID n.DK.DI.PH n.DK.TH n.Book.Last n.Book.Sess n.Told f n.DK.DI.SD n.DK.Need n.KN n.AK E V=some (tupN (Z0s n) (E++Z1s n) (V++Z2s n)):=by
 have hd:=h.dr
 have hr:=(ans_rows h.rowS h.rowK h.ask h.lenS h.lenK [] n.AK (by simp)).1
 have hA:=h.lenS
 dsimp only [Z2l]
 unfold Z0s Z1s Z2s Zzr Zyr ansNM ansNV
 unfold Zyr at hd
 by_cases hp:n.DK.DI.PH=2
 ·have e:Zor n=n:=by unfold Zor;rw [if_pos hp]
  rw [e] at hd ⊢
  rw [DT hp,Bool.not_true,Zwn,if_pos hp,if_pos hp]
  have:=Z7s f n E V hd h.bk h.ok h.rowS.up h.told h.need h.needs (by omega) (by omega)
  simpa using this
 ·have e:Zor n=⟨⟨⟨n.DK.DI.ID,n.DK.DI.PH,Zar n.DK.DI.SD n.AK⟩,n.DK.TH,n.DK.Need⟩,n.Book,ansK n.KN n.AK,n.Told,[]⟩:=by unfold Zor;rw [if_neg hp]
  rw [DN hp,Bool.not_false,Zvn,if_neg hp,if_neg hp]
  rw [s_answer _ _ _ _ _ _ _ _ _ _ _ _ _ h.rowS h.rowK h.ask h.lenS h.lenK (by omega) (by omega),OB]
  rw [e] at hd ⊢
  have:=Z7s f ⟨⟨⟨n.DK.DI.ID,n.DK.DI.PH,Zar n.DK.DI.SD n.AK⟩,n.DK.TH,n.DK.Need⟩,n.Book,ansK n.KN n.AK,n.Told,[]⟩ (E++ansM n.DK.DI.ID n.AK) (V++ansV n.DK.DI.ID n.AK) hd h.bk h.ok hr.up h.told h.need h.needs (by rw [List.length_append,ansM,List.length_map];omega) (by rw [List.length_append,ansV,List.length_map];omega)
  dsimp only at this ⊢
  rw [List.append_assoc,List.append_assoc] at this
  exact this
end
end NX
end Go.Proofs.YtdjkbodnjhgbcaaGreat
/-
  Plain laws: what always holds of a node. No statement of the seat is proved here.
-/
namespace Go.Proofs.YtdjkbodnjhgbcaaGreat
namespace NX
open Go
structure SideOK (id:Int) (x:Side):Prop where
 lo:0≤x.Peer
 ne:x.Peer≠id
 e0:0≤x.Epoch
 e1:x.Epoch≤65535
 s0:0≤x.State
 s3:x.State≤3
 df:x.DY=true→x.Fork=true
theorem Z8s (id:Int):∀(S:List Side) (q:Int),Zlp id q S=true↔(S.Pairwise fun x y=>x.Peer<y.Peer)∧∀x∈S,Zkp id q x=true
 | [],q=>by simp [Zlp]
 | x::S,q=>by
   have hx:∀ {y:Side},Zkp id q x=true→Zkp id x.Peer y=true→Zkp id q y=true:=by
    intro y h1 h2
    simp only [Zkp,Bool.and_eq_true,decide_eq_true_eq] at h1 h2 ⊢
    exact ⟨by omega,h2.2⟩
   have hy:∀ {y:Side},x.Peer<y.Peer→Zkp id q y=true→Zkp id x.Peer y=true:=by
    intro y h1 h2
    simp only [Zkp,Bool.and_eq_true,decide_eq_true_eq] at h2 ⊢
    exact ⟨h1,h2.2⟩
   simp only [Zlp,Bool.and_eq_true,Z8s id S x.Peer,List.pairwise_cons,List.mem_cons,forall_eq_or_imp]
   constructor
   ·rintro ⟨h1,h2,h3⟩
    refine ⟨⟨fun y hy=>?_,h2⟩,h1,fun y hy=>hx h1 (h3 y hy)⟩
    have:=h3 y hy
    simp only [Zkp,Bool.and_eq_true,decide_eq_true_eq] at this
    exact this.1
   ·rintro ⟨⟨h1,h2⟩,h3,h4⟩
    exact ⟨h3,h2,fun y hy'=>hy (h1 y hy') (h4 y hy')⟩
theorem sideD_iff (id:Int) (x:Side):Zkp id (-1) x=true↔SideOK id x:=by
 simp only [Zkp,Bool.and_eq_true,decide_eq_true_eq,Bool.not_eq_true',decide_eq_false_iff_not,Bool.and_eq_false_iff,Bool.not_eq_false']
 constructor
 ·rintro ⟨h1,h2,h3,h4,h5,h6,h7⟩
  refine ⟨by omega,h2,h3,h4,h5,h6,fun h=>?_⟩
  rcases h7 with h7 | h7
  ·rw [h] at h7;simp at h7
  ·exact h7
 ·rintro ⟨h1,h2,h3,h4,h5,h6,h7⟩
  refine ⟨by omega,h2,h3,h4,h5,h6,?_⟩
  cases hd:x.DY with
  | false=>exact .inl rfl
  | true=>exact .inr (h7 hd)
structure DinOK (d:DI):Prop where
 id0:0≤d.ID
 p0:0≤d.PH
 p2:d.PH≤2
 len:d.SD.length<64
 up:d.SD.Pairwise fun x y=>x.Peer<y.Peer
 side:∀x∈d.SD,SideOK d.ID x
theorem okD_iff (d:DI):okD d=true↔DinOK d:=by
 simp only [okD,Bool.and_eq_true,decide_eq_true_eq,Z8s,sideD_iff]
 constructor
 ·rintro ⟨h1,h2,h3,h4,h5,h6⟩;exact ⟨h1,h2,h3,h4,h5,h6⟩
 ·rintro ⟨h1,h2,h3,h4,h5,h6⟩;exact ⟨h1,h2,h3,h4,h5,h6⟩
theorem okI_iff:∀(l:List Int) (q:Option Int),okI q l=true↔l.Pairwise (· < ·)∧∀y,q=some y→∀x∈l,y<x
 | [],q=>by simp [okI]
 | x::l,q=>by
   simp only [okI,Bool.and_eq_true,okI_iff l (some x),List.pairwise_cons,List.mem_cons,forall_eq_or_imp,Option.some.injEq]
   cases q with
   | none=>
     constructor
     ·rintro ⟨_,h1,h2⟩;exact ⟨⟨h2 x rfl,h1⟩,by simp⟩
     ·rintro ⟨⟨h2,h1⟩,_⟩;exact ⟨rfl,h1,fun y e=>by subst e;exact h2⟩
   | some y=>
     simp only [decide_eq_true_eq]
     constructor
     ·rintro ⟨h0,h1,h2⟩
      exact ⟨⟨h2 x rfl,h1⟩,fun z e=>by
       simp only [Option.some.injEq] at e;subst e
       exact ⟨h0,fun w hw=>Int.lt_trans h0 (h2 x rfl w hw)⟩⟩
     ·rintro ⟨⟨h2,h1⟩,h3⟩
      exact ⟨(h3 y rfl).1,h1,fun z e=>by subst e;exact h2⟩
theorem riseK_iff:∀(l:List KE) (q:Int),Zvq q l=true↔(l.Pairwise fun x y=>x.Peer<y.Peer)∧∀k∈l,q<k.Peer∧k.Peer<64∧1≤k.Epoch∧k.Epoch≤65535
 | [],q=>by simp [Zvq]
 | x::l,q=>by
   simp only [Zvq,Bool.and_eq_true,decide_eq_true_eq,riseK_iff l x.Peer,List.pairwise_cons,List.mem_cons,forall_eq_or_imp]
   constructor
   ·rintro ⟨⟨h1,h2,h3,h4⟩,h5,h6⟩
    exact ⟨⟨fun y hy=>(h6 y hy).1,h5⟩,⟨h1,h2,h3,h4⟩,fun y hy=>⟨Int.lt_trans h1 (h6 y hy).1,(h6 y hy).2⟩⟩
   ·rintro ⟨⟨h1,h2⟩,⟨h3,h4,h5,h6⟩,h7⟩
    exact ⟨⟨h3,h4,h5,h6⟩,h2,fun y hy=>⟨h1 y hy,(h7 y hy).2⟩⟩
structure DrOK (d:DK):Prop where
 din:DinOK d.DI
 t0:0≤d.TH
 t2:d.TH≤2
 up:d.Need.Pairwise (· < ·)
 nz:d.TH=0→d.Need=[]
 has:∀p∈d.Need,∃x∈d.DI.SD,x.Peer=p
theorem hasSide_iff (d:DI) (p:Int):Ziq d p=true↔∃x∈d.SD,x.Peer=p:=by
 unfold Ziq;rw [List.any_eq_true];simp
theorem Z9s (d:DK):okDr d=true↔DrOK d:=by
 unfold okDr
 simp only [Bool.and_eq_true,decide_eq_true_eq,okD_iff,okI_iff,List.all_eq_true,hasSide_iff,Bool.not_eq_true',Bool.and_eq_false_iff,decide_eq_false_iff_not]
 constructor
 ·rintro ⟨h1,h2,h3,h4,h5,h6⟩
  refine ⟨h1,h2,h3,h4.1,fun h=>?_,h6⟩
  rcases h5 with h5 | h5
  ·exact absurd h h5
  ·exact List.eq_nil_of_length_eq_zero (by omega)
 ·rintro ⟨h1,h2,h3,h4,h5,h6⟩
  refine ⟨h1,h2,h3,⟨h4,by simp⟩,?_,h6⟩
  by_cases h:d.TH=0
  ·right;rw [h5 h];simp
  ·left;exact h
structure OkN (n:Node):Prop where
 dr:DrOK n.DK
 bk:okBk n.Book=true
 may:∀k∈n.AK,(∀x∈n.DK.DI.SD,x.Peer≠k.Peer)∧0≤k.Peer∧k.Peer<n.DK.DI.ID∧Zsq n.KN k.Peer<k.Epoch∧k.Epoch≤65535
 dis:(n.AK.map (·.Peer)).Nodup
 id:n.DK.DI.ID<64
 kup:n.KN.Pairwise fun x y=>x.Peer<y.Peer
 kr:∀k∈n.KN,0≤k.Peer∧k.Peer<64∧1≤k.Epoch∧k.Epoch≤65535
 sd:∀x∈n.DK.DI.SD,x.Peer<64∧1≤x.Epoch∧Zsq n.KN x.Peer=x.Epoch∧(x.State=1∨x.State=3→n.DK.DI.ID≤x.Peer)
 told:n.Told.Pairwise (· < ·)
 tin:∀p∈n.Told,∃x∈n.DK.DI.SD,x.State=1∧x.Peer=p
 th:n.DK.TH=2↔Zyq n=true
 hq:n.DK.TH=0∨headQ n=true
 nl:∀x∈n.DK.DI.SD,x.Peer∈n.DK.Need→x.State≠3
 wt:∀s∈n.Book.Sess,s.State=0→∀p∈s.Need,∃x∈n.DK.DI.SD,x.State=0∧x.Peer=p
theorem mayB_iff (n:Node) (k:KE):mayB n k=true↔(∀x∈n.DK.DI.SD,x.Peer≠k.Peer)∧0≤k.Peer∧k.Peer<n.DK.DI.ID∧Zsq n.KN k.Peer<k.Epoch∧k.Epoch≤65535:=by
 unfold mayB
 simp only [Bool.and_eq_true,decide_eq_true_eq,Bool.not_eq_true',List.any_eq_false]
theorem sideN_iff (n:Node) (x:Side):sideN n x=true↔x.Peer<64∧1≤x.Epoch∧Zsq n.KN x.Peer=x.Epoch∧(x.State=1∨x.State=3→n.DK.DI.ID≤x.Peer):=by
 unfold sideN
 simp only [Bool.and_eq_true,decide_eq_true_eq,Bool.not_eq_true',Bool.and_eq_false_iff,Bool.or_eq_false_iff,decide_eq_false_iff_not]
 constructor
 ·rintro ⟨h1,h2,h3,h4⟩;exact ⟨h1,h2,h3,fun h=>by omega⟩
 ·rintro ⟨h1,h2,h3,h4⟩;exact ⟨h1,h2,h3,by omega⟩
theorem Zas (n:Node) (q:Side→Bool) (p:Int):p∈Zoq n q↔∃x∈n.DK.DI.SD,q x=true∧x.Peer=p:=by
 unfold Zoq
 simp only [List.mem_map,List.mem_filter]
 constructor
 ·rintro ⟨x,⟨h1,h2⟩,h3⟩;exact ⟨x,h1,h2,h3⟩
 ·rintro ⟨x,h1,h2,h3⟩;exact ⟨x,⟨h1,h2⟩,h3⟩
theorem waitN_iff (n:Node) (s:Sess):waitN n s=true↔(s.State=0→∀p∈s.Need,∃x∈n.DK.DI.SD,x.State=0∧x.Peer=p):=by
 unfold waitN
 simp only [Bool.not_eq_true',Bool.and_eq_false_iff,decide_eq_false_iff_not,Bool.not_eq_false',List.all_eq_true,decide_eq_true_eq,Zas,Zpq]
 constructor
 ·rintro (h | h)
  ·exact fun e=>absurd e h
  ·exact fun _=>h
 ·intro h
  by_cases e:s.State=0
  ·exact .inr (h e)
  ·exact .inl e
theorem Zbs (n:Node):okN n=true↔OkN n:=by
 unfold okN edgesN knownN Zzq Ztq
 simp only [Bool.and_eq_true,Z9s,List.all_eq_true,mayB_iff,decide_eq_true_eq,riseK_iff,sideN_iff,okI_iff,Zas,Zqq,Zrq,Bool.or_eq_true,beq_iff_eq,Bool.not_eq_true',List.any_eq_false,waitN_iff]
 constructor
 ·rintro ⟨h1,h2,⟨h3,h4,h5,h6,h7,h8,h9⟩,hc,hd,he,hf⟩
  exact ⟨h1,h2,h3,h4,h5,h6.1,fun k hk=>by have:=h6.2 k hk;omega,h7,h8.1,h9,by rw [←hc];simp,hd,fun x hx hn e=>he x.Peer hn ⟨x,hx,e,rfl⟩,hf⟩
 ·rintro ⟨h1,h2,h3,h4,h5,h6,h6',h7,h8,h9,hc,hd,he,hf⟩
  refine ⟨h1,h2,⟨h3,h4,h5,⟨h6,fun k hk=>by have:=h6' k hk;omega⟩,h7,⟨h8,by simp⟩,h9⟩,?_,hd,?_,hf⟩
  ·rw [Bool.eq_iff_iff];simpa using hc
  ·rintro p hp ⟨x,hx,e,rfl⟩;exact he x hx hp e
structure SessOK (top last:Int) (s:Sess):Prop where
 lo:last<s.ID
 hi:s.ID≤top
 nb:Z6p s.Need=true
 up:s.Need.Pairwise (· < ·)
 age:0≤s.Age
 st:s.State=1∨s.State=0∧s.Age=0
theorem sessL_iff (top:Int):∀(l:List Sess) (last:Int) (first:Bool),Z7p top last first l=true↔(l.Pairwise fun x y=>x.ID<y.ID)∧(∀s∈l,SessOK top last s)∧∀s∈(if first then l.tail else l),s.State=0
 | [],_,_=>by simp [Z7p]
 | x::l,last,first=>by
   have e:sessB last top first x=true↔SessOK top last x∧(first=false→x.State=0):=by
    unfold sessB
    simp only [Bool.and_eq_true,decide_eq_true_eq,Bool.or_eq_true]
    constructor
    ·rintro ⟨h1,h2,h3,h4,h5,h6⟩
     refine ⟨⟨h1,h2,h3,h4,h5,?_⟩,fun hf=>?_⟩
     ·rcases h6 with h | h
      ·exact .inl h.1
      ·exact .inr h
     ·rcases h6 with h | h
      ·rw [hf] at h;simp at h
      ·exact h.1
    ·rintro ⟨⟨h1,h2,h3,h4,h5,h6⟩,h7⟩
     refine ⟨h1,h2,h3,h4,h5,?_⟩
     rcases h6 with h | h
     ·cases first with
      | true=>exact .inl ⟨h,rfl⟩
      | false=>have:=h7 rfl;omega
     ·exact .inr h
   simp only [Z7p,Bool.and_eq_true,e,sessL_iff top l x.ID false,List.pairwise_cons,List.mem_cons,forall_eq_or_imp]
   constructor
   ·rintro ⟨⟨h1,h2⟩,h3,h4,h5⟩
    have h5:∀s∈l,s.State=0:=h5
    refine ⟨⟨fun y hy=>(h4 y hy).lo,h3⟩,⟨h1,fun y hy=>?_⟩,?_⟩
    ·have:=h4 y hy
     exact {this with lo:=Int.lt_trans h1.lo this.lo}
    ·cases first with
     | true=>exact h5
     | false=>
       intro s hs
       rcases List.mem_cons.1 hs with rfl | hs
       ·exact h2 rfl
       ·exact h5 s hs
   ·rintro ⟨⟨h1,h2⟩,⟨h3,h4⟩,h5⟩
    refine ⟨⟨h3,fun hf=>?_⟩,h2,fun y hy=> {h4 y hy with lo:=h1 y hy},?_⟩
    ·subst hf;exact h5 x (by simp)
    ·cases first with
     | true=>exact h5
     | false=>exact fun s hs=>h5 s (List.mem_cons_of_mem _ hs)
structure BkOK (b:Book):Prop where
 last:0≤b.Last
 len:b.Sess.length≤8
 up:b.Sess.Pairwise fun x y=>x.ID<y.ID
 ok:∀s∈b.Sess,SessOK b.Last 0 s
 tl:∀s∈b.Sess.tail,s.State=0
theorem Zcs (b:Book):okBk b=true↔BkOK b:=by
 unfold okBk
 simp only [Bool.and_eq_true,decide_eq_true_eq,sessL_iff]
 constructor
 ·rintro ⟨h1,h2,h3,h4,h5⟩;exact ⟨h1,h2,h3,h4,h5⟩
 ·rintro ⟨h1,h2,h3,h4,h5⟩;exact ⟨h1,h2,h3,h4,h5⟩
theorem Zds {l:List Int} (h:Z6p l=true):l.length≤64:=by
 unfold Z6p at h;rw [Bool.and_eq_true,decide_eq_true_eq] at h;exact h.1
theorem BkOK.few {b:Book} (h:BkOK b):Z8p b:=⟨by have:=h.len;omega,fun s hs=>by have:=Zds (h.ok s hs).nb;omega⟩
theorem up_len {l:List Int} (h:l.Pairwise (· < ·)) {n:Int} (hn:0≤n) (hr:∀x∈l,0≤x∧x<n):(l.length:Int)≤n:=by
 rcases pw_len l 0 n h hr with rfl | h
 ·simpa using hn
 ·omega
theorem up_len1 {l:List Int} (h:l.Pairwise (· < ·)) {n id:Int} (hi:0≤id∧id<n) (hr:∀x∈l,0≤x∧x<n∧x≠id):(l.length:Int)<n:=by
 have h1:(l.take (Z1r l (fun x=>x) id)++id::l.drop (Z1r l (fun x=>x) id)).Pairwise fun x y=>x<y:=ins_pw (key:=fun x:Int=>x) (p:=id) h rfl fun y hy=>(hr y hy).2.2
 have h2:=up_len h1 (n:=n) (by omega) fun x hx=>by
  rw [List.mem_append,List.mem_cons] at hx
  rcases hx with hx | rfl | hx
  ·have:=hr x (List.mem_of_mem_take hx);omega
  ·omega
  ·have:=hr x (List.mem_of_mem_drop hx);omega
 rw [List.length_append,List.length_cons] at h2
 have h3:l.length=(l.take (Z1r l (fun x=>x) id)).length+(l.drop (Z1r l (fun x=>x) id)).length:=by rw [←List.length_append,List.take_append_drop]
 omega
theorem OkN.peer0 {n:Node} (h:OkN n) {x:Side} (hx:x∈n.DK.DI.SD):0≤x.Peer∧x.Peer<64∧x.Peer≠n.DK.DI.ID:=⟨(h.dr.din.side x hx).lo,(h.sd x hx).1,(h.dr.din.side x hx).ne⟩
theorem OkN.needL {n:Node} (h:OkN n):n.DK.Need.length≤64:=by
 have:=up_len h.dr.up (n:=64) (by omega) fun p hp=>by
  obtain ⟨x,hx,rfl⟩:=h.dr.has p hp
  have:=h.peer0 hx;omega
 omega
theorem OkN.toldL {n:Node} (h:OkN n):n.Told.length≤64:=by
 have:=up_len h.told (n:=64) (by omega) fun p hp=>by
  obtain ⟨x,hx,_,rfl⟩:=h.tin p hp
  have:=h.peer0 hx;omega
 omega
theorem OkN.knownL {n:Node} (h:OkN n):n.KN.length≤64:=by
 have:=up_len (l:=n.KN.map (·.Peer)) (List.pairwise_map.2 h.kup) (n:=64) (by omega) fun p hp=>by
  obtain ⟨k,hk,rfl⟩:=List.mem_map.1 hp
  have:=h.kr k hk;omega
 rw [List.length_map] at this
 omega
theorem nodup_len {l:List Int} (h:l.Nodup) {n:Nat} (hr:∀x∈l,0≤x∧x<(n:Int)):l.length≤n:=by
 have hs:=Z2p l
 have h1:∀(a b:List Int),a.Nodup→(∀x∈a,x∈b)→a.length≤b.length:=by
  intro a
  induction a with
  | nil=>intro b _ _;simp
  | cons x a ih=>
    intro b ha hb
    rw [List.nodup_cons] at ha
    have h6:=hb x (by simp)
    have:=ih (b.erase x) ha.2 fun y hy=>(List.mem_erase_of_ne (fun e=>ha.1 (by rw [←e];exact hy))).2 (hb y (List.mem_cons_of_mem _ hy))
    rw [List.length_erase_of_mem h6] at this
    have:=List.length_pos_of_mem h6
    simp only [List.length_cons];omega
 have h2:=h1 l (Zxo l) h fun x hx=>(hs.2 x).2 hx
 have h3:=up_len hs.1 (n:=n) (by omega) fun x hx=>hr x ((hs.2 x).1 hx)
 omega
theorem OkN.askedL {n:Node} (h:OkN n):n.AK.length≤64:=by
 have:=nodup_len h.dis (n:=64) fun p hp=>by
  obtain ⟨k,hk,rfl⟩:=List.mem_map.1 hp
  have:=h.may k hk
  have:=h.id
  omega
 rw [List.length_map] at this
 exact this
theorem OkN.few {n:Node} (h:OkN n):FewN n:=by
 have h1:=h.needL
 have h2:=h.toldL
 have h3:=h.knownL
 have h4:=h.askedL
 have h5:=h.dr.din.len
 have h6:=(Zcs _).1 h.bk
 have h7:=h6.len
 exact ⟨by omega,by omega,by omega,fun s hs=>by have:=Zds (h6.ok s hs).nb;omega,by omega,by omega,by omega⟩
theorem OkN.rowS {n:Node} (h:OkN n):RowS n.DK.DI.SD:=⟨by have:=h.dr.din.len;omega,h.dr.din.up,fun x hx=>by have:=h.peer0 hx;omega⟩
theorem OkN.rowK {n:Node} (h:OkN n):RowK n.KN:=⟨by have:=h.knownL;omega,h.kup,fun k hk=>by have:=h.kr k hk;omega⟩
theorem epoch0 {K:List KE} (hu:K.Pairwise fun x y=>x.Peer<y.Peer) (h:∀k∈K,1≤k.Epoch∧k.Epoch≤65535) (p:Int):0≤Zsq K p∧Zsq K p≤65535:=by
 by_cases hx:∃k∈K,k.Peer=p
 ·obtain ⟨k,hk,rfl⟩:=hx
  rw [Z7r hu hk]
  have:=h k hk;omega
 ·rw [Z8r fun k hk e=>hx ⟨k,hk,e⟩];omega
theorem up_eq {S:List Side} (h:S.Pairwise fun x y=>x.Peer<y.Peer) {x y:Side} (hx:x∈S) (hy:y∈S) (e:x.Peer=y.Peer):x=y:=by
 induction S with
 | nil=>simp at hx
 | cons z S ih=>
   rw [List.pairwise_cons] at h
   rcases List.mem_cons.1 hx with hx1 | hx1<;>rcases List.mem_cons.1 hy with hy1 | hy1
   ·rw [hx1,hy1]
   ·have:=h.1 y hy1;rw [←hx1] at this;omega
   ·have:=h.1 x hx1;rw [←hy1] at this;omega
   ·exact ih h.2 hx1 hy1
def putN (n:Node) (x:Side) (A:List KE):Node:=⟨⟨⟨n.DK.DI.ID,n.DK.DI.PH,putS n.DK.DI.SD x⟩,n.DK.TH,n.DK.Need⟩,n.Book,Z2r n.KN x.Peer x.Epoch,n.Told,A⟩
theorem OkN.put {n:Node} (h:OkN n) {x:Side} {A:List KE} (hp:0≤x.Peer∧x.Peer<64∧x.Peer≠n.DK.DI.ID) (hn:∀y∈n.DK.DI.SD,y.Peer≠x.Peer) (he:1≤x.Epoch∧x.Epoch≤65535)
  (hs:x.State=0∨x.State=1∧n.DK.DI.ID≤x.Peer) (hd:x.DY=true→x.Fork=true) (hA:∀k∈A,k∈n.AK∧k.Peer≠x.Peer) (hc:(A.map (·.Peer)).Nodup):OkN (putN n x A):=by
 have h8:=h.id
 have h6:=h.dr.din
 have h9:(putS n.DK.DI.SD x).Pairwise fun x y=>x.Peer<y.Peer:=ins_pw h.rowS.up rfl hn
 refine ⟨⟨⟨h6.id0,h6.p0,h6.p2,?_,h9,fun y hy=>?_⟩,h.dr.t0,h.dr.t2,h.dr.up,h.dr.nz,fun p hp=>?_⟩,h.bk,fun k hk=>?_,hc,h8,knowK_pw h.kup _ _,fun k hk=>?_,fun y hy=>?_,h.told,fun p hp=>?_,h.th,h.hq,fun y hy hf=>?_,fun s hs' h0 p hp=>?_⟩
 ·have:=up_len1 (l:=(putS n.DK.DI.SD x).map (·.Peer)) (List.pairwise_map.2 h9) (n:=64) (id:=n.DK.DI.ID) ⟨h6.id0,h8⟩ fun p hp'=>by
   obtain ⟨y,hy,rfl⟩:=List.mem_map.1 hp'
   rcases Z4r.1 hy with rfl | hy
   ·exact hp
   ·exact h.peer0 hy
  rw [List.length_map] at this
  show (putS n.DK.DI.SD x).length<64
  omega
 ·rcases Z4r.1 hy with rfl | hy
  ·exact ⟨hp.1,hp.2.2,by omega,he.2,by omega,by omega,hd⟩
  ·exact h6.side y hy
 ·obtain ⟨y,hy,e⟩:=h.dr.has p hp
  exact ⟨y,Z4r.2 (.inr hy),e⟩
 ·obtain ⟨hk,hne⟩:=hA k hk
  have hm:=h.may k hk
  refine ⟨fun y hy=>?_,hm.2.1,hm.2.2.1,?_,hm.2.2.2.2⟩
  ·rcases Z4r.1 hy with rfl | hy
   ·exact fun e=>hne e.symm
   ·exact hm.1 y hy
  ·show Zsq (Z2r n.KN x.Peer x.Epoch) k.Peer<k.Epoch
   rw [Z9r h.kup,if_neg hne];exact hm.2.2.2.1
 ·rcases Z6r h.kup hk with rfl | ⟨hk,_⟩
  ·exact ⟨hp.1,hp.2.1,he⟩
  ·exact h.kr k hk
 ·show y.Peer<64∧1≤y.Epoch∧Zsq (Z2r n.KN x.Peer x.Epoch) y.Peer=y.Epoch∧(y.State=1∨y.State=3→n.DK.DI.ID≤y.Peer)
  rw [Z9r h.kup]
  rcases Z4r.1 hy with rfl | hy
  ·exact ⟨hp.2.1,he.1,if_pos rfl,fun _=>by omega⟩
  ·rw [if_neg (hn y hy)];exact h.sd y hy
 ·obtain ⟨y,hy,e⟩:=h.tin p hp
  exact ⟨y,Z4r.2 (.inr hy),e⟩
 ·rcases Z4r.1 hy with rfl | hy
  ·omega
  ·exact h.nl y hy hf
 ·obtain ⟨y,hy,e⟩:=h.wt s hs' h0 p hp
  exact ⟨y,Z4r.2 (.inr hy),e⟩
theorem OkN.ans1:∀(A:List KE) (n:Node),OkN n→n.AK=A→OkN ⟨⟨⟨n.DK.DI.ID,n.DK.DI.PH,Zar n.DK.DI.SD A⟩,n.DK.TH,n.DK.Need⟩,n.Book,ansK n.KN A,n.Told,[]⟩
 | [],n,h,e=>by
   obtain ⟨d,b,k,t,a⟩:=n
   dsimp only at e
   subst e
   exact h
 | k::A,n,h,e=>by
   have hm:=h.may k (by rw [e];simp)
   have hd:=h.dis
   rw [e,List.map_cons,List.nodup_cons] at hd
   have h6:=h.id
   have h0:=epoch0 h.kup (fun k hk=>(h.kr k hk).2.2) k.Peer
   have h1:OkN (putN n (newS k) A):=h.put (x:=newS k) ⟨hm.2.1,by show k.Peer<64;omega,by show k.Peer≠_;omega⟩ hm.1 ⟨by show 1≤k.Epoch;omega,hm.2.2.2.2⟩ (.inl rfl) (by simp [newS]) (fun q hq=>⟨by rw [e];simp [hq],fun eq=>hd.1 (List.mem_map.2 ⟨q,hq,eq⟩)⟩) hd.2
   exact OkN.ans1 A (putN n (newS k) A) h1 rfl
theorem OkN.ans {n:Node} (h:OkN n):OkN (Zor n):=by
 unfold Zor
 split
 ·exact h
 ·exact OkN.ans1 n.AK n h rfl
theorem head_or {n:Node} (h:BkOK n.Book) {s:Sess} {l:List Sess} (hb:n.Book.Sess=s::l):s.State=1∨s.State=0:=by
 have:=(h.ok s (by rw [hb];simp)).st;omega
theorem waits_some {n:Node} {s:Sess} (h:Zpr n=some s):∃l,n.Book.Sess=s::l∧s.State=0:=by
 unfold Zpr at h
 split at h
 ·simp at h
 ·rename_i s' l hb
  split at h
  ·simp at h;subst h;exact ⟨l,hb,by assumption⟩
  ·simp at h
theorem OkN.thi {n:Node} (h:OkN n):OkN (Zrr n):=by
 unfold Zrr Zqr
 cases hw:Zpr n with
 | none=>exact h
 | some s=>
   dsimp only
   split
   ·rename_i h0
    obtain ⟨l,hb,hs⟩:=waits_some hw
    have h6:=(Zcs _).1 h.bk
    have hm:s∈n.Book.Sess:=by rw [hb];simp
    have hok:=h6.ok s hm
    have hl:=h.wt s hm hs
    refine {h with dr:=⟨h.dr.din,by show (0:Int)≤1;omega,by show (1:Int)≤2;omega,hok.up,fun e=>by simp at e,fun p hp=>?_⟩,th:=?_,hq:=.inr ?_,nl:=fun x hx hn e3=>?_}
    ·obtain ⟨x,hx,_,e⟩:=hl p hp;exact ⟨x,hx,e⟩
    ·have:Zyq n=false:=by unfold Zyq;rw [hb];simp [hs]
     show (1:Int)=2↔Zyq n=true
     rw [this];simp
    ·show (match n.Book.Sess with | []=>false | s'::_=>decide (s'.Need=s.Need))=true
     rw [hb];simp
    ·obtain ⟨y,hy,h8,e⟩:=hl x.Peer hn
     have:=up_eq h.rowS.up hx hy e.symm
     subst this;omega
   ·exact h
theorem hunP_ok {n:Node} (h:OkN n):0≤hunP n∧hunP n≤2:=by
 have h0:=h.dr.din.p0
 have h2:=h.dr.din.p2
 unfold hunP;split<;>omega
theorem OkN.hun {n:Node} (h:OkN n):OkN (Zsr n):=by
 have hp:=hunP_ok h
 exact {h with dr:= {h.dr with din:= {h.dr.din with p0:=hp.1,p2:=hp.2}}}
theorem OkN.pre {n:Node} (h:OkN n):OkN (Zyr n):=h.ans.thi.hun
theorem OkN.go {n:Node} (h:OkN n):GoN n:=by
 have h1:=h.dr.din.len
 have h2:=h.askedL
 have h3:=h.knownL
 have h4:=(Zcs _).1 h.bk
 have h5:=h.toldL
 have h6:=h.needL
 have h8:=h.id
 exact ⟨h.rowS,h.rowK,⟨fun k hk=>by have:=h.may k hk;omega,fun k hk=>(h.may k hk).1,h.dis⟩,by omega,by omega,(Z9s _).2 h.pre.dr,h4.few,h.bk,by omega,by omega,fun s hs=>by have:=Zds (h4.ok s hs).nb;omega⟩
def Zes (x:Side):Int×Int×Int:=(x.Peer,x.Epoch,x.State)
def stepS (d:DK) (x:Side):Side:=Z1q (Z0q d x) d.TH (Zxp (Z5q d) x)
theorem Zfs (d:DK):(Z8q d).DI.SD=d.DI.SD.map (stepS d):=by
 show Z6q d=_
 unfold Z6q
 rw [Zyp,List.map_map]
 refine List.map_congr_left fun x _=>?_
 show Z1q (Z0q d (Zxp (Z5q d) x)) d.TH _=Z1q (Z0q d x) d.TH _
 rw [show Z0q d (Zxp (Z5q d) x)=Z0q d x by unfold Z0q;rw [(Zzp (Z5q d) x).1]]
theorem Zgs (d:DK) (x:Side):Zes (stepS d x)=Zes x:=by
 obtain ⟨p1,p2,p3,_⟩:=Z3q (Z0q d x) d.TH (Zxp (Z5q d) x)
 obtain ⟨q1,q2,q3,_⟩:=Zzp (Z5q d) x
 unfold Zes stepS
 rw [p1,p2,p3,q1,q2,q3]
theorem onceT_or (d:DK):Z7q d=d.TH∨d.TH=1∧Z7q d=2∧∀x∈(Z8q d).DI.SD,x.Peer∈d.Need→x.BO=true:=by
 unfold Z7q
 cases hh:decide (d.TH=1)&&(Z6q d).all (fun x=>!Z0q d x||x.BO) with
 | false=>left;rfl
 | true=>
   right
   rw [Bool.and_eq_true,decide_eq_true_eq,List.all_eq_true] at hh
   refine ⟨hh.1,rfl,fun x hx hn=>?_⟩
   have:=hh.2 x hx
   unfold Z0q at this
   simpa [hn] using this
structure FireR (a b:DK):Prop where
 id:b.DI.ID=a.DI.ID
 need:b.Need=a.Need
 core:b.DI.SD.map Zes=a.DI.SD.map Zes
 th:b.TH=a.TH∨a.TH=1∧b.TH=2
theorem FireR.refl (a:DK):FireR a a:=⟨rfl,rfl,rfl,.inl rfl⟩
theorem FireR.once {a b:DK} (h:FireR a b):FireR a (Z8q b):=by
 refine ⟨h.id,h.need,?_,?_⟩
 ·rw [Zfs,List.map_map,←h.core]
  exact List.map_congr_left fun x _=>Zgs b x
 ·show Z7q b=a.TH∨a.TH=1∧Z7q b=2
  have:=h.th
  rcases onceT_or b with e | ⟨e1,e2,_⟩
  ·rw [e];exact this
  ·omega
theorem Zhs {P:DK→Prop} (hs:∀d,P d→P (Z8q d)):∀(n:Nat) (d:DK) (out:List Mail),P d→P (Zeq n d out).1
 | 0,_,_,h=>h
 | n+1,d,out,h=>by
   unfold Zeq
   split
   ·exact h
   ·exact Zhs hs n _ _ (hs d h)
theorem Zis (d:DK):FireR d (Zfq d).1:=Zhs (P:=FireR d) (fun _ h=>h.once) 300 d [] (FireR.refl d)
theorem Zjs {S S':List Side} (h:S'.map Zes=S.map Zes) {x:Side} (hx:x∈S'):∃y∈S,y.Peer=x.Peer∧y.Epoch=x.Epoch∧y.State=x.State:=by
 have:Zes x∈S.map Zes:=by rw [←h];exact List.mem_map_of_mem hx
 obtain ⟨y,hy,e⟩:=List.mem_map.1 this
 unfold Zes at e
 simp only [Prod.mk.injEq] at e
 exact ⟨y,hy,e⟩
theorem core_peers {S S':List Side} (h:S'.map Zes=S.map Zes):S'.map (·.Peer)=S.map (·.Peer):=by
 have:=congrArg (List.map fun c:Int×Int×Int=>c.1) h
 rw [List.map_map,List.map_map] at this
 exact this
theorem fireN_fix:∀(n:Nat) (d:DK) (out:List Mail),okD d.DI=true→mu d<n→Z8q (Zeq n d out).1=(Zeq n d out).1
 | 0,_,_,_,h=>by omega
 | n+1,d,out,hk,h=>by
   have hp:=Zhq hk
   unfold Zeq
   by_cases hq:Z8q d=d
   ·rw [if_pos hq];exact hq
   ·rw [if_neg hq]
    rcases once_mu hp.1 hp.2 with h1 | h1
    ·exact absurd h1.1 hq
    ·exact fireN_fix n (Z8q d) _ (once_ok hk) (by omega)
theorem fireDr_fix {d:DK} (h:okD d.DI=true):Z8q (Zfq d).1=(Zfq d).1:=fireN_fix 300 d [] h (by have:=mu_le h;omega)
theorem fireDr_calm {d:DK} (h:Z8q d=d):Zfq d=(d,[]):=by
 unfold Zfq Zeq;rw [if_pos h]
theorem DrOK.once {d:DK} (h:DrOK d):DrOK (Z8q d):=by
 have hk:=(okD_iff _).1 (once_ok ((okD_iff _).2 h.din))
 have hr:=(FireR.refl d).once
 have ht:=hr.th
 have h0:=h.t0
 have h2:=h.t2
 refine ⟨hk,by omega,by omega,h.up,fun e=>h.nz (by omega),fun p hp=>?_⟩
 obtain ⟨x,hx,e⟩:=h.has p hp
 obtain ⟨y,hy,e1,_⟩:=Zjs hr.core.symm hx
 exact ⟨y,hy,by omega⟩
theorem DrOK.fire {d:DK} (h:DrOK d):DrOK (Zfq d).1:=Zhs (P:=DrOK) (fun _ h=>h.once) 300 d [] h
def busy (d:DK):Prop:=d.DI.PH≠0∧∃x∈d.DI.SD,x.State=1
theorem busy_once {d:DK} (h:busy d):busy (Z8q d):=by
 obtain ⟨h0,x,hx,h1⟩:=h
 refine ⟨?_,?_⟩
 ·show (Zup (Z5q d)).PH≠0
  have hp:Z4q d≠0:=by
   unfold Z4q
   have:d.DI.SD.any (fun x=>decide (x.State=1))=true:=List.any_eq_true.2 ⟨x,hx,by simpa using h1⟩
   rw [this,DN h0]
   simp [h0]
  rcases Zcq (Z5q d) with ⟨e,_⟩ | ⟨_,e⟩
  ·rw [e];exact hp
  ·rw [e];omega
 ·obtain ⟨y,hy,_,_,e⟩:=Zjs ((FireR.refl d).once).core.symm hx
  exact ⟨y,hy,by omega⟩
theorem busy_fire {d:DK} (h:busy d):busy (Zfq d).1:=Zhs (P:=busy) (fun _ h=>busy_once h) 300 d [] h
def eats (d:DK):Prop:=d.DI.PH=2∧∃x∈d.DI.SD,x.State=1
theorem eats_once {d:DK} (h:eats d):eats (Z8q d):=by
 obtain ⟨h0,x,hx,h1⟩:=h
 refine ⟨?_,?_⟩
 ·show (Zup (Z5q d)).PH=2
  have hp:Z4q d=2:=by
   unfold Z4q
   have:d.DI.SD.any (fun x=>decide (x.State=1))=true:=List.any_eq_true.2 ⟨x,hx,by simpa using h1⟩
   rw [this,h0]
   simp
  rcases Zcq (Z5q d) with ⟨e,_⟩ | ⟨_,e⟩
  ·rw [e];exact hp
  ·exact e
 ·obtain ⟨y,hy,_,_,e⟩:=Zjs ((FireR.refl d).once).core.symm hx
  exact ⟨y,hy,by omega⟩
theorem eats_fire {d:DK} (h:eats d):eats (Zfq d).1:=Zhs (P:=eats) (fun _ h=>eats_once h) 300 d [] h
def Zks (id:Int) (S:List Side) (m:Mail):Prop:=m.From=id∧(∃x∈S,x.Peer=m.To)∧m.Msg.Num=0
theorem botM_from {id:Int} {nd:Bool} {th:Int} {x:Side} {m:Mail} (h:m∈Z2q id nd th x):m.From=id∧m.To=x.Peer∧m.Msg.Num=0:=by
 unfold Z2q at h
 rw [List.mem_append] at h
 rcases h with h | h
 ·split at h
  ·simp at h;subst h;exact ⟨rfl,rfl,rfl⟩
  ·simp at h
 ·split at h
  ·simp at h;subst h;exact ⟨rfl,rfl,rfl⟩
  ·simp at h
theorem onceM_ok {d:DK} {m:Mail} (h:m∈Z9q d):Zks d.DI.ID d.DI.SD m:=by
 unfold Z9q at h
 rw [List.mem_append] at h
 rcases h with h | h
 ·unfold Zvp at h
  obtain ⟨x,hx,hm⟩:=List.mem_flatMap.1 h
  obtain ⟨h1,h2,_,_,h3⟩:=fireM_from hm
  exact ⟨h1,⟨x,hx,h2.symm⟩,h3⟩
 ·obtain ⟨x,hx,hm⟩:=List.mem_flatMap.1 h
  obtain ⟨h1,h2,h3⟩:=botM_from hm
  rw [Zyp] at hx
  obtain ⟨y,hy,rfl⟩:=List.mem_map.1 hx
  exact ⟨h1,⟨y,hy,by rw [h2,(Zzp (Z5q d) y).1]⟩,h3⟩
theorem Zls {id:Int} {S:List Side}:∀(n:Nat) (d:DK) (out:List Mail),d.DI.ID=id→d.DI.SD.map Zes=S.map Zes→(∀m∈out,Zks id S m)→∀m∈(Zeq n d out).2,Zks id S m
 | 0,_,_,_,_,h=>h
 | n+1,d,out,h1,h2,h=>by
   unfold Zeq
   split
   ·exact h
   ·refine Zls n (Z8q d) _ h1 ?_ fun m hm=>?_
    ·rw [Zfs,List.map_map,←h2]
     exact List.map_congr_left fun x _=>Zgs d x
    ·rcases List.mem_append.1 hm with hm | hm
     ·exact h m hm
     ·obtain ⟨q1,⟨x,hx,q2⟩,q3⟩:=onceM_ok hm
      obtain ⟨y,hy,e,_⟩:=Zjs h2 hx
      exact ⟨by omega,⟨y,hy,by omega⟩,q3⟩
theorem fireDr_mail {d:DK}:∀m∈(Zfq d).2,Zks d.DI.ID d.DI.SD m:=Zls 300 d [] rfl rfl (by simp)
theorem Zms (n:Node):graB n=n.Book∧graV n=[]∨∃s l,n.Book.Sess=s::l∧s.State=0∧n.DK.TH=2∧graB n=⟨n.Book.Last,⟨s.ID,s.Need,1,s.Age⟩::l⟩∧graV n=[⟨1,n.DK.DI.ID,s.ID,0,[]⟩]:=by
 unfold graB graV Zpr
 cases hb:n.Book.Sess with
 | nil=>left;exact ⟨rfl,rfl⟩
 | cons s l=>
   dsimp only
   by_cases h0:s.State=0
   ·rw [if_pos h0,if_pos h0]
    by_cases h2:n.DK.TH=2
    ·right;rw [if_pos h2];dsimp only;rw [if_pos h2];exact ⟨s,l,rfl,h0,h2,rfl,rfl⟩
    ·left;rw [if_neg h2];dsimp only;rw [if_neg h2];exact ⟨rfl,rfl⟩
   ·left;rw [if_neg h0,if_neg h0];exact ⟨rfl,rfl⟩
theorem BkOK.grant {b:Book} (h:BkOK b) {s:Sess} {l:List Sess} (e:b.Sess=s::l):BkOK ⟨b.Last,⟨s.ID,s.Need,1,s.Age⟩::l⟩:=by
 have h1:=h.up
 have h2:=h.len
 have h3:=h.tl
 rw [e] at h1 h2 h3
 have hs:=h.ok s (by rw [e];simp)
 refine ⟨h.last,h2,?_,fun t ht=>?_,h3⟩
 ·rw [List.pairwise_cons] at h1 ⊢;exact h1
 ·rcases List.mem_cons.1 ht with rfl | ht
  ·exact {hs with st:=.inl rfl}
  ·exact h.ok t (by rw [e];exact List.mem_cons_of_mem _ ht)
theorem Zns (n:Node):headQ n=true↔∃s l,n.Book.Sess=s::l∧s.Need=n.DK.Need:=by
 unfold headQ
 split
 ·rename_i h;simp [h]
 ·rename_i s l h
  rw [decide_eq_true_eq]
  constructor
  ·exact fun e=>⟨s,l,h,e⟩
  ·rintro ⟨s',l',h',e⟩
   rw [h] at h';simp only [List.cons.injEq] at h'
   rw [h'.1];exact e
theorem Zos (n:Node):Zyq n=true↔∃s l,n.Book.Sess=s::l∧s.State=1:=by
 unfold Zyq
 split
 ·rename_i h;simp [h]
 ·rename_i s l h
  rw [decide_eq_true_eq]
  constructor
  ·exact fun e=>⟨s,l,h,e⟩
  ·rintro ⟨s',l',h',e⟩
   rw [h] at h';simp only [List.cons.injEq] at h'
   rw [h'.1];exact e
theorem OkN.thirsty {n:Node} (h:OkN n) (h1:n.DK.TH=1):∃s l,n.Book.Sess=s::l∧s.State=0∧s.Need=n.DK.Need:=by
 have hq:=h.hq
 have h6:=(Zcs _).1 h.bk
 obtain ⟨s,l,hb,hn⟩:=(Zns n).1 (by rcases hq with hq | hq;omega;exact hq)
 refine ⟨s,l,hb,?_,hn⟩
 rcases head_or h6 hb with e | e
 ·have:=h.th.2 ((Zos n).2 ⟨s,l,hb,e⟩);omega
 ·exact e
theorem OkN.drinks {n:Node} (h:OkN n) (h1:n.DK.TH=2):∃s l,n.Book.Sess=s::l∧s.State=1∧s.Need=n.DK.Need:=by
 have hq:=h.hq
 obtain ⟨s,l,hb,hn⟩:=(Zns n).1 (by rcases hq with hq | hq;omega;exact hq)
 obtain ⟨s',l',hb',hs⟩:=(Zos n).1 (h.th.1 h1)
 rw [hb] at hb';simp only [List.cons.injEq] at hb'
 exact ⟨s,l,hb,by rw [hb'.1];exact hs,hn⟩
theorem OkN.nowait {n:Node} (h:OkN n) (h1:n.DK.TH=2):Zpr n=none:=by
 obtain ⟨s,l,hb,hs,_⟩:=h.drinks h1
 unfold Zpr;rw [hb];dsimp only;rw [if_neg (by omega)]
theorem OkN.firgra {m:Node} (h:OkN m):OkN (Zur (Ztr m)):=by
 have hR:=Zis m.DK
 have h9:=(Zcs _).1 h.bk
 have hc:=h.dr.fire
 have h8:(Zur (Ztr m)).DK.DI.ID=m.DK.DI.ID:=hR.id
 have side:∀ {x:Side},x∈(Zur (Ztr m)).DK.DI.SD→∃y∈m.DK.DI.SD,y.Peer=x.Peer∧y.Epoch=x.Epoch∧y.State=x.State:=fun hx=>Zjs hR.core hx
 have edis:∀ {x:Side},x∈m.DK.DI.SD→∃y∈(Zur (Ztr m)).DK.DI.SD,y.Peer=x.Peer∧y.Epoch=x.Epoch∧y.State=x.State:=fun hx=>Zjs hR.core.symm hx
 have hg:=Zms (Ztr m)
 have hb':(Zur (Ztr m)).Book=graB (Ztr m):=rfl
 have ht':(Zur (Ztr m)).DK.TH=(Zfq m.DK).1.TH:=rfl
 have hd:=hR.th
 refine ⟨hc,?_,fun k hk=>?_,h.dis,by rw [h8];exact h.id,h.kup,h.kr,fun x hx=>?_,h.told,fun p hp=>?_,?_,?_,fun x hx hn=>?_,fun s hs h0 p hp=>?_⟩
 ·rw [hb',Zcs]
  rcases hg with ⟨e,_⟩ | ⟨s,l,e1,_,_,e2,_⟩
  ·rw [e];exact h9
  ·rw [e2];exact h9.grant e1
 ·have hm:=h.may k hk
  rw [h8]
  exact ⟨fun x hx=>by obtain ⟨y,hy,e,_⟩:=side hx;rw [←e];exact hm.1 y hy,hm.2⟩
 ·obtain ⟨y,hy,e1,e2,e3⟩:=side hx
  have:=h.sd y hy
  rw [h8,←e1,←e2,←e3];exact this
 ·obtain ⟨x,hx,h1,e⟩:=h.tin p hp
  obtain ⟨y,hy,e1,_,e3⟩:=edis hx
  exact ⟨y,hy,by omega,by omega⟩
 ·rw [Zos,hb',ht']
  constructor
  ·intro h2
   rcases hg with ⟨e,_⟩ | ⟨s,l,e1,_,_,e2,_⟩
   ·rw [e]
    rcases hd with q | ⟨q1,_⟩
    ·exact (Zos m).1 (h.th.1 (by omega))
    ·exfalso
     obtain ⟨s,l,hb,hs,_⟩:=h.thirsty q1
     have:graB (Ztr m)=⟨m.Book.Last,⟨s.ID,s.Need,1,s.Age⟩::l⟩:=by
      unfold graB
      rw [show (Ztr m).Book.Sess=s::l from hb]
      dsimp only
      rw [if_pos hs,if_pos (show (Ztr m).DK.TH=2 from h2)];rfl
     rw [this] at e
     have e:=congrArg Book.Sess e
     rw [show (Ztr m).Book.Sess=s::l from hb] at e
     simp only [List.cons.injEq] at e
     have:=congrArg Sess.State e.1
     simp only at this;omega
   ·rw [e2];exact ⟨_,l,rfl,rfl⟩
  ·rintro ⟨s',l',e',hs'⟩
   rcases hg with ⟨e,_⟩ | ⟨s,l,e1,_,e3,_,_⟩
   ·rw [e] at e'
    have:=h.th.2 ((Zos m).2 ⟨s',l',e',hs'⟩)
    omega
   ·exact e3
 ·rw [ht']
  rcases h.hq with q | q
  ·left;omega
  ·right
   obtain ⟨s,l,hb,hn⟩:=(Zns m).1 q
   rw [Zns,hb']
   have h6:(Zur (Ztr m)).DK.Need=m.DK.Need:=hR.need
   rw [h6]
   rcases hg with ⟨e,_⟩ | ⟨s',l',e1,_,_,e2,_⟩
   ·rw [e];exact ⟨s,l,hb,hn⟩
   ·rw [e2]
    have e1:m.Book.Sess=s'::l':=e1
    rw [hb] at e1;simp only [List.cons.injEq] at e1
    exact ⟨_,l',rfl,by rw [←hn,e1.1]⟩
 ·have h6:(Zur (Ztr m)).DK.Need=m.DK.Need:=hR.need
  rw [h6] at hn
  obtain ⟨y,hy,e1,_,e3⟩:=side hx
  rw [←e3];rw [←e1] at hn
  exact h.nl y hy hn
 ·rw [hb'] at hs
  have hs':s∈m.Book.Sess:=by
   rcases hg with ⟨e,_⟩ | ⟨s',l',e1,_,_,e2,_⟩
   ·rw [e] at hs;exact hs
   ·rw [e2] at hs
    rcases List.mem_cons.1 hs with rfl | hs
    ·exact absurd h0 (by show ¬(1:Int)=0;omega)
    ·have e1:m.Book.Sess=s'::l':=e1
     rw [e1];exact List.mem_cons_of_mem _ hs
  obtain ⟨x,hx,e0,e⟩:=h.wt s hs' h0 p hp
  obtain ⟨y,hy,e1,_,e3⟩:=edis hx
  exact ⟨y,hy,by omega,by omega⟩
theorem Zps (id:Int):∀(S:List Side) (T:List Int) (E:List Mail) (p:Int),p∈(Zcr id S T E).1↔p∈T∨∃x∈S,x.State=1∧x.Peer=p
 | [],T,E,p=>by simp [Zcr]
 | x::S,T,E,p=>by
   have hs:=(Z2p (T++[x.Peer])).2
   unfold Zcr
   cases hu:Zbr T x with
   | true=>
     rw [if_pos rfl,Zps id S]
     unfold Zbr Zqq at hu
     rw [Bool.and_eq_true,decide_eq_true_eq] at hu
     rw [hs,List.mem_append,List.mem_singleton]
     constructor
     ·rintro ((h | h) | ⟨y,hy,h⟩)
      ·exact .inl h
      ·exact .inr ⟨x,by simp,hu.1,h.symm⟩
      ·exact .inr ⟨y,List.mem_cons_of_mem _ hy,h⟩
     ·rintro (h | ⟨y,hy,h⟩)
      ·exact .inl (.inl h)
      ·rcases List.mem_cons.1 hy with rfl | hy
       ·exact .inl (.inr h.2.symm)
       ·exact .inr ⟨y,hy,h⟩
   | false=>
     rw [if_neg (by simp),Zps id S]
     unfold Zbr Zqq at hu
     rw [Bool.and_eq_false_iff,decide_eq_false_iff_not,Bool.not_eq_false',decide_eq_true_eq] at hu
     constructor
     ·rintro (h | ⟨y,hy,h⟩)
      ·exact .inl h
      ·exact .inr ⟨y,List.mem_cons_of_mem _ hy,h⟩
     ·rintro (h | ⟨y,hy,h⟩)
      ·exact .inl h
      ·rcases List.mem_cons.1 hy with rfl | hy
       ·rcases hu with hu | hu
        ·exact absurd h.1 hu
        ·rw [h.2] at hu;exact .inl hu
       ·exact .inr ⟨y,hy,h⟩
theorem tellR_up (id:Int):∀(S:List Side) (T:List Int) (E:List Mail),T.Pairwise (· < ·)→(Zcr id S T E).1.Pairwise (· < ·)
 | [],T,E,h=>h
 | x::S,T,E,h=>by
   unfold Zcr
   split
   ·exact tellR_up id S _ _ (Z2p _).1
   ·exact tellR_up id S _ _ h
theorem Zqs (id:Int) (S0:List Side):∀(S:List Side) (T:List Int) (E:List Mail),(∀x∈S,x∈S0)→(∀m∈E,Zks id S0 m)→∀m∈(Zcr id S T E).2,Zks id S0 m
 | [],T,E,_,h=>h
 | x::S,T,E,hS,h=>by
   unfold Zcr
   split
   ·refine Zqs id S0 S _ _ (fun y hy=>hS y (List.mem_cons_of_mem _ hy)) fun m hm=>?_
    rcases List.mem_append.1 hm with hm | hm
    ·exact h m hm
    ·simp at hm;subst hm;exact ⟨rfl,⟨x,hS x (by simp),rfl⟩,rfl⟩
   ·exact Zqs id S0 S _ _ (fun y hy=>hS y (List.mem_cons_of_mem _ hy)) h
theorem Zrs (id:Int):∀(S:List Side) (T:List Int) (E:List Mail),(∀x∈S,Zbr T x=false)→Zcr id S T E=(T,E)
 | [],T,E,_=>rfl
 | x::S,T,E,h=>by
   unfold Zcr
   rw [h x (by simp),if_neg (by simp)]
   exact Zrs id S T E fun y hy=>h y (List.mem_cons_of_mem _ hy)
theorem Zss (n:Node) (p:Int):p∈(Zvr n).1↔p∈n.Told∨n.DK.DI.PH=2∧∃x∈n.DK.DI.SD,x.State=1∧x.Peer=p:=by
 unfold Zvr
 split
 ·rename_i h;rw [Zps];simp [h]
 ·rename_i h;simp [h]
theorem OkN.tel {m:Node} (h:OkN m):OkN (Zwr m):=by
 refine {h with told:=?_,tin:=fun p hp=>?_}
 ·show (Zvr m).1.Pairwise _
  unfold Zvr
  split
  ·exact tellR_up _ _ _ _ h.told
  ·exact h.told
 ·rcases (Zss m p).1 hp with hp | ⟨_,hp⟩
  ·exact h.tin p hp
  ·exact hp
theorem Zts {id th:Int} {N:List Int} {S:List Side} {x:Side} (h:x∈Zhr id th N S):∃y∈S,(x=y∧Zer th N y=false)∨(Zer th N y=true∧id<y.Peer∧x={y with State:=3}):=by
 obtain ⟨y,hy,e⟩:=List.mem_filterMap.1 h
 refine ⟨y,hy,?_⟩
 unfold Zfr at e
 cases hg:Zer th N y with
 | false=>rw [hg,if_neg (by simp)] at e;simp at e;exact .inl ⟨e.symm,rfl⟩
 | true=>
   rw [hg,if_pos rfl] at e
   split at e
   ·simp at e;exact .inr ⟨rfl,by assumption,e.symm⟩
   ·simp at e
theorem Zus {id th:Int} {N:List Int} {S:List Side} {y:Side} (h:y∈S) (hg:Zer th N y=false):y∈Zhr id th N S:=
 List.mem_filterMap.2 ⟨y,h,by unfold Zfr;rw [hg,if_neg (by simp)]⟩
theorem Zvs {th:Int} {N:List Int} {x:Side} (h:Zer th N x=true):x.State=2:=by
 unfold Zer at h;rw [Bool.and_eq_true,decide_eq_true_eq] at h;exact h.1
theorem Zws {th:Int} {N:List Int} {x:Side} (h:x.State≠2):Zer th N x=false:=by
 unfold Zer;rw [DN h];rfl
theorem OkN.needed {m:Node} (h:OkN m) {x:Side} (hx:x∈m.DK.DI.SD) (hn:x.Peer∈m.DK.Need):Zer m.DK.TH m.DK.Need x=false:=by
 cases hg:Zer m.DK.TH m.DK.Need x with
 | false=>rfl
 | true=>
   exfalso
   have h2:=Zvs hg
   unfold Zer at hg
   rw [DT h2,DT hn] at hg
   simp at hg
   have h0:=h.dr.t0
   have ht:=h.dr.t2
   have hz:m.DK.TH≠0:=fun e=>by rw [h.dr.nz e] at hn;simp at hn
   obtain ⟨s,l,hb,hs,e⟩:=h.thirsty (by omega)
   obtain ⟨y,hy,h6,ey⟩:=h.wt s (by rw [hb];simp) hs x.Peer (by rw [e];exact hn)
   have:=up_eq h.rowS.up hx hy ey.symm
   subst this;omega
theorem OkN.lea {m:Node} (h:OkN m):OkN (leaN m):=by
 have h8:∀ {x:Side},x∈(leaN m).DK.DI.SD→∃y∈m.DK.DI.SD,(x=y∧Zer m.DK.TH m.DK.Need y=false)∨(Zer m.DK.TH m.DK.Need y=true∧m.DK.DI.ID<y.Peer∧x={y with State:=3}):=fun hx=>Zts hx
 have hc:∀ {x:Side},x∈(leaN m).DK.DI.SD→∃y∈m.DK.DI.SD,x.Peer=y.Peer:=fun hx=>by
  obtain ⟨y,hy,(⟨rfl,_⟩ | ⟨_,_,rfl⟩)⟩:=h8 hx
  ·exact ⟨_,hy,rfl⟩
  ·exact ⟨y,hy,rfl⟩
 have h9:∀ {y:Side},y∈m.DK.DI.SD→Zer m.DK.TH m.DK.Need y=false→y∈(leaN m).DK.DI.SD:=fun hy hg=>Zus hy hg
 have h6:=h.dr.din
 refine ⟨⟨⟨h6.id0,h6.p0,h6.p2,?_,?_,fun x hx=>?_⟩,h.dr.t0,h.dr.t2,h.dr.up,h.dr.nz,fun p hp=>?_⟩,h.bk,fun k hk=>⟨fun x hx=>?_,(h.may k hk).2⟩,h.dis,h.id,h.kup,h.kr,fun x hx=>?_,h.told,fun p hp=>?_,h.th,h.hq,fun x hx hn=>?_,fun s hs h0 p hp=>?_⟩
 ·have:=leavS_len m.DK.DI.ID m.DK.TH m.DK.Need m.DK.DI.SD
  have:=h6.len
  show (Zhr _ _ _ _).length<64
  omega
 ·show (Zhr _ _ _ _).Pairwise _
  unfold Zhr
  rw [List.pairwise_filterMap]
  refine h6.up.imp fun {a b} hd y hy z hz=>?_
  have e:∀ {a y:Side},Zfr m.DK.DI.ID m.DK.TH m.DK.Need a=some y→y.Peer=a.Peer:=by
   intro a y hy
   unfold Zfr at hy
   split at hy
   ·split at hy
    ·simp at hy;subst hy;rfl
    ·simp at hy
   ·simp at hy;subst hy;rfl
  rw [e hy,e hz];exact hd
 ·obtain ⟨y,hy,(⟨rfl,_⟩ | ⟨_,_,rfl⟩)⟩:=h8 hx
  ·exact h6.side _ hy
  ·have:=h6.side y hy
   exact ⟨this.lo,this.ne,this.e0,this.e1,by show (0:Int)≤3;omega,by show (3:Int)≤3;omega,this.df⟩
 ·obtain ⟨x,hx,e⟩:=h.dr.has p hp
  exact ⟨x,h9 hx (h.needed hx (by rw [e];exact hp)),e⟩
 ·obtain ⟨y,hy,e⟩:=hc hx
  rw [e];exact (h.may k hk).1 y hy
 ·obtain ⟨y,hy,(⟨rfl,_⟩ | ⟨_,hi,rfl⟩)⟩:=h8 hx
  ·exact h.sd _ hy
  ·have:=h.sd y hy
   exact ⟨this.1,this.2.1,this.2.2.1,fun _=>by show m.DK.DI.ID≤y.Peer;omega⟩
 ·obtain ⟨x,hx,h1,e⟩:=h.tin p hp
  exact ⟨x,h9 hx (Zws (by omega)),h1,e⟩
 ·obtain ⟨y,hy,(⟨rfl,_⟩ | ⟨hg,_,rfl⟩)⟩:=h8 hx
  ·exact h.nl _ hy hn
  ·have:=h.needed hy hn
   rw [hg] at this;simp at this
 ·obtain ⟨x,hx,e0,e⟩:=h.wt s hs h0 p hp
  exact ⟨x,h9 hx (Zws (by omega)),e0,e⟩
theorem OkN.once {n:Node} (h:OkN n):OkN (Z0s n):=h.pre.firgra.tel.lea
theorem Known_eqB (x y:KE):(decide (x.Peer=y.Peer)&&(decide (x.Epoch=y.Epoch)&&true))=decide (x=y):=by
 obtain ⟨a,b⟩:=x;obtain ⟨c,d⟩:=y
 simp only [KE.mk.injEq,Bool.and_true]
 by_cases h1:a=c<;>by_cases h2:b=d<;>simp [h1,h2]
theorem Zxs (l m:List KE) (hl:l.length≤1000000):Zv9 l m=some (decide (l=m)):=by
 simp only [Zv9,Zmo]
 by_cases h:l.length=m.length
 ·simp only [h,decide_true,Bool.not_true,Zwn]
  rw [Zjo l m _ (fun x y=>decide (x=y)) h (by omega) (fun k x y hx hy=>by
   simp only [Zu9,Z1o hx,Zvn,Zzn hx,Zzn hy,OB,Known_eqB,Z4o hx (show l.length≤4000000000000000000 by omega),Zxn]
   cases decide (x=y)<;>rfl) (by simp only [Zu9,Z2o,Zwn,Zt9,Option.map_some]),Zko l m h]
 ·simp [h,Zlo h]
theorem s_sessSame1 (x y:Sess) (hx:x.Need.length≤1000000):Zic x y=some (decide (x=y)):=by
 obtain ⟨i,n,s,a⟩:=x;obtain ⟨i',n',s',a'⟩:=y
 simp only at hx
 simp only [Zic,Zhc,Zgq n n' hx,OB,Sess.mk.injEq]
 by_cases h1:i=i'<;>by_cases h2:s=s'<;>by_cases h3:a=a'<;>by_cases h4:n=n'<;>simp [h1,h2,h3,h4]
theorem s_sessSame (b c:Book) (hb:Z8p b):Zke b c=some (decide (b=c)):=by
 obtain ⟨L,l⟩:=b;obtain ⟨L',m⟩:=c
 have h1:l.length≤1000000:=hb.1
 have h2:∀s∈l,s.Need.length≤1000000:=hb.2
 have e:Zr9 l m (fun z=>Zic z.1 z.2)=some (decide (l=m)):=by
  simp only [Zr9,Zmo]
  by_cases h:l.length=m.length
  ·simp only [h,decide_true,Bool.not_true,Zwn]
   rw [Zjo l m _ (fun x y=>decide (x=y)) h (by omega) (fun k x y hx hy=>by
    have hm:=h2 x (List.mem_of_getElem? hx)
    simp only [Zq9,Z1o hx,Zvn,Zzn hx,Zzn hy,OB,s_sessSame1 x y hm,Z4o hx (show l.length≤4000000000000000000 by omega),Zxn]
    cases decide (x=y)<;>rfl) (by simp only [Zq9,Z2o,Zwn,Zp9,Option.map_some]),Zko l m h]
  ·simp [h,Zlo h]
 simp only [Zke,Zje,e,OB,Book.mk.injEq]
 by_cases q1:L=L'<;>by_cases q2:l=m<;>simp [q1,q2]
theorem s_nSame (a b:Node) (h:FewN a):Zzf a b=some (decide (a=b)):=by
 have h1:=h.sides
 have h2:=h.need
 have h3:=h.told
 have h4:=h.known
 have h5:=h.asked
 obtain ⟨d,k,K,T,A⟩:=a
 obtain ⟨d',k',K',T',A'⟩:=b
 simp only at h1 h2 h3 h4 h5
 simp only [Zzf,Zyf,s_drSame d d' (by omega) (by omega),s_sessSame k k' h.bk,Zxs K K' (by omega),Zxs A A' (by omega),Zgq T T' (by omega),OB,Node.mk.injEq]
 by_cases q1:d=d'<;>by_cases q2:k=k'<;>by_cases q3:K=K'<;>by_cases q4:T=T'<;>by_cases q5:A=A'<;>simp [q1,q2,q3,q4,q5]
theorem Zys (l:List KE) (h:l.length≤1000000):Zv8 l=some l:=by
 simp only [Zv8]
 rw [Z0o _ _ (by omega) (by simp;omega),List.nil_append]
theorem s_own4 (n:Node) (a b c d:Int) (h:FewN n):Zqe a b c d n.Book.Sess n.Told n.DK.DI.SD n.DK.Need n.KN n.AK=some (n.DK.DI.SD,n.DK.Need,n.KN,n.Told,n.AK,n.Book.Sess):=by
 have h1:=h.sides
 have h2:=h.need
 have h3:=h.told
 have h4:=h.known
 have h5:=h.asked
 have h6:=h.book
 dsimp only [Zqe,Zpe,Zoe]
 rw [Zop _ (by omega),OB,Zbp _ (by omega),OB,Zys _ (by omega),OB,Zbp _ (by omega),OB,Zys _ (by omega),OB,Zcp _ (by omega),OB]
 refine Zco n.Book.Sess _ (fun pre=>((pre.length:Int),n.Book.Sess)) _ (fun pre x post h0=>?_) ?_
 ·have hx:=Zdo h0
  have hm:=Zeo h0
  have hN:=h.needs x (Zfo h0)
  dsimp only [Zne,Zme]
  rw [Z1o hx,Zvn,Zzn hx,OB,Zbp _ (by omega),OB,Z3o (by omega),Int.toNat_natCast,set_same hx,Zio]
 ·dsimp only [Zne,Zle]
  rw [Z2o,Zwn];rfl
theorem s_own2 (n:Node) (h:FewN n):Z9e n=some (n.DK.DI.SD,n.DK.Need,n.KN,n.Told,n.AK,n.Book.Sess):=by
 have h1:=h.sides
 have h2:=h.need
 have h3:=h.told
 have h4:=h.known
 have h5:=h.asked
 have h6:=h.book
 dsimp only [Z9e,Z8e,Z7e]
 rw [Zop _ (by omega),OB,Zbp _ (by omega),OB,Zys _ (by omega),OB,Zbp _ (by omega),OB,Zys _ (by omega),OB,Zcp _ (by omega),OB]
 refine Zco n.Book.Sess _ (fun pre=>((pre.length:Int),n.Book.Sess)) _ (fun pre x post h0=>?_) ?_
 ·have hx:=Zdo h0
  have hm:=Zeo h0
  have hN:=h.needs x (Zfo h0)
  dsimp only [Z6e,Z5e]
  rw [Z1o hx,Zvn,Zzn hx,OB,Zbp _ (by omega),OB,Z3o (by omega),Int.toNat_natCast,set_same hx,Zio]
 ·dsimp only [Z6e,Z4e]
  rw [Z2o,Zwn];rfl
structure Quiet (n:Node):Prop where
 ask:n.DK.DI.PH=2∨n.AK=[]
 thi:Zpr n=none∨n.DK.TH≠0
 hun:n.DK.DI.PH≠0∨n.DK.DI.SD.any (Zbr n.Told)=false
 fire:Z8q n.DK=n.DK
 tel:n.DK.DI.PH≠2∨n.DK.DI.SD.any (Zbr n.Told)=false
 lea:n.DK.DI.SD.any (Zer n.DK.TH n.DK.Need)=false
theorem Quiet.pre {n:Node} (h:Quiet n):Zyr n=n∧Zor n=n∧ansNM n=[]∧ansNV n=[]:=by
 obtain ⟨⟨⟨id,ph,S⟩,th,N⟩,B,K,T,A⟩:=n
 have ha:=h.ask
 have ht:=h.thi
 have hh:=h.hun
 simp only at ha ht hh
 have e1:Zor ⟨⟨⟨id,ph,S⟩,th,N⟩,B,K,T,A⟩=⟨⟨⟨id,ph,S⟩,th,N⟩,B,K,T,A⟩∧ansNM ⟨⟨⟨id,ph,S⟩,th,N⟩,B,K,T,A⟩=[]∧ansNV ⟨⟨⟨id,ph,S⟩,th,N⟩,B,K,T,A⟩=[]:=by
  unfold Zor ansNM ansNV
  dsimp only
  split
  ·exact ⟨rfl,rfl,rfl⟩
  ·rename_i h2
   rcases ha with ha | ha
   ·exact absurd ha h2
   ·subst ha;exact ⟨rfl,rfl,rfl⟩
 have e2:Zrr ⟨⟨⟨id,ph,S⟩,th,N⟩,B,K,T,A⟩=⟨⟨⟨id,ph,S⟩,th,N⟩,B,K,T,A⟩:=by
  unfold Zrr Zqr
  split
  ·rename_i s hw
   rcases ht with ht | ht
   ·rw [hw] at ht;simp at ht
   ·dsimp only;rw [if_neg ht]
  ·rfl
 have e3:Zsr ⟨⟨⟨id,ph,S⟩,th,N⟩,B,K,T,A⟩=⟨⟨⟨id,ph,S⟩,th,N⟩,B,K,T,A⟩:=by
  unfold Zsr hunP
  dsimp only
  rcases hh with hh | hh
  ·rw [DN hh];rfl
  ·rw [hh,Bool.and_false];rfl
 unfold Zyr
 rw [e1.1,e2,e3]
 exact ⟨rfl,rfl,e1.2⟩
theorem any_all {α:Type} {l:List α} {q:α→Bool} (h:l.any q=false):∀x∈l,q x=false:=by
 rw [List.any_eq_false] at h
 intro x hx;simpa using h x hx
theorem Quiet.once {n:Node} (hk:OkN n) (h:Quiet n):Z0s n=n∧Z1s n=[]∧Z2s n=[]:=by
 obtain ⟨p1,p2,p3,p4⟩:=h.pre
 have hf:=fireDr_calm h.fire
 have hm:Zzr n=n:=by unfold Zzr;rw [p1];unfold Ztr;rw [hf]
 have hg:Zur n=n∧graV n=[]:=by
  rcases Zms n with ⟨e1,e2⟩ | ⟨s,l,e1,e2,e3,_⟩
  ·exact ⟨by unfold Zur;rw [e1],e2⟩
  ·exfalso
   have:=hk.nowait e3
   unfold Zpr at this
   rw [e1] at this
   dsimp only at this
   rw [if_pos e2] at this;simp at this
 have ht:Zwr n=n∧(Zvr n).2=[]:=by
  have:Zvr n=(n.Told,[]):=by
   unfold Zvr
   split
   ·rename_i h2
    rcases h.tel with q | q
    ·exact absurd h2 q
    ·exact Zrs _ _ _ _ (any_all q)
   ·rfl
  unfold Zwr;rw [this];exact ⟨rfl,rfl⟩
 have hl:=Zjr (id:=n.DK.DI.ID) (any_all h.lea)
 have h6:leaN n=n:=by unfold leaN;rw [hl.1]
 unfold Z0s Z1s Z2s Zxr
 rw [hm,hg.1,ht.1,h6,p1,p3,p4,hg.2,ht.2,hf,hl.2]
 exact ⟨rfl,rfl,rfl⟩
theorem Zzs (n:Node):(Zor n).Told=n.Told∧(Zor n).Book=n.Book∧(Zor n).DK.TH=n.DK.TH∧(Zor n).DK.Need=n.DK.Need∧(Zor n).DK.DI.ID=n.DK.DI.ID∧(Zor n).DK.DI.PH=n.DK.DI.PH:=by
 unfold Zor
 split<;>exact ⟨rfl,rfl,rfl,rfl,rfl,rfl⟩
theorem ans_side {n:Node} {x:Side} (h:x∈(Zor n).DK.DI.SD):x∈n.DK.DI.SD∨∃k∈n.AK,x=newS k:=by
 unfold Zor at h
 split at h
 ·exact .inl h
 ·exact ansS_mem.1 h
theorem Z0t {n:Node} {x:Side} (h:x∈n.DK.DI.SD):x∈(Zor n).DK.DI.SD:=by
 unfold Zor
 split
 ·exact h
 ·exact ansS_mem.2 (.inl h)
theorem Z1t (n:Node):(Zrr n).DK.DI=n.DK.DI:=by
 show (Zqr n).DI=_
 unfold Zqr
 split
 ·split<;>rfl
 ·rfl
theorem Z2t (n:Node):(Zyr n).DK.DI.SD=(Zor n).DK.DI.SD:=by
 show (Zrr (Zor n)).DK.DI.SD=_
 rw [Z1t]
theorem pre_id (n:Node):(Zyr n).DK.DI.ID=n.DK.DI.ID:=by
 show (Zrr (Zor n)).DK.DI.ID=_
 rw [Z1t];exact (Zzs n).2.2.2.2.1
theorem waits_ans (n:Node):Zpr (Zor n)=Zpr n:=by
 unfold Zpr;rw [(Zzs n).2.1]
theorem pre_phase (n:Node):(Zyr n).DK.DI.PH=if decide (n.DK.DI.PH=0)&&(Zor n).DK.DI.SD.any (Zbr n.Told) then 1 else n.DK.DI.PH:=by
 show hunP (Zrr (Zor n))=_
 unfold hunP
 rw [Z1t,(Zzs n).2.2.2.2.2,show (Zrr (Zor n)).Told=n.Told from (Zzs n).1]
theorem pre_th (n:Node):(Zpr n=none∨n.DK.TH≠0)∧(Zyr n).DK.TH=n.DK.TH∧(Zyr n).DK.Need=n.DK.Need∨n.DK.TH=0∧∃s,Zpr n=some s∧(Zyr n).DK.TH=1∧(Zyr n).DK.Need=s.Need:=by
 have e1:(Zyr n).DK.TH=(Zqr (Zor n)).TH:=rfl
 have e2:(Zyr n).DK.Need=(Zqr (Zor n)).Need:=rfl
 rw [e1,e2]
 unfold Zqr
 rw [waits_ans,(Zzs n).2.2.1]
 cases hw:Zpr n with
 | none=>left;exact ⟨.inl rfl,(Zzs n).2.2.1,(Zzs n).2.2.2.1⟩
 | some s=>
   by_cases h0:n.DK.TH=0
   ·right;dsimp only;rw [if_pos h0];exact ⟨h0,s,rfl,rfl,rfl⟩
   ·left;dsimp only;rw [if_neg h0];exact ⟨.inr h0,(Zzs n).2.2.1,(Zzs n).2.2.2.1⟩
theorem mid_side {n:Node} {x:Side} (h:x∈(Zzr n).DK.DI.SD):∃y∈(Zor n).DK.DI.SD,y.Peer=x.Peer∧y.Epoch=x.Epoch∧y.State=x.State:=by
 have:=Zjs (Zis (Zyr n).DK).core h
 rw [Z2t] at this;exact this
theorem once_side {n:Node} {x:Side} (h:x∈(Z0s n).DK.DI.SD):∃y∈(Zor n).DK.DI.SD,y.Peer=x.Peer∧y.Epoch=x.Epoch∧(y.State=x.State∨y.State=2∧x.State=3):=by
 obtain ⟨z,hz,hq⟩:=Zts h
 obtain ⟨y,hy,e1,e2,e3⟩:=mid_side (n:=n) hz
 refine ⟨y,hy,?_⟩
 rcases hq with ⟨rfl,_⟩ | ⟨hg,_,rfl⟩
 ·exact ⟨e1,e2,.inl e3⟩
 ·exact ⟨e1,e2,.inr ⟨by rw [e3];exact Zvs hg,rfl⟩⟩
theorem told_sub {n:Node} {p:Int} (h:p∈n.Told):p∈(Z0s n).Told:=(Zss (Zur (Zzr n)) p).2 (.inl (by
 show p∈(Zor n).Told
 rw [(Zzs n).1];exact h))
theorem once_unt {n:Node} (h:(Z0s n).DK.DI.SD.any (Zbr (Z0s n).Told)=true):∃z∈n.DK.DI.SD,Zbr n.Told z=true:=by
 obtain ⟨x,hx,hu⟩:=List.any_eq_true.1 h
 unfold Zbr Zqq at hu ⊢
 simp only [Bool.and_eq_true,decide_eq_true_eq,Bool.not_eq_true',decide_eq_false_iff_not] at hu ⊢
 obtain ⟨y,hy,e1,e2,e3⟩:=once_side hx
 rcases ans_side hy with hy | ⟨k,_,rfl⟩
 ·exact ⟨y,hy,by omega,fun hm=>hu.2 (by rw [←e1];exact told_sub hm)⟩
 ·exfalso;have:(newS k).State=0:=rfl;omega
def thM (th:Int):Nat:=if th=0 then 2 else if th=1 then 1 else 0
def gosN (n:Node):Bool:=n.DK.DI.SD.any (Zer n.DK.TH n.DK.Need)
def untN (n:Node):Bool:=n.DK.DI.SD.any (Zbr n.Told)
def meas (n:Node):Nat:=bn (!n.AK.isEmpty)+thM n.DK.TH+bn (decide (n.DK.DI.PH=0)&&untN n)+bn (!decide (Z8q n.DK=n.DK))+bn (untN n)+2*bn (gosN n)
theorem bn_le (b:Bool):bn b≤1:=by cases b<;>simp [bn]
theorem bn_mono {a b:Bool} (h:a=true→b=true):bn a≤bn b:=by
 cases a with
 | false=>simp [bn]
 | true=>rw [h rfl];exact Nat.le_refl _
theorem bn_f {a:Bool} (h:a=false):bn a=0:=by rw [h];rfl
theorem bn_t {a:Bool} (h:a=true):bn a=1:=by rw [h];rfl
theorem Z3t (n:Node):(Z0s n).AK=if n.DK.DI.PH=2 then n.AK else []:=by
 show (Zor n).AK=_
 unfold Zor
 split<;>rfl
theorem once_gos (n:Node):gosN (Z0s n)=false:=by
 unfold gosN
 rw [List.any_eq_false]
 intro x hx
 have:=leav_done _ _ _ _ x hx
 rw [show (Z0s n).DK.TH=(Zwr (Zur (Zzr n))).DK.TH from rfl,show (Z0s n).DK.Need=(Zwr (Zur (Zzr n))).DK.Need from rfl,this]
 simp
theorem once_th (n:Node) (h:OkN n):(thM (Z0s n).DK.TH≤thM n.DK.TH)∧((Zpr n=none∨n.DK.TH≠0)∨thM (Z0s n).DK.TH<thM n.DK.TH):=by
 have hR:=(Zis (Zyr n).DK).th
 have e:(Z0s n).DK.TH=(Zfq (Zyr n).DK).1.TH:=rfl
 have h0:=h.dr.t0
 have h2:=h.dr.t2
 rw [e]
 unfold thM
 rcases pre_th n with ⟨q1,q2,_⟩ | ⟨q1,s,_,q2,_⟩
 ·refine ⟨?_,.inl q1⟩
  (repeat' split)<;>omega
 ·refine ⟨?_,.inr ?_⟩<;>(repeat' split)<;>omega
theorem mid_gos {n:Node} (hg:gosN n=false):∀x∈(Zzr n).DK.DI.SD,Zer (Zzr n).DK.TH (Zzr n).DK.Need x=false:=by
 intro x hx
 by_cases h2:x.State=2
 ·obtain ⟨y,hy,e1,_,e3⟩:=mid_side hx
  rcases ans_side hy with hy | ⟨k,_,rfl⟩
  ·have:=any_all hg y hy
   unfold Zer at this ⊢
   rw [DT (show y.State=2 by omega),Bool.true_and,Bool.not_eq_false',Bool.and_eq_true,decide_eq_true_eq,decide_eq_true_eq] at this
   have hR:=Zis (Zyr n).DK
   have h9:=hR.th
   have h6:(Zzr n).DK.Need=(Zyr n).DK.Need:=hR.need
   have h8:(Zzr n).DK.TH=(Zfq (Zyr n).DK).1.TH:=rfl
   rcases pre_th n with ⟨_,q2,q3⟩ | ⟨q1,_⟩
   ·rw [h6,q3,h8,DT (show (Zfq (Zyr n).DK).1.TH=2 by omega),←e1,DT this.2]
    simp
   ·omega
  ·exfalso;have:(newS k).State=0:=rfl;omega
 ·exact Zws h2
theorem once_fix {n:Node} (h:OkN n) (hg:gosN n=false):Z8q (Z0s n).DK=(Z0s n).DK:=by
 have hc:=Zjr (id:=(Zzr n).DK.DI.ID) (mid_gos hg)
 have e:(Z0s n).DK=(Zzr n).DK:=by
  show (⟨⟨(Zzr n).DK.DI.ID,(Zzr n).DK.DI.PH,Zhr (Zzr n).DK.DI.ID (Zzr n).DK.TH (Zzr n).DK.Need (Zzr n).DK.DI.SD⟩,(Zzr n).DK.TH,(Zzr n).DK.Need⟩:DK)=_
  rw [hc.1]
 rw [e]
 exact fireDr_fix ((okD_iff _).2 h.pre.dr.din)
theorem once_hun {n:Node} (hu:untN (Z0s n)=true):(Z0s n).DK.DI.PH≠0:=by
 obtain ⟨z,hz,hz'⟩:=once_unt hu
 have hs:z.State=1:=by unfold Zbr Zqq at hz';rw [Bool.and_eq_true,decide_eq_true_eq] at hz';exact hz'.1
 have hb:busy (Zyr n).DK:=by
  refine ⟨?_,z,by rw [Z2t];exact Z0t hz,hs⟩
  rw [pre_phase]
  split
  ·omega
  ·rename_i hc
   intro e
   exact hc (by rw [DT e,Bool.true_and];exact List.any_eq_true.2 ⟨z,Z0t hz,hz'⟩)
 exact (busy_fire hb).1
theorem pre_eats {n:Node} (h:eats n.DK):eats (Zyr n).DK:=by
 obtain ⟨h1,x,hx,h2⟩:=h
 refine ⟨?_,x,by rw [Z2t];exact Z0t hx,h2⟩
 rw [pre_phase,DN (by omega)]
 exact h1
theorem once_tel {n:Node} (hp:n.DK.DI.PH=2):untN (Z0s n)=false:=by
 cases hu:untN (Z0s n) with
 | false=>rfl
 | true=>
   exfalso
   obtain ⟨x,hx,h6⟩:=List.any_eq_true.1 hu
   obtain ⟨z,hz,hz'⟩:=once_unt hu
   have hs:z.State=1:=by unfold Zbr Zqq at hz';rw [Bool.and_eq_true,decide_eq_true_eq] at hz';exact hz'.1
   have he:=eats_fire (pre_eats (n:=n) ⟨hp,z,hz,hs⟩)
   unfold Zbr Zqq at h6
   simp only [Bool.and_eq_true,decide_eq_true_eq,Bool.not_eq_true',decide_eq_false_iff_not] at h6
   refine h6.2 ?_
   refine (Zss (Zur (Zzr n)) x.Peer).2 (.inr ⟨he.1,?_⟩)
   obtain ⟨y,hy,hq⟩:=Zts hx
   rcases hq with ⟨rfl,_⟩ | ⟨_,_,rfl⟩
   ·exact ⟨_,hy,h6.1,rfl⟩
   ·exact absurd h6.1 (by show ¬(3:Int)=1;omega)
theorem Z4t {n:Node} (h:OkN n):Quiet n∨meas (Z0s n)<meas n:=by
 have a1:bn (!(Z0s n).AK.isEmpty)≤bn (!n.AK.isEmpty):=by
  rw [Z3t];split
  ·exact Nat.le_refl _
  ·simp [bn]
 have a2:=once_th n h
 have a3:bn (decide ((Z0s n).DK.DI.PH=0)&&untN (Z0s n))=0:=bn_f (by
  cases hu:untN (Z0s n) with
  | false=>simp
  | true=>rw [DN (once_hun hu)];rfl)
 have a4:bn (untN (Z0s n))≤bn (untN n):=bn_mono fun hu=>by
  obtain ⟨z,hz,hz'⟩:=once_unt hu
  exact List.any_eq_true.2 ⟨z,hz,hz'⟩
 have a5:bn (gosN (Z0s n))=0:=bn_f (once_gos n)
 have a6:=bn_le (!decide (Z8q (Z0s n).DK=(Z0s n).DK))
 have a7:gosN n=false→bn (!decide (Z8q (Z0s n).DK=(Z0s n).DK))=0:=fun hg=>bn_f (by rw [DT (once_fix h hg)];rfl)
 unfold meas
 cases hg:gosN n with
 | true=>
   right
   rw [show bn true=1 from rfl,a3,a5]
   omega
 | false=>
   rw [a7 hg,a3,a5,show bn false=0 from rfl]
   by_cases c1:n.DK.DI.PH=2∨n.AK=[]
   ·by_cases c2:Zpr n=none∨n.DK.TH≠0
    ·cases c3:decide (n.DK.DI.PH=0)&&untN n with
     | true=>right;rw [show bn true=1 from rfl];omega
     | false=>
       by_cases c4:Z8q n.DK=n.DK
       ·by_cases c5:n.DK.DI.PH=2∧untN n=true
        ·right
         rw [bn_t c5.2,bn_f (once_tel c5.1)]
         omega
        ·left
         refine ⟨c1,c2,?_,c4,?_,hg⟩
         ·rw [Bool.and_eq_false_iff,decide_eq_false_iff_not] at c3;exact c3
         ·by_cases hp:n.DK.DI.PH=2
          ·right
           cases hu:n.DK.DI.SD.any (Zbr n.Told) with
           | false=>rfl
           | true=>exact absurd ⟨hp,hu⟩ c5
          ·exact .inl hp
       ·right
        rw [DN c4,show bn (!false)=1 from rfl]
        omega
    ·right
     rcases a2.2 with q | q
     ·exact absurd q c2
     ·omega
   ·right
    have c1:=not_or.1 c1
    rw [Z3t,if_neg c1.1]
    have:bn (!n.AK.isEmpty)=1:=bn_t (by cases he:n.AK with
     | nil=>exact absurd he c1.2
     | cons a l=>rfl)
    rw [this]
    have:bn (!([]:List KE).isEmpty)=0:=rfl
    omega
theorem meas_le (n:Node):meas n≤8:=by
 have b1:=bn_le (!n.AK.isEmpty)
 have b2:=bn_le (decide (n.DK.DI.PH=0)&&untN n)
 have b3:=bn_le (!decide (Z8q n.DK=n.DK))
 have b4:=bn_le (untN n)
 have b5:=bn_le (gosN n)
 have:thM n.DK.TH≤2:=by unfold thM;(repeat' split)<;>omega
 unfold meas;omega
theorem quiet_iff {n:Node} (h:OkN n):Quiet n↔Z0s n=n:=by
 constructor
 ·exact fun q=>(q.once h).1
 ·intro e
  rcases Z4t h with q | q
  ·exact q
  ·rw [e] at q;omega
def Z5t:Nat→Node→List Mail→List Event→Node×List Mail×List Event
 | 0,n,E,V=>(n,E,V)
 | k+1,n,E,V=>if Z0s n=n then (n,E,V) else Z5t k (Z0s n) (E++Z1s n) (V++Z2s n)
def Z6t (n:Node) (E:List Mail) (V:List Event):Node×List Mail×List Event:=Z5t 9 n E V
theorem Z7t {n:Node} (h:OkN n):(Z1s n).length≤500:=by
 have h1:=h.askedL
 have h2:=Z6s ((Z9s _).2 h.pre.dr)
 have hm:OkN (Zur (Zzr n)):=h.pre.firgra
 have h3:=hm.dr.din.len
 have h4:(Zvr (Zur (Zzr n))).2.length≤64:=by
  unfold Zvr
  split
  ·have:=Z4s (Zur (Zzr n)).DK.DI.ID (Zur (Zzr n)).DK.DI.SD (Zur (Zzr n)).Told []
   simp only [List.length_nil] at this
   omega
  ·simp
 have h5:(Zxr (Zwr (Zur (Zzr n)))).length≤64:=by
  have:=Zmr (Zur (Zzr n)).DK.DI.ID (Zur (Zzr n)).DK.TH (Zur (Zzr n)).DK.Need (Zur (Zzr n)).DK.DI.SD
  unfold Zxr
  show (Zir (Zur (Zzr n)).DK.DI.ID (Zur (Zzr n)).DK.TH (Zur (Zzr n)).DK.Need (Zur (Zzr n)).DK.DI.SD).length≤64
  omega
 have h6:(ansNM n).length≤64:=by
  unfold ansNM;split
  ·simp
  ·unfold ansM;rw [List.length_map];omega
 unfold Z1s
 simp only [List.length_append]
 omega
theorem Z8t {n:Node} (h:OkN n):(Z2s n).length≤500:=by
 have h1:=h.askedL
 have h6:(ansNV n).length≤64:=by
  unfold ansNV;split
  ·simp
  ·unfold ansV;rw [List.length_map];omega
 have:(graV (Zzr n)).length≤1:=by
  rcases Zms (Zzr n) with ⟨_,e⟩ | ⟨s,l,_,_,_,_,e⟩<;>rw [e]<;>simp
 unfold Z2s
 rw [List.length_append];omega
def tupS (r:Node×List Mail×List Event):Int×Int×Int×Int×List Sess×List Int×Int×List Side×List Int×List KE×List KE×List Mail×List Event:=
 (r.1.DK.DI.ID,r.1.DK.DI.PH,r.1.DK.TH,r.1.Book.Last,r.1.Book.Sess,r.1.Told,0,r.1.DK.DI.SD,r.1.DK.Need,r.1.KN,r.1.AK,r.2.1,r.2.2)
theorem Z9t (body:Int×Int×Int×Int×List Sess×List Int×List Mail×List KE×List Event×List KE×List Int×List Side→Option ((Int×Int×Int×Int×List Sess×List Int×List Mail×List KE×List Event×List KE×List Int×List Side) ⊕ (Int×Int×Int×Int×List Sess×List Int×Int×List Side×List Int×List KE×List KE×List Mail×List Event)))
  (hb:∀(n:Node) E V,OkN n→E.length≤600000→V.length≤600000→body (n.DK.DI.ID,n.DK.DI.PH,n.DK.TH,n.Book.Last,n.Book.Sess,n.Told,E,n.KN,V,n.AK,n.DK.Need,n.DK.DI.SD) =
    if n=Z0s n then some (.inr (tupS (Z0s n,E++Z1s n,V++Z2s n))) else some (.inl ((Z0s n).DK.DI.ID,(Z0s n).DK.DI.PH,(Z0s n).DK.TH,(Z0s n).Book.Last,(Z0s n).Book.Sess,(Z0s n).Told,E++Z1s n,(Z0s n).KN,V++Z2s n,(Z0s n).AK,(Z0s n).DK.Need,(Z0s n).DK.DI.SD))):
  ∀(k:Nat) (n:Node) (E:List Mail) (V:List Event),OkN n→meas n<k→E.length+500*k≤500000→V.length+500*k≤500000→
   loop body (n.DK.DI.ID,n.DK.DI.PH,n.DK.TH,n.Book.Last,n.Book.Sess,n.Told,E,n.KN,V,n.AK,n.DK.Need,n.DK.DI.SD)=some (tupS (Z5t k n E V))
 | 0,_,_,_,_,h,_,_=>by omega
 | k+1,n,E,V,hn,hm,hE,hV=>by
   have l1:=Z7t hn
   have l2:=Z8t hn
   rw [loop_eq,hb n E V hn (by omega) (by omega)]
   unfold Z5t
   by_cases hq:Z0s n=n
   ·obtain ⟨q1,q2,q3⟩:=((quiet_iff hn).2 hq).once hn
    rw [if_pos hq.symm,if_pos hq,q2,q3,List.append_nil,List.append_nil,hq]
   ·rw [if_neg fun e=>hq e.symm,if_neg hq]
    refine Z9t body hb k (Z0s n) _ _ hn.once ?_ (by rw [List.length_append];omega) (by rw [List.length_append];omega)
    rcases Z4t hn with q | q
    ·exact absurd (q.once hn).1 hq
    ·omega
theorem settled_body (f:Int) (n:Node) (E:List Mail) (V:List Event) (hn:OkN n) (hE:E.length≤600000) (hV:V.length≤600000):
  (Zqe n.DK.DI.ID n.DK.DI.PH n.DK.TH n.Book.Last n.Book.Sess n.Told n.DK.DI.SD n.DK.Need n.KN n.AK)=some (n.DK.DI.SD,n.DK.Need,n.KN,n.Told,n.AK,n.Book.Sess)
  ∧Z2l n.DK.DI.ID n.DK.DI.PH n.DK.TH n.Book.Last n.Book.Sess n.Told f n.DK.DI.SD n.DK.Need n.KN n.AK E V=some (tupN (Z0s n) (E++Z1s n) (V++Z2s n))
  ∧Zzf n (Z0s n)=some (decide (n=Z0s n)):=
 ⟨s_own4 n _ _ _ _ hn.few,s_once1 f n hn.go E V hE hV,s_nSame n _ hn.few⟩
theorem Zat (n:Node) (h:OkN n) (V:List Event) (hV:V.length≤100000):
  Z8l n.DK.DI.ID n.DK.DI.PH n.DK.TH n.Book.Last n.Book.Sess n.Told 0 n.DK.DI.SD n.DK.Need n.KN n.AK V=some (tupS (Z6t n [] V)):=by
 dsimp only [Z8l]
 rw [DT rfl,Bool.not_true,Zwn]
 refine Z9t _ (fun m E V hm hE hV=>?_) 9 n [] V h (by have:=meas_le n;omega) (by simp) (by omega)
 obtain ⟨e1,e2,e3⟩:=settled_body 0 m E V hm hE hV
 dsimp only [Z7l]
 rw [e1,OB,e2,OB]
 have e3':Zzf m (Z0s m)=some (decide (m=Z0s m)):=e3
 dsimp only [tupN]
 rw [e3',OB]
 by_cases hq:m=Z0s m
 ·rw [if_pos hq,DT hq];rfl
 ·rw [if_neg hq,DN hq];rfl
theorem Zbt (a b c d e:Int) (B:List Sess) (he:e≠0) (V:List Event) (N:List Int) (S:List Side) (T:List Int) (A K:List KE):
  Z8l a b c d B T e S N K A V=some (0,0,0,0,[],[],e,[],[],[],[],[],[]):=by
 dsimp only [Z8l]
 rw [DN he,Bool.not_false,Zvn]
theorem Zct {P:Node→List Mail→List Event→Prop} (hs:∀n E V,OkN n→P n E V→P (Z0s n) (E++Z1s n) (V++Z2s n)):∀(k:Nat) (n:Node) (E:List Mail) (V:List Event),OkN n→P n E V→P (Z5t k n E V).1 (Z5t k n E V).2.1 (Z5t k n E V).2.2
 | 0,_,_,_,_,h=>h
 | k+1,n,E,V,hn,h=>by
   unfold Z5t
   split
   ·exact h
   ·exact Zct hs k _ _ _ hn.once (hs n E V hn h)
theorem Zdt {P:Node→List Mail→List Event→Prop} (hs:∀n E V,OkN n→P n E V→P (Z0s n) (E++Z1s n) (V++Z2s n)) {n:Node} {E:List Mail} {V:List Event} (hn:OkN n) (h:P n E V):P (Z6t n E V).1 (Z6t n E V).2.1 (Z6t n E V).2.2:=Zct hs 9 n E V hn h
def Zht (p:Int) (s:Sess):Bool:=decide (s.State=0)&&decide (p∈s.Need)
def Zit (p:Int) (l:List Sess):List Int:=(l.filter (Zht p)).map (·.ID)
theorem s_Gone1 (s:Sess) (p:Int) (ids:List Int) (hs:s.Need.length≤1000000) (hi:ids.length≤1000000):Zxg s p ids=some (Zht p s,if Zht p s then ids++[s.ID] else ids):=by
 simp only [Zxg,Zwg,Zvg,Z0p s.Need p hs,OB]
 rw [Z0o _ _ (by omega) (by simp;omega),OB]
 unfold Zht
 cases decide (s.State=0)<;>cases decide (p∈s.Need)<;>rfl
theorem Zjt (p:Int) (l:List Sess) (s:Sess):Zit p (l++[s])=if Zht p s then Zit p l++[s.ID] else Zit p l:=by
 unfold Zit
 rw [List.filter_append,List.map_append]
 cases h:Zht p s<;>simp [h]
theorem Zkt (p:Int) (l:List Sess):(Zit p l).length≤l.length:=by
 unfold Zit;rw [List.length_map];exact List.length_filter_le _ _
theorem s_IndexGone (p:Int) (l:List Sess) (hl:l.length≤100000) (hn:∀s∈l,s.Need.length≤1000000):
  Z3i p l=some (match l.findIdx? (Zht p) with | some i=>((i:Int),Zit p (l.take (i+1))) | none=>(-1,[])):=by
 unfold Z3i
 have key:∀(post pre:List Sess),l=pre++post→(∀s∈pre,Zht p s=false)→loop (Z2i p l) ((pre.length:Int),([]:List Int))=some (match l.findIdx? (Zht p) with | some i=>((i:Int),Zit p (l.take (i+1))) | none=>(-1,[])):=by
  intro post
  induction post with
  | nil=>
    intro pre h hp
    have h:pre=l:=by simpa using h.symm
    subst h
    have:pre.findIdx? (Zht p)=none:=by rw [List.findIdx?_eq_none_iff];exact hp
    rw [this,loop_eq]
    dsimp only [Z2i]
    rw [Z2o,Zwn];rfl
  | cons x post ih=>
    intro pre h hp
    have hx:=Zdo h
    have hm:=Zeo h
    rw [loop_eq]
    dsimp only [Z2i]
    rw [Z1o hx,Zvn,Zzn hx,OB,s_Gone1 x p [] (hn x (Zfo h)) (by simp),OB]
    cases hg:Zht p x with
    | true=>
      have hf:l.findIdx? (Zht p)=some pre.length:=by
       rw [List.findIdx?_eq_some_iff_getElem]
       refine ⟨by omega,?_,fun j hj=>?_⟩
       ·have:l[pre.length]'(by omega)=x:=(List.getElem?_eq_some_iff.1 hx).2
        rw [this];exact hg
       ·have h6:l[j]?=pre[j]?:=by rw [h,List.getElem?_append_left hj]
        have:l[j]'(by omega)∈pre:=by
         have e:l[j]?=some (l[j]'(by omega)):=List.getElem?_eq_getElem _
         rw [h6] at e
         exact List.mem_of_getElem? e
        simpa using hp _ this
      rw [hf]
      have ht:l.take (pre.length+1)=pre++[x]:=by rw [h,show pre++x::post=(pre++[x])++post by simp,List.take_left' (by simp)]
      have hz:Zit p pre=[]:=by unfold Zit;rw [List.filter_eq_nil_iff.2 fun s hs=>by rw [hp s hs];simp];rfl
      dsimp only
      rw [ht,Zjt,hg,hz];rfl
    | false=>
      have:=ih (pre++[x]) (by simpa using h) fun s hs=>by
       rcases List.mem_append.1 hs with hs | hs
       ·exact hp s hs
       ·simp at hs;subst hs;exact hg
      rw [Zio] at this
      rw [←this]
      dsimp only
      rw [if_neg (by simp),Zwn,Z3o (by omega)]
 exact key l [] rfl (by simp)
theorem s_DeleteGone (p:Int) (l:List Sess) (hl:l.length≤100000) (hn:∀s∈l,s.Need.length≤1000000):
  Zsi p l=some (Zit p l,l.filter fun s=>!Zht p s):=by
 simp only [Zsi,s_IndexGone p l hl hn,OB]
 cases hf:l.findIdx? (Zht p) with
 | none=>
   rw [List.findIdx?_eq_none_iff] at hf
   dsimp only
   rw [DT rfl,Zvn,List.filter_eq_self.2 (fun x hx=>by rw [hf x hx];rfl)]
   have:Zit p l=[]:=by unfold Zit;rw [List.filter_eq_nil_iff.2 fun s hs=>by rw [hf s hs];simp];rfl
   rw [this]
 | some i=>
   obtain ⟨hi,hq,ho⟩:=List.findIdx?_eq_some_iff_getElem.1 hf
   dsimp only
   rw [DN (by omega),Zwn,Z3o (by omega)]
   let F:List Sess→List Sess:=fun pre=>pre.filter fun x=>!Zht p x
   have hF:∀pre post,l=pre++post→(F pre).length≤pre.length:=fun pre post _=>List.length_filter_le _ _
   have key:=Zao l (Zri p) (fun pre=>(((F pre).length:Int),(pre.length:Int),F pre++l.drop (F pre).length,Zit p pre)) (fun _ _=>some (Zit p l,F l)) (fun pre x post h=>?_) ?_ (l.drop (i+1)) (l.take (i+1)) (by simp)
   ·have e1:F (l.take (i+1))=l.take i:=by
     show (l.take (i+1)).filter _=_
     rw [List.take_succ_eq_append_getElem hi,List.filter_append]
     have a1:(l.take i).filter (fun x=>!Zht p x)=l.take i:=by
      rw [List.filter_eq_self]
      intro x hx
      obtain ⟨j,hj,rfl⟩:=List.mem_iff_getElem.1 hx
      rw [List.getElem_take]
      have:=ho j (by simp at hj;omega)
      simpa using this
     have a2: [l[i]].filter (fun x=>!Zht p x)=[]:=by simp [hq]
     rw [a1,a2,List.append_nil]
    rw [e1] at key
    have e2:(l.take i).length=i:=by simp;omega
    have e3:(l.take (i+1)).length=i+1:=by simp;omega
    rw [e2,e3,List.take_append_drop] at key
    exact key
   ·left
    refine ⟨?_,rfl⟩
    have hx:=Zdo h
    have hm:=Zeo h
    have h8:=hF pre (x::post) h
    have hB:=Zkt p pre
    have h6:(F pre++l.drop (F pre).length).length=l.length:=by simp;omega
    have h9:(F pre++l.drop (F pre).length)[pre.length]?=some x:=by
     rw [List.getElem?_append_right h8,List.getElem?_drop,show (F pre).length+(pre.length-(F pre).length)=pre.length by omega];exact hx
    dsimp only [Zri]
    rw [Z1o h9,Zvn,Zzn h9,OB,s_Gone1 x p _ (hn x (Zfo h)) (by omega),OB]
    have hc:F (pre++[x])=F pre++(if Zht p x then [] else [x]):=by
     show (pre++[x]).filter _=_
     rw [List.filter_append]
     congr 1
     cases hw:Zht p x<;>simp [hw]
    rw [←Zjt]
    cases he:Zht p x with
    | true=>
      rw [Bool.not_true,Zwn]
      dsimp only [Zqi]
      rw [Z3o (by omega),hc,he,if_pos rfl,List.append_nil,Zio]
    | false=>
      rw [Bool.not_false,Zvn]
      obtain ⟨d,hd⟩:=Z3p (fun x=>!Zht p x) pre post x
      rw [←h] at hd
      have hd':l.drop (F pre).length=d::l.drop ((F pre).length+1):=hd
      have hA:(F pre++l.drop (F pre).length)[(F pre).length]?=some d:=by rw [hd'];simp
      rw [Zzn hA,OB]
      dsimp only [Zqi]
      rw [Z3o (by omega),Z3o (by omega),hc,he,if_neg (by simp),Zio,hd',Int.toNat_natCast,Zio]
      simp
   ·dsimp only [Zri]
    have h8:=hF l [] (by simp)
    have h6:(F l++l.drop (F l).length).length=l.length:=by simp;omega
    rw [show ((l.length:Int))=((F l++l.drop (F l).length).length:Int) by rw [h6],Z2o,Zwn]
    dsimp only [Zpi]
    unfold vw_
    rw [ln_eq,h6,if_pos ⟨by omega,by omega,by omega,by omega⟩,OB]
    unfold clr_
    rw [h6,if_pos ⟨by omega,by simp;omega⟩,OB]
    unfold sub_
    rw [if_pos ⟨by omega,by omega,by simp;omega⟩,OB]
    simp [Int.toNat_natCast,List.append_assoc]
theorem s_sessGone (b:Book) (p:Int) (hk:okBk b=true):Zbj b p=some (⟨b.Last,b.Sess.filter fun s=>!Zht p s⟩,Zit p b.Sess,0):=by
 have h:=(Zcs b).1 hk
 have hf:=h.few
 have hl:=h.len
 simp only [Zbj,Zap b hf,hk,if_true,OB,Zdp b hf,s_DeleteGone p b.Sess (by omega) (fun s hs=>hf.2 s hs),decide_true,Bool.not_true,Zwn]
theorem BkOK.sub {b:Book} (h:BkOK b) {l:List Sess} (hs:l.Sublist b.Sess):BkOK ⟨b.Last,l⟩:=
 ⟨h.last,Nat.le_trans hs.length_le h.len,h.up.sublist hs,fun s hm=>h.ok s (hs.subset hm),fun s hm=>h.tl s (hs.tail.subset hm)⟩
theorem cut_sub {α:Type} (l:List α) (i:Nat):(l.take i++l.drop (i+1)).Sublist l:=by
 conv=>rhs;rw [←List.take_append_drop i l]
 refine List.Sublist.append (List.Sublist.refl _) ?_
 rw [←List.drop_drop]
 exact List.drop_sublist _ _
def Zlt (s:Sess):Sess:=⟨s.ID,s.Need,s.State,max s.Age (min s.Age 4611686018427387903+1)⟩
def Zmt (b:Book) (hold:Int):Book×Int:=match b.Sess with
 | []=>(b,0)
 | s::l=>if s.State=1 then (if (Zlt s).Age<hold then (⟨b.Last,Zlt s::l⟩,0) else (⟨b.Last,l⟩,s.ID)) else (b,0)
theorem s_Tick (b:Book) (hold:Int) (hk:okBk b=true):Zpg b hold=some ((Zmt b hold).1,(Zmt b hold).2,0):=by
 have h:=(Zcs b).1 hk
 have hf:=h.few
 have hl:=h.len
 simp only [Zpg,Zap b hf,hk,if_true,OB,Zdp b hf,decide_true,Bool.not_true,Zwn,ln_eq]
 unfold Zmt
 cases hb:b.Sess with
 | nil=>
   dsimp only
   rw [show decide (((([]:List Sess).length:Nat):Int)=0)=true from rfl,Zvn]
   dsimp only [Zog]
   rw [Zvn,←hb]
 | cons s l=>
   have hs:=h.ok s (by rw [hb];simp)
   have h0:at_ (s::l) 0=some s:=rfl
   dsimp only
   rw [DN (by simp;omega),Zwn,h0,OB]
   dsimp only [Zog]
   by_cases h1:s.State=1
   ·have h8:=hs.age
    have h6:wr (min s.Age 4611686018427387903+1)=min s.Age 4611686018427387903+1:=Zyn (by omega) (by omega)
    rw [DT h1,Bool.not_true,Zwn,h0,OB,h6,if_pos h1]
    have e:(⟨s.ID,s.Need,s.State,max s.Age (min s.Age 4611686018427387903+1)⟩:Sess)=Zlt s:=rfl
    rw [e]
    have es:(s::l).set (Int.toNat 0) (Zlt s)=Zlt s::l:=rfl
    rw [es]
    by_cases hh:(Zlt s).Age<hold
    ·rw [if_pos hh,show decide (max s.Age (min s.Age 4611686018427387903+1)<hold)=true from DT hh,Zvn]
    ·rw [if_neg hh,show decide (max s.Age (min s.Age 4611686018427387903+1)<hold)=false from DN hh,Zwn]
     have hd:=Zfp (Zlt s::l) 0 (by simp) (by rw [hb] at hl;simp at hl ⊢;omega)
     have hd:Z8b 0 1 (Zlt s::l)=some l:=hd
     rw [hd,OB]
   ·rw [DN h1,Bool.not_false,Zvn,if_neg h1,←hb]
theorem BkOK.tick {b:Book} (h:BkOK b) (hold:Int):BkOK (Zmt b hold).1:=by
 unfold Zmt
 cases hb:b.Sess with
 | nil=>exact h
 | cons s l=>
   dsimp only
   split
   ·rename_i h1
    split
    ·have hu:=h.up
     have hl:=h.len
     have ht:=h.tl
     have hs:=h.ok s (by rw [hb];simp)
     rw [hb] at hu hl ht
     refine ⟨h.last,hl,?_,fun t ht'=>?_,ht⟩
     ·rw [List.pairwise_cons] at hu ⊢;exact hu
     ·rcases List.mem_cons.1 ht' with rfl | ht'
      ·have:=hs.age
       exact {hs with age:=by show 0≤max s.Age _;omega,st:=.inl h1}
      ·exact h.ok t (by rw [hb];exact List.mem_cons_of_mem _ ht')
    ·exact h.sub (by rw [hb];exact List.sublist_cons_self _ _)
   ·exact h
def Znt (is:Bool) (c e:Int):Int:=if decide (e=0)&&!is then c else e
theorem s_need1 (is:Bool) (c a b d f:Int) (B:List Sess) (e:Int) (S:List Side) (N:List Int) (K:List KE) (T:List Int) (A:List KE):Zob is c a b d f B e S N K T A=some (decide (Znt is c e=0),Znt is c e):=by
 simp only [Zob,Znb,Zmb,Znt]
 by_cases h:e=0<;>cases is<;>simp [h,ifb]
theorem Zot (is:Bool) (c a b d f e:Int) (S:List Side) (N:List Int) (B:List Sess) (K:List KE) (T:List Int) (A:List KE):Z3c is c a b d f e S N B K T A=some (decide (Znt is c e=0),Znt is c e):=by
 simp only [Z3c,Z2c,Z1c,Znt]
 by_cases h:e=0<;>cases is<;>simp [h,ifb]
theorem s_need3 (c a b d f e:Int) (S:List Side) (N:List Int) (B:List Sess) (K:List KE) (T:List Int) (A:List KE):Z7c c a b d f e S N B K T A=some (decide (Znt false c e=0),Znt false c e):=by
 simp only [Z7c,Z6c,Z5c,Znt]
 by_cases h:e=0<;>simp [h,ifb]
theorem Zpt {c e:Int} (is:Bool) (h:e≠0):Znt is c e=e:=by unfold Znt;rw [DN h];rfl
theorem Zqt (c e:Int):Znt true c e=e:=by unfold Znt;simp
theorem Zrt (c:Int):Znt false c 0=c:=rfl
def Zst (S:List Side) (p:Int):Option Nat:=S.findIdx? fun x=>decide (x.Peer=p)
theorem s_place (x:node_node) (p:Int) (h:x.Node.DK.DI.SD.length≤1000000):Z9c x p=some (plc (Zst x.Node.DK.DI.SD p)):=by
 simp only [Z9c,Zno x.Node.DK.DI.SD (fun z=>Zj9 z p) (fun x=>decide (x.Peer=p)) (by omega) (fun _ _=>rfl),OB]
 rfl
theorem Ztt {S:List Side} {p:Int} {j:Nat} (h:Zst S p=some j):∃x,S[j]?=some x∧x.Peer=p:=by
 obtain ⟨hi,hq,_⟩:=List.findIdx?_eq_some_iff_getElem.1 h
 exact ⟨_,List.getElem?_eq_getElem hi,by simpa using hq⟩
theorem Zut {S:List Side} {p:Int} (h:Zst S p=none):∀x∈S,x.Peer≠p:=by
 unfold Zst at h
 rw [List.findIdx?_eq_none_iff] at h
 intro x hx;simpa using h x hx
theorem Zvt (d:DK) (h:DrOK d) (hN:d.Need.length≤1000000) (K A:List KE) (T:List Int) (V:List Event) (x:Int) (B:List Sess) (e:Int):
  Ztj d.DI.ID d.DI.PH d.TH x B e d.DI.SD d.Need K T A V=some (d.DI.ID,d.DI.PH,0,d.DI.SD,[]):=by
 simp only [Ztj,Zsj,s_drClose d ((Z9s d).2 h) hN,OB]
 by_cases h0:d.TH=0
 ·rw [if_pos h0,h.nz h0,h0];rfl
 ·rw [if_neg h0];rfl
theorem s_book (r:Book×Int) (b c d L:Int) (l:List Sess) (S:List Side) (N:List Int) (K:List KE) (T:List Int) (A:List KE):Zee r.1 r.2 b c d L l 0 S N K T A=some (if r.2=0 then (true,r.1.Last,r.1.Sess,0) else (false,L,l,r.2)):=by
 simp only [Zee,Zde,s_need1,OB]
 by_cases h:r.2=0
 ·rw [if_pos h,h];rfl
 ·rw [if_neg h,DN h,Zrt,DN h];rfl
theorem Zwt (k i a b c d:Int) (B:List Sess) (e:Int) (S:List Side) (N:List Int) (K:List KE) (T:List Int) (A:List KE):Zvb k i a b c d B e S N K T A=some [⟨k,a,i,0,[]⟩]:=by
 simp only [Zvb]
 rw [Z0o _ _ (by omega) (by simp),OB];rfl
theorem s_Live1 (n:Node) (hn:FewN n) (a b c d:Int) (N:List Int) (B:List Sess) (K:List KE) (T:List Int) (A:List KE):Zbe a b c d B n.DK.DI.SD N K T A=some (Zoq n Zpq):=by
 have hl:=hn.sides
 simp only [Zbe,Ztb]
 have:loop (Zsb n.DK.DI.SD fun z=>Z29 z) (0,([]:List Int))=some (Zoq n Zpq):=by
  refine Zco n.DK.DI.SD _ (fun pre=>((pre.length:Int),(pre.filter Zpq).map (·.Peer))) _ (fun pre x post h=>?_) ?_
  ·have hx:=Zdo h
   have hm:=Zeo h
   have hf:=List.length_filter_le Zpq pre
   dsimp only [Zsb]
   rw [Z1o hx,Zvn,Zzn hx,OB,show Z29 x=some (Zpq x) from rfl,OB]
   cases hq:Zpq x with
   | true=>
     rw [Zvn,Z0o _ _ (by omega) (by simp;omega),OB]
     dsimp only [Zrb]
     rw [Z3o (by omega),Zio]
     simp [hq]
   | false=>
     rw [Zwn]
     dsimp only [Zrb]
     rw [Z3o (by omega),Zio]
     simp [hq]
  ·dsimp only [Zsb]
   rw [Z2o,Zwn];rfl
 rw [this];rfl
def bookN (n:Node) (b:Book):Node:=⟨n.DK,b,n.KN,n.Told,n.AK⟩
def calmN (n:Node) (b:Book):Node:=⟨⟨n.DK.DI,0,[]⟩,b,n.KN,n.Told,n.AK⟩
def Zxt (n:Node) (a:Do):Int×Node×List Event:=
 if a.Kind=0 then
  (if (openP n.Book a.ID a.Need).2=0 then (if (a.Need.all fun z=>decide (z∈Zoq n Zpq))=true then (0,bookN n (openP n.Book a.ID a.Need).1,[⟨0,n.DK.DI.ID,a.ID,0,Zxo a.Need⟩]) else (181,n,[])) else ((openP n.Book a.ID a.Need).2,n,[]))
 else if a.Kind=1 then
  (if (endP n.Book a.ID 1).2=0 then (0,calmN n (endP n.Book a.ID 1).1,[⟨2,n.DK.DI.ID,a.ID,0,[]⟩]) else ((endP n.Book a.ID 1).2,n,[]))
 else if a.Kind=2 then
  (if (endP n.Book a.ID 0).2=0 then (0,if (Z5s n).1.ID=a.ID∧n.DK.TH=1 then calmN n (endP n.Book a.ID 0).1 else bookN n (endP n.Book a.ID 0).1,[⟨3,n.DK.DI.ID,a.ID,0,[]⟩]) else ((endP n.Book a.ID 0).2,n,[]))
 else if a.Kind=3 then
  (if (Zmt n.Book a.Hold).2=0 then (0,bookN n (Zmt n.Book a.Hold).1,[]) else (0,calmN n (Zmt n.Book a.Hold).1,[⟨4,n.DK.DI.ID,(Zmt n.Book a.Hold).2,0,[]⟩]))
 else (0,n,[])
def tupA (e:Int) (m:Node) (V:List Event):Int×Int×Int×Int×List Sess×Int×List Event×List Side×List Int:=
 (m.DK.DI.ID,m.DK.DI.PH,m.DK.TH,m.Book.Last,m.Book.Sess,e,V,m.DK.DI.SD,m.DK.Need)
theorem s_first1 (n:Node) (a b c d:Int) (S:List Side) (N:List Int) (K:List KE) (T:List Int) (A:List KE):Zzb a b c d S N n.Book.Sess K T A=some (Z5s n):=by
 simp only [Zzb,ln_eq]
 unfold Z5s
 cases h:n.Book.Sess with
 | nil=>rfl
 | cons s l=>rw [DN (by simp;omega),Zwn];rfl
theorem s_first2 (n:Node) (a b c d:Int) (S:List Side) (N:List Int) (K:List KE) (T:List Int) (A:List KE):Zdc a b c d n.Book.Sess S N K T A=some (Z5s n):=by
 simp only [Zdc,ln_eq]
 unfold Z5s
 cases h:n.Book.Sess with
 | nil=>rfl
 | cons s l=>rw [DN (by simp;omega),Zwn];rfl
theorem s_sessions (n:Node) (a:Do) (h:OkN n) (ha:a.Need.length≤1000):
  Z6k a n.DK.DI.ID n.DK.DI.PH n.DK.TH n.Book.Last 0 n.DK.DI.SD n.DK.Need n.Book.Sess n.KN n.Told n.AK=some (tupA (Zxt n a).1 (Zxt n a).2.1 (Zxt n a).2.2):=by
 have hf:=h.few
 have hb:=hf.bk
 have hN:=hf.need
 have hS:=hf.sides
 have hp:=Zxq n Zpq
 have h6:∀(x:Int) (B:List Sess) (e:Int) (K A:List KE) (T:List Int) (V:List Event),Ztj n.DK.DI.ID n.DK.DI.PH n.DK.TH x B e n.DK.DI.SD n.DK.Need K T A V=some (n.DK.DI.ID,n.DK.DI.PH,0,n.DK.DI.SD,[]):=fun x B e K A T V=>Zvt n.DK h.dr (by omega) K A T V x B e
 unfold Z6k Zxt
 have eb:(⟨n.Book.Last,n.Book.Sess⟩:Book)=n.Book:=rfl
 rw [eb]
 by_cases k0:a.Kind=0
 ·rw [DT k0,Zvn,if_pos k0,s_Open n.Book a.ID a.Need hb (by omega),OB]
  dsimp only [Z2k]
  rw [s_need1,OB]
  by_cases e0:(openP n.Book a.ID a.Need).2=0
  ·rw [if_pos e0,e0,DT rfl,Zqt]
   dsimp only
   rw [DT rfl,Zvn,s_Live1 n hf,OB,s_Within a.Need (Zoq n Zpq) (by omega) (by omega),OB,s_need1,OB]
   dsimp only [Z1k]
   cases hw:(a.Need.all fun z=>decide (z∈Zoq n Zpq)) with
   | true=>
     rw [Zqt,DT rfl,Zvn,s_setL a.Need (by omega),OB,Z0o _ _ (by omega) (by simp),OB]
     rfl
   | false=>rfl
  ·rw [if_neg e0,DN e0,Zrt]
   dsimp only
   rw [DN e0,Zwn]
   rfl
 ·rw [DN k0,Zwn,if_neg k0]
  by_cases k1:a.Kind=1
  ·rw [DT k1,Zvn,if_pos k1,s_Release n.Book a.ID hb,OB,s_book,OB]
   by_cases e0:(endP n.Book a.ID 1).2=0
   ·rw [if_pos e0,if_pos e0]
    dsimp only
    rw [Zvn,Zwt,OB,h6,OB]
    rfl
   ·rw [if_neg e0,if_neg e0]
    rfl
  ·rw [DN k1,Zwn,if_neg k1]
   by_cases k2:a.Kind=2
   ·rw [DT k2,Zvn,if_pos k2,s_first1 n,OB,s_Cancel n.Book a.ID hb,OB,s_book,OB]
    by_cases e0:(endP n.Book a.ID 0).2=0
    ·rw [if_pos e0,if_pos e0]
     dsimp only
     rw [Zvn,Zwt,OB]
     dsimp only [Z3k]
     rw [h6,OB]
     by_cases c1:(Z5s n).1.ID=a.ID
     ·rw [DT c1]
      by_cases c2:n.DK.TH=1
      ·rw [DT c2,if_pos ⟨c1,c2⟩];rfl
      ·rw [DN c2,if_neg fun c=>c2 c.2];rfl
     ·rw [DN c1,if_neg fun c=>c1 c.1];rfl
    ·rw [if_neg e0,if_neg e0]
     rfl
   ·rw [DN k2,Zwn,if_neg k2]
    by_cases k3:a.Kind=3
    ·rw [DT k3,Zvn,if_pos k3,s_Tick n.Book a.Hold h.bk,OB]
     dsimp only [Z5k,Z4k]
     have:=s_book ((Zmt n.Book a.Hold).1,0) n.DK.DI.ID n.DK.DI.PH n.DK.TH n.Book.Last n.Book.Sess n.DK.DI.SD n.DK.Need n.KN n.Told n.AK
     dsimp only at this
     rw [this,OB,if_pos rfl]
     dsimp only
     rw [Zvn]
     by_cases e0:(Zmt n.Book a.Hold).2=0
     ·rw [if_pos e0,DT e0];rfl
     ·rw [if_neg e0,DN e0,Bool.not_false,Zvn,Zwt,OB,h6,OB];rfl
    ·rw [DN k3,Zwn,if_neg k3];rfl
theorem Zyt {α:Type} {S:List α} {j:Nat} {x:α} (h:S[j]?=some x) (y:α):S=S.take j++x::S.drop (j+1)∧S.set j y=S.take j++y::S.drop (j+1):=by
 obtain ⟨hj,hx⟩:=List.getElem?_eq_some_iff.1 h
 have e1:S=S.take j++x::S.drop (j+1):=by rw [←hx];simp
 refine ⟨e1,?_⟩
 have hl:(S.take j).length=j:=by simp;omega
 conv=>lhs;rw [e1]
 rw [List.set_append_right _ _ (by omega),hl,Nat.sub_self];rfl
theorem Zzt {S:List Side} (hu:S.Pairwise fun x y=>x.Peer<y.Peer) {j:Nat} {x:Side} (h:S[j]?=some x) (y:Side) {z:Side}:z∈S.set j y↔z=y∨z∈S∧z.Peer≠x.Peer:=by
 obtain ⟨e1,e2⟩:=Zyt h y
 have hu':=hu
 rw [e1,List.pairwise_append,List.pairwise_cons] at hu'
 obtain ⟨_,⟨u2,_⟩,u3⟩:=hu'
 rw [e2,List.mem_append,List.mem_cons]
 constructor
 ·rintro (hz | hz | hz)
  ·have:=u3 z hz x (by simp)
   exact .inr ⟨by rw [e1];simp [hz],by omega⟩
  ·exact .inl hz
  ·have:=u2 z hz
   exact .inr ⟨by rw [e1];simp [hz],by omega⟩
 ·rintro (hz | ⟨hz,hn⟩)
  ·exact .inr (.inl hz)
  ·rw [e1,List.mem_append,List.mem_cons] at hz
   rcases hz with hz | hz | hz
   ·exact .inl hz
   ·rw [hz] at hn;exact absurd rfl hn
   ·exact .inr (.inr hz)
theorem set_peers {S:List Side} {j:Nat} {x y:Side} (h:S[j]?=some x) (hp:y.Peer=x.Peer):(S.set j y).map (·.Peer)=S.map (·.Peer):=by
 obtain ⟨e1,e2⟩:=Zyt h y
 rw [e2]
 conv=>rhs;rw [e1]
 simp [hp]
theorem DrOK.state {d:DK} (h:DrOK d) {j:Nat} {x:Side} (hx:d.DI.SD[j]?=some x) {s:Int} (hs:0≤s∧s≤3):DrOK ⟨⟨d.DI.ID,d.DI.PH,d.DI.SD.set j {x with State:=s}⟩,d.TH,d.Need⟩:=by
 have h6:=h.din.up
 have hm:=fun {z:Side}=>Zzt (z:=z) h6 hx {x with State:=s}
 have h8:=List.mem_of_getElem? hx
 refine ⟨⟨h.din.id0,h.din.p0,h.din.p2,by rw [List.length_set];exact h.din.len,pw_peers (set_peers hx rfl) h6,fun z hz=>?_⟩,h.t0,h.t2,h.up,h.nz,fun p hp=>?_⟩
 ·rcases hm.1 hz with rfl | ⟨hz,_⟩
  ·have:=h.din.side x h8
   exact ⟨this.lo,this.ne,this.e0,this.e1,hs.1,hs.2,this.df⟩
  ·exact h.din.side z hz
 ·obtain ⟨y,hy,e⟩:=h.has p hp
  by_cases hq:y.Peer=x.Peer
  ·exact ⟨_,hm.2 (.inl rfl),by show x.Peer=p;omega⟩
  ·exact ⟨y,hm.2 (.inr ⟨hy,hq⟩),e⟩
def shutC (n:Node) (p:Int):Bool:=(Z5s n).2&&(decide (n.DK.TH=1)&&decide ((Z5s n).1.ID∈Zit p n.Book.Sess))
def shutB (n:Node) (p:Int):Book:=⟨n.Book.Last,n.Book.Sess.filter fun s=>!Zht p s⟩
def shutD (n:Node) (j:Nat) (x:Side):DI:=⟨n.DK.DI.ID,n.DK.DI.PH,n.DK.DI.SD.set j {x with State:=2}⟩
def Z0u (n:Node) (j:Nat) (x:Side):Node:=⟨if shutC n x.Peer then ⟨shutD n j x,0,[]⟩ else ⟨shutD n j x,n.DK.TH,n.DK.Need⟩,shutB n x.Peer,n.KN,n.Told,n.AK⟩
def Z1u (id:Int) (l:List Int):List Event:=l.map fun i=>⟨5,id,i,0,[]⟩
def Z2u (n:Node) (p:Int):List Event:=⟨7,n.DK.DI.ID,0,p,[]⟩::Z1u n.DK.DI.ID (Zit p n.Book.Sess)
theorem s_shut (n:Node) (h:OkN n) (p:Int) (j:Nat) (x:Side) (hp:Zst n.DK.DI.SD p=some j) (hx:n.DK.DI.SD[j]?=some x) (h8:x.Peer=p) (e:Int):
  Zdk p n.DK.DI.ID n.DK.DI.PH n.DK.TH n.Book.Last e n.DK.DI.SD n.DK.Need n.Book.Sess n.KN n.Told n.AK =
   some ((Z0u n j x).DK.DI.ID,(Z0u n j x).DK.DI.PH,(Z0u n j x).DK.TH,(Z0u n j x).Book.Last,(Z0u n j x).Book.Sess,Z2u n p,(Z0u n j x).DK.DI.SD,(Z0u n j x).DK.Need):=by
 subst h8
 have hf:=h.few
 have hS:=hf.sides
 have hN:=hf.need
 have hB:=hf.book
 have hg:=Zkt x.Peer n.Book.Sess
 have h9:=h.dr.state hx (s:=2) (by omega)
 unfold Zdk
 rw [s_place _ _ (show _≤_ by dsimp only;omega),OB]
 dsimp only
 rw [hp]
 dsimp only [plc]
 rw [Zzn hx,OB,Int.toNat_natCast]
 have hc:(⟨x.Peer,x.Epoch,2,x.Fork,x.DY,x.Token,x.BO,x.Ask⟩:Side)={x with State:=2}:=rfl
 rw [hc]
 dsimp only [Zck]
 have h6:∀(S:List Side),Zbc 7 x.Peer n.DK.DI.ID n.DK.DI.PH n.DK.TH n.Book.Last e S n.DK.Need n.Book.Sess n.KN n.Told n.AK=some [⟨7,n.DK.DI.ID,0,x.Peer,[]⟩]:=fun S=>by
  simp only [Zbc]
  rw [Z0o _ _ (by omega) (by simp),OB];rfl
 rw [h6,OB,show (⟨n.Book.Last,n.Book.Sess⟩:Book)=n.Book from rfl,s_sessGone n.Book x.Peer h.bk,OB,s_first2 n,OB]
 have j3:∀(d:DK),d.DI.ID=n.DK.DI.ID→Zak e n.KN n.Told n.AK [⟨7,n.DK.DI.ID,0,x.Peer,[]⟩] (⟨n.Book.Last,n.Book.Sess.filter fun s=>!Zht x.Peer s⟩,Zit x.Peer n.Book.Sess,0) (d.DI.ID,d.DI.PH,d.TH,d.DI.SD,d.Need) =
   some (d.DI.ID,d.DI.PH,d.TH,(shutB n x.Peer).Last,(shutB n x.Peer).Sess,Z2u n x.Peer,d.DI.SD,d.Need):=fun d hd=>by
  dsimp only [Zak]
  refine Zco (Zit x.Peer n.Book.Sess) _ (fun pre=>((pre.length:Int),⟨7,n.DK.DI.ID,0,x.Peer,[]⟩::Z1u n.DK.DI.ID pre)) _ (fun pre y post h0=>?_) ?_
  ·have hy:=Zdo h0
   have hm:=Zeo h0
   have hn:(Z1u n.DK.DI.ID pre).length=pre.length:=by unfold Z1u;rw [List.length_map]
   dsimp only [Z9k,Zfc]
   rw [Z1o hy,Zvn,Zzn hy,OB,Z0o _ _ (by omega) (by simp;omega),OB,OB,Z3o (by omega),Zio,hd]
   simp [Z1u]
  ·dsimp only [Z9k,Z8k]
   rw [Z2o,Zwn];rfl
 have he:∀(x':Int) (B:List Sess) (e:Int) (K A:List KE) (T:List Int) (V:List Event),Ztj n.DK.DI.ID n.DK.DI.PH n.DK.TH x' B e (n.DK.DI.SD.set j {x with State:=2}) n.DK.Need K T A V=some (n.DK.DI.ID,n.DK.DI.PH,0,n.DK.DI.SD.set j {x with State:=2},[]):=fun x' B e K A T V=>Zvt _ h9 (by show n.DK.Need.length≤_;omega) K A T V x' B e
 have j2:∀z,z=shutC n x.Peer→Zbk n.DK.DI.ID n.DK.DI.PH n.DK.TH n.Book.Last e n.DK.Need n.Book.Sess n.KN n.Told n.AK (n.DK.DI.SD.set j {x with State:=2}) [⟨7,n.DK.DI.ID,0,x.Peer,[]⟩] (⟨n.Book.Last,n.Book.Sess.filter fun s=>!Zht x.Peer s⟩,Zit x.Peer n.Book.Sess,0) z=some ((Z0u n j x).DK.DI.ID,(Z0u n j x).DK.DI.PH,(Z0u n j x).DK.TH,(Z0u n j x).Book.Last,(Z0u n j x).Book.Sess,Z2u n x.Peer,(Z0u n j x).DK.DI.SD,(Z0u n j x).DK.Need):=fun z hz=>by
  dsimp only [Zbk]
  cases z with
  | true=>
    rw [Zvn,he,OB]
    have:=j3 ⟨shutD n j x,0,[]⟩ rfl
    refine Eq.trans this ?_
    unfold Z0u
    rw [←hz];rfl
  | false=>
    rw [Zwn]
    have:=j3 ⟨shutD n j x,n.DK.TH,n.DK.Need⟩ rfl
    refine Eq.trans this ?_
    unfold Z0u
    rw [←hz];rfl
 unfold shutC at j2
 cases h1:(Z5s n).2 with
 | false=>
   rw [Zwn]
   exact j2 false (by rw [h1];rfl)
 | true=>
   rw [Zvn]
   by_cases h2:n.DK.TH=1
   ·rw [DT h2,Zvn,Zzo _ _ (by dsimp only;omega),OB]
    exact j2 _ (by rw [h1,DT h2];rfl)
   ·rw [DN h2,Zwn]
    exact j2 false (by rw [h1,DN h2];rfl)
theorem Z3u {n:Node} {s:Sess} {l:List Sess} (h:n.Book.Sess=s::l):Z5s n=(s,true):=by unfold Z5s;rw [h]
theorem OkN.shut {n:Node} (h:OkN n) {j:Nat} {x:Side} (hx:n.DK.DI.SD[j]?=some x) (h0:x.State=0):OkN (Z0u n j x):=by
 have ho:=(Zcs _).1 h.bk
 have h9:=List.mem_of_getElem? hx
 have hw:=h.dr.state hx (s:=2) (by omega)
 have hm:∀ {z:Side},z∈(shutD n j x).SD↔z={x with State:=2}∨z∈n.DK.DI.SD∧z.Peer≠x.Peer:=fun {z}=>Zzt (z:=z) h.rowS.up hx {x with State:=2}
 have h6:(Z0u n j x).DK.DI=shutD n j x:=by unfold Z0u;dsimp only;split<;>rfl
 have hf:∀p∈(Z0u n j x).DK.Need,p∈n.DK.Need:=by
  unfold Z0u;dsimp only;split
  ·intro p hp;simp at hp
  ·exact fun p hp=>hp
 have hC:∀s∈n.Book.Sess,s.State=1→Zht x.Peer s=false:=fun s _ e=>by unfold Zht;rw [DN (by omega)];rfl
 refine ⟨?_,(Zcs _).2 (ho.sub List.filter_sublist),fun k hk=>?_,h.dis,?_,h.kup,h.kr,fun z hz=>?_,h.told,fun p hp=>?_,?_,?_,fun z hz hn=>?_,fun s hs hd p hp=>?_⟩
 ·unfold Z0u;dsimp only;split
  ·exact ⟨hw.din,by show (0:Int)≤0;omega,by show (0:Int)≤2;omega,.nil,fun _=>rfl,by simp⟩
  ·exact hw
 ·have:=h.may k hk
  rw [h6]
  exact ⟨fun z hz=>by
   rcases hm.1 hz with rfl | ⟨hz,_⟩
   ·exact this.1 x h9
   ·exact this.1 z hz,this.2⟩
 ·rw [h6];exact h.id
 ·rw [h6] at hz ⊢
  rcases hm.1 hz with rfl | ⟨hz,_⟩
  ·have:=h.sd x h9
   exact ⟨this.1,this.2.1,this.2.2.1,fun e=>by have e:(2:Int)=1∨(2:Int)=3:=e;omega⟩
  ·exact h.sd z hz
 ·obtain ⟨z,hz,e1,e⟩:=h.tin p hp
  rw [h6]
  refine ⟨z,hm.2 (.inr ⟨hz,fun q=>?_⟩),e1,e⟩
  have:=up_eq h.rowS.up hz h9 q
  subst this;omega
 ·rw [Zos]
  constructor
  ·intro e
   have h2:n.DK.TH=2:=by
    unfold Z0u at e;dsimp only at e;split at e
    ·have e:(0:Int)=2:=e
     omega
    ·exact e
   obtain ⟨s,l,hb,h8,_⟩:=h.drinks h2
   refine ⟨s,l.filter fun s=>!Zht x.Peer s,?_,h8⟩
   show (n.Book.Sess.filter _)=_
   rw [hb,List.filter_cons,hC s (by rw [hb];simp) h8];simp
  ·rintro ⟨s,l,hb,h8⟩
   have hb:n.Book.Sess.filter (fun s=>!Zht x.Peer s)=s::l:=hb
   have hsm:s∈n.Book.Sess:=(List.mem_filter.1 (by rw [hb];simp)).1
   cases hB:n.Book.Sess with
   | nil=>rw [hB] at hsm;simp at hsm
   | cons t r=>
     have hA:=ho.tl
     rw [hB] at hA hsm
     rcases List.mem_cons.1 hsm with rfl | hsm
     ·have h2:=h.th.2 ((Zos n).2 ⟨s,r,hB,h8⟩)
      unfold Z0u shutC;dsimp only
      rw [DN (show ¬n.DK.TH=1 by omega)]
      simp [h2]
     ·have:=hA s hsm;omega
 ·cases hc:shutC n x.Peer with
  | true=>left;unfold Z0u;dsimp only;rw [hc];rfl
  | false=>
    rcases h.hq with q | q
    ·left;unfold Z0u;dsimp only;rw [hc];exact q
    ·by_cases hz:n.DK.TH=0
     ·left;unfold Z0u;dsimp only;rw [hc];exact hz
     ·right
      obtain ⟨s,l,hb,hn⟩:=(Zns n).1 q
      have hsm:s∈n.Book.Sess:=by rw [hb];simp
      have hg:Zht x.Peer s=false:=by
       cases hg:Zht x.Peer s with
       | false=>rfl
       | true=>
         exfalso
         have hd:s.State=0:=by unfold Zht at hg;rw [Bool.and_eq_true,decide_eq_true_eq] at hg;exact hg.1
         have ht:n.DK.TH=1:=by
          have:=h.dr.t0
          have:=h.dr.t2
          by_cases e2:n.DK.TH=2
          ·obtain ⟨s',l',hb',hs',_⟩:=h.drinks e2
           rw [hb] at hb';simp only [List.cons.injEq] at hb'
           rw [←hb'.1] at hs';omega
          ·omega
         unfold shutC at hc
         rw [Z3u hb,DT ht,DT (show (s,true).1.ID∈Zit x.Peer n.Book.Sess from List.mem_map.2 ⟨s,List.mem_filter.2 ⟨hsm,hg⟩,rfl⟩)] at hc
         simp at hc
      rw [Zns]
      refine ⟨s,l.filter fun s=>!Zht x.Peer s,?_,?_⟩
      ·show (n.Book.Sess.filter _)=_
       rw [hb,List.filter_cons,hg];simp
      ·unfold Z0u;dsimp only;rw [hc];exact hn
 ·rw [h6] at hz
  rcases hm.1 hz with rfl | ⟨hz,_⟩
  ·show (2:Int)≠3;omega
  ·exact h.nl z hz (hf _ hn)
 ·have hs:s∈n.Book.Sess.filter fun s=>!Zht x.Peer s:=hs
  obtain ⟨h8,he⟩:=List.mem_filter.1 hs
  obtain ⟨y,hy,e0,e⟩:=h.wt s h8 hd p hp
  rw [h6]
  refine ⟨y,hm.2 (.inr ⟨hy,fun q=>?_⟩),e0,e⟩
  unfold Zht at he
  rw [DT hd,DT (show x.Peer∈s.Need by rw [←q,e];exact hp)] at he
  simp at he
def Z4u:Node:=⟨⟨⟨0,0,[]⟩,0,[]⟩,⟨0,[]⟩,[],[],[]⟩
def Z5u (e:Int) (m:Node) (V:List Event):Node×List Mail×List Event×Int:=
 if e=0 then ((Z6t m [] V).1,(Z6t m [] V).2.1,(Z6t m [] V).2.2,0) else (Z4u,[],[],e)
def addS (n:Node) (p:Int):Side:=⟨p,Zsq n.KN p+1,1,true,true,false,true,false⟩
def Z6u (n:Node) (a:Do):Int×Node×List Event:=
 if a.Kind=0∨a.Kind=1∨a.Kind=2∨a.Kind=3 then Zxt n a
 else if a.Kind=4 then
  (if n.DK.DI.ID<a.Peer∧a.Peer<64 then (match Zst n.DK.DI.SD a.Peer with
    | some _=>(183,n,[])
    | none=>if Zsq n.KN a.Peer<65535 then (0,putN n (addS n a.Peer) n.AK,[]) else (186,n,[])) else (182,n,[]))
 else if a.Kind=5 then
  (if n.DK.DI.ID<a.Peer∧a.Peer<64 then (match Zst n.DK.DI.SD a.Peer with
    | none=>(184,n,[])
    | some j=>match n.DK.DI.SD[j]? with
      | none=>(184,n,[])
      | some x=>if x.State=0 then (0,Z0u n j x,Z2u n a.Peer) else (185,n,[])) else (182,n,[]))
 else (188,n,[])
theorem Z7u (m:Node) (V:List Event) (e:Int) (x3:List Side×List Int×List KE×List Int×List KE×List Sess) (hT:x3.2.2.2.1=m.Told) (hA:x3.2.2.2.2.1=m.AK) (h:e=0→OkN m) (hV:V.length≤100000):
  Zal x3 (m.DK.DI.ID,m.DK.DI.PH,m.DK.TH,m.Book.Last,m.Book.Sess,e,m.DK.DI.SD,m.DK.Need,m.KN,V)=some (Z5u e m V):=by
 dsimp only [Zal]
 rw [hT,hA]
 unfold Z5u
 by_cases he:e=0
 ·subst he
  rw [Zat m (h rfl) V hV,OB,if_pos rfl]
  rfl
 ·rw [Zbt _ _ _ _ e _ he,OB,if_neg he]
  rfl
theorem OkN.book {n:Node} (h:OkN n) {b:Book} (hb:BkOK b) (hg:n.DK.TH=2↔∃s l,b.Sess=s::l∧s.State=1) (hq:n.DK.TH=0∨∃s l,b.Sess=s::l∧s.Need=n.DK.Need)
  (hw:∀s∈b.Sess,s.State=0→∀p∈s.Need,∃x∈n.DK.DI.SD,x.State=0∧x.Peer=p):OkN (bookN n b):=
 {h with bk:=(Zcs _).2 hb,th:=by rw [Zos];exact hg,hq:=by rw [Zns];exact hq,wt:=hw}
theorem OkN.calm {n:Node} (h:OkN n) {b:Book} (hb:BkOK b) (h0:∀s∈b.Sess,s.State=0) (hw:∀s∈b.Sess,s.State=0→∀p∈s.Need,∃x∈n.DK.DI.SD,x.State=0∧x.Peer=p):OkN (calmN n b):=
 {h with
  dr:=⟨h.dr.din,by show (0:Int)≤0;omega,by show (0:Int)≤2;omega,.nil,fun _=>rfl,fun p hp=>by have:p∈([]:List Int):=hp;simp at this⟩
  bk:=(Zcs _).2 hb
  th:=by
   rw [Zos]
   constructor
   ·intro e;have:(0:Int)=2:=e;omega
   ·rintro ⟨s,l,e,hs⟩
    have e:b.Sess=s::l:=e
    have:=h0 s (by rw [e];simp)
    omega
  hq:=.inl rfl
  nl:=fun x _ hx=>by have:x.Peer∈([]:List Int):=hx;simp at this
  wt:=hw}
theorem endP_ok {b:Book} {id w:Int} (h:(endP b id w).2=0):∃i s,b.Sess[i]?=some s∧s.ID=id∧s.State=w∧(endP b id w).1=⟨b.Last,b.Sess.take i++b.Sess.drop (i+1)⟩:=by
 unfold endP at h ⊢
 split at h
 ·rename_i hk
  rw [if_pos hk]
  cases hf:Zep b id with
  | none=>rw [hf] at h;simp at h
  | some i=>
    obtain ⟨s,hs,h6⟩:=findB_lt hf
    rw [hf] at h
    dsimp only at h ⊢
    rw [hs] at h
    dsimp only at h
    rw [hs]
    split at h
    ·rename_i hw;exact ⟨i,s,hs,h6,hw,by dsimp only;rw [if_pos hw]⟩
    ·simp at h
 ·simp at h
theorem cut_mem {α:Type} {l:List α} {i:Nat} {x:α} (h:x∈l.take i++l.drop (i+1)):x∈l:=(cut_sub l i).subset h
structure EvOK (id:Int) (v:Event):Prop where
 node:v.Node=id
 edge:6≤v.Kind→v.ID=0
 sess:v.Kind<6→v.Peer=0
 need:v.Kind≠0→v.Need=[]
theorem sessN_ok {n:Node} {a:Do} (h:OkN n) (he:(Zxt n a).1=0):OkN (Zxt n a).2.1∧(Zxt n a).2.1.DK.DI=n.DK.DI∧(Zxt n a).2.1.Told=n.Told∧(Zxt n a).2.1.AK=n.AK∧(Zxt n a).2.1.KN=n.KN∧(∀v∈(Zxt n a).2.2,EvOK n.DK.DI.ID v∧v.Kind≠1)∧(Zxt n a).2.2.length≤1:=by
 have h6:=(Zcs _).1 h.bk
 have hf:n.DK.TH≠2→∀s∈n.Book.Sess,s.State=0:=fun h2 s hs=>by
  cases hb:n.Book.Sess with
  | nil=>rw [hb] at hs;simp at hs
  | cons t r=>
    have h8:=h6.tl
    rw [hb] at h8 hs
    rcases List.mem_cons.1 hs with rfl | hs
    ·rcases head_or h6 hb with e | e
     ·exact absurd (h.th.2 ((Zos n).2 ⟨s,r,hb,e⟩)) h2
     ·exact e
    ·exact h8 s hs
 revert he
 unfold Zxt
 split
 ·split
  ·rename_i k0 e0
   split
   ·rename_i hw
    intro _
    refine ⟨?_,rfl,rfl,rfl,rfl,?_,by simp⟩
    ·have hC:n.Book.Last<a.ID∧Z6p (Zxo a.Need)=true∧n.Book.Sess.length≠8∧openP n.Book a.ID a.Need=(⟨a.ID,n.Book.Sess++[⟨a.ID,Zxo a.Need,0,0⟩]⟩,0):=by
      unfold openP at e0 ⊢
      rw [if_pos h.bk] at e0 ⊢
      by_cases c1:a.ID≤n.Book.Last
      ·rw [if_pos c1] at e0;simp at e0
      ·rw [if_neg c1] at e0 ⊢
       cases c2:Z6p (Zxo a.Need) with
       | false=>rw [c2] at e0;simp at e0
       | true=>
         rw [c2,if_pos rfl] at e0
         rw [if_pos rfl]
         by_cases c3:n.Book.Sess.length=8
         ·rw [if_pos c3] at e0;simp at e0
         ·rw [if_neg c3];exact ⟨by omega,rfl,c3,rfl⟩
     obtain ⟨o1,o2,o3,o4⟩:=hC
     have ho:=Z2p a.Need
     have hI:=h6.last
     have hJ:=h6.len
     rw [o4]
     refine h.book ⟨by show 0≤a.ID;omega,by show (n.Book.Sess++[_]).length≤8;rw [Zio];omega,?_,fun s hs=>?_,fun s hs=>?_⟩ ?_ ?_ fun s hs hD p hp=>?_
     ·show (n.Book.Sess++[_]).Pairwise _
      rw [List.pairwise_append]
      refine ⟨h6.up,by simp,fun s hs t ht=>?_⟩
      simp at ht;subst ht
      have:=(h6.ok s hs).hi
      show s.ID<a.ID;omega
     ·have hs:s∈n.Book.Sess++[⟨a.ID,Zxo a.Need,0,0⟩]:=hs
      rcases List.mem_append.1 hs with hs | hs
      ·have:=h6.ok s hs
       exact {this with hi:=by have:=this.hi;show s.ID≤a.ID;omega}
      ·simp at hs;subst hs
       exact ⟨by show 0<a.ID;omega,by show a.ID≤a.ID;omega,o2,ho.1,by show (0:Int)≤0;omega,.inr ⟨rfl,rfl⟩⟩
     ·have hs:s∈(n.Book.Sess++[(⟨a.ID,Zxo a.Need,0,0⟩:Sess)]).tail:=hs
      cases hb:n.Book.Sess with
      | nil=>rw [hb] at hs;simp at hs
      | cons t r=>
        have h8:=h6.tl
        rw [hb] at h8 hs
        have hs:s∈r++[⟨a.ID,Zxo a.Need,0,0⟩]:=hs
        rcases List.mem_append.1 hs with hs | hs
        ·exact h8 s hs
        ·simp at hs;subst hs;rfl
     ·rw [h.th,Zos]
      show (∃s l,n.Book.Sess=s::l∧s.State=1)↔∃s l,n.Book.Sess++[⟨a.ID,Zxo a.Need,0,0⟩]=s::l∧s.State=1
      cases hb:n.Book.Sess with
      | nil=>simp
      | cons t r=>simp
     ·rcases h.hq with q | q
      ·exact .inl q
      ·right
       obtain ⟨s,l,hb,hn⟩:=(Zns n).1 q
       exact ⟨s,l++[⟨a.ID,Zxo a.Need,0,0⟩],by show n.Book.Sess++_=_;rw [hb];rfl,hn⟩
     ·have hs:s∈n.Book.Sess++[⟨a.ID,Zxo a.Need,0,0⟩]:=hs
      rcases List.mem_append.1 hs with hs | hs
      ·exact h.wt s hs hD p hp
      ·simp at hs;subst hs
       have:=List.all_eq_true.1 hw p ((ho.2 p).1 hp)
       rw [decide_eq_true_eq,Zas] at this
       obtain ⟨x,hx,hl,e⟩:=this
       exact ⟨x,hx,by simpa [Zpq] using hl,e⟩
    ·intro v hv;simp at hv;subst hv
     exact ⟨⟨rfl,fun q=>by have q:(6:Int)≤0:=q;omega,fun _=>rfl,fun q=>absurd rfl q⟩,by show (0:Int)≠1;omega⟩
   ·intro he;simp at he
  ·rename_i e0;exact fun he=>absurd he e0
 ·split
  ·split
   ·rename_i e0
    intro _
    obtain ⟨i,s,hs,hA,hE,eb⟩:=endP_ok e0
    refine ⟨?_,rfl,rfl,rfl,rfl,?_,by simp⟩
    ·rw [eb]
     have hz:∀t∈n.Book.Sess.take i++n.Book.Sess.drop (i+1),t.State=0:=by
      intro t ht
      cases hb:n.Book.Sess with
      | nil=>rw [hb] at hs;simp at hs
      | cons u r=>
        have h8:=h6.tl
        rw [hb] at h8 hs ht
        cases i with
        | zero=>exact h8 t (by simpa using ht)
        | succ i=>
          have:s∈r:=List.mem_of_getElem? (by simpa using hs)
          have:=h8 s this
          omega
     exact h.calm (h6.sub (cut_sub _ _)) hz fun t ht h0 p hp=>h.wt t (cut_mem ht) h0 p hp
    ·intro v hv;simp at hv;subst hv
     exact ⟨⟨rfl,fun q=>by have q:(6:Int)≤2:=q;omega,fun _=>rfl,fun _=>rfl⟩,by show (2:Int)≠1;omega⟩
   ·rename_i e0;exact fun he=>absurd he e0
  ·split
   ·split
    ·rename_i e0
     intro _
     obtain ⟨i,s,hs,hA,hE,eb⟩:=endP_ok e0
     have hB:∀v∈ [(⟨3,n.DK.DI.ID,a.ID,0,[]⟩:Event)],EvOK n.DK.DI.ID v∧v.Kind≠1:=fun v hv=>by
      simp at hv;subst hv
      exact ⟨⟨rfl,fun q=>by have q:(6:Int)≤3:=q;omega,fun _=>rfl,fun _=>rfl⟩,by show (3:Int)≠1;omega⟩
     have hw:∀t∈n.Book.Sess.take i++n.Book.Sess.drop (i+1),t.State=0→∀p∈t.Need,∃x∈n.DK.DI.SD,x.State=0∧x.Peer=p:=fun t ht h0 p hp=>h.wt t (cut_mem ht) h0 p hp
     split
     ·rename_i hc
      refine ⟨?_,rfl,rfl,rfl,rfl,hB,by simp⟩
      rw [eb]
      exact h.calm (h6.sub (cut_sub _ _)) (fun t ht=>hf (by omega) t (cut_mem ht)) hw
     ·rename_i hc
      refine ⟨?_,rfl,rfl,rfl,rfl,hB,by simp⟩
      rw [eb]
      have hd:n.DK.TH≠0→∃t r,n.Book.Sess=t::r∧t.Need=n.DK.Need∧∃r',n.Book.Sess.take i++n.Book.Sess.drop (i+1)=t::r':=fun hz=>by
       obtain ⟨t,r,hb,hn⟩:=(Zns n).1 (by rcases h.hq with q | q;exact absurd q hz;exact q)
       refine ⟨t,r,hb,hn,?_⟩
       cases i with
       | succ i=>rw [hb];exact ⟨_,rfl⟩
       | zero=>
         exfalso
         rw [hb] at hs
         simp at hs;subst hs
         have h0:=h.dr.t0
         have h2:=h.dr.t2
         by_cases e1:n.DK.TH=1
         ·exact hc ⟨by rw [Z3u hb];exact hA,e1⟩
         ·obtain ⟨t',r',hb',hs',_⟩:=h.drinks (by omega)
          rw [hb] at hb';simp only [List.cons.injEq] at hb'
          rw [←hb'.1] at hs';omega
      refine h.book (h6.sub (cut_sub n.Book.Sess i)) ?_ ?_ hw
      ·constructor
       ·intro h2
        obtain ⟨t,r,hb,_,r',e⟩:=hd (by omega)
        obtain ⟨t',r2,hb',hs',_⟩:=h.drinks h2
        rw [hb] at hb';simp only [List.cons.injEq] at hb'
        exact ⟨t,r',e,by rw [hb'.1];exact hs'⟩
       ·rintro ⟨t,r',e,ht⟩
        have hG:t∈n.Book.Sess:=cut_mem (i:=i) (by rw [show n.Book.Sess.take i++n.Book.Sess.drop (i+1)=t::r' from e];simp)
        by_cases h2:n.DK.TH=2
        ·exact h2
        ·have:=hf h2 t hG;omega
      ·by_cases hz:n.DK.TH=0
       ·exact .inl hz
       ·obtain ⟨t,r,hb,hn,r',e⟩:=hd hz
        exact .inr ⟨t,r',e,hn⟩
    ·rename_i e0;exact fun he=>absurd he e0
   ·split
    ·have h9:=h6.tick a.Hold
     split
     ·rename_i e0
      intro _
      refine ⟨?_,rfl,rfl,rfl,rfl,by simp,by simp⟩
      unfold Zmt at e0 h9 ⊢
      cases hb:n.Book.Sess with
      | nil=>exact h
      | cons s l=>
        rw [hb] at e0 h9
        dsimp only at e0 h9 ⊢
        by_cases h1:s.State=1
        ·rw [if_pos h1] at e0 h9 ⊢
         by_cases hh:(Zlt s).Age<a.Hold
         ·rw [if_pos hh] at h9 ⊢
          refine h.book h9 ?_ ?_ fun t ht h0 p hp=>?_
          ·constructor
           ·intro _;exact ⟨Zlt s,l,rfl,h1⟩
           ·intro _;exact h.th.2 ((Zos n).2 ⟨s,l,hb,h1⟩)
          ·rcases h.hq with q | q
           ·exact .inl q
           ·obtain ⟨t,r,hb',hn⟩:=(Zns n).1 q
            rw [hb] at hb';simp only [List.cons.injEq] at hb'
            exact .inr ⟨Zlt s,l,rfl,by rw [←hn,←hb'.1];rfl⟩
          ·have ht:t∈Zlt s::l:=ht
           rcases List.mem_cons.1 ht with rfl | ht
           ·have h0:s.State=0:=h0
            omega
           ·exact h.wt t (by rw [hb];exact List.mem_cons_of_mem _ ht) h0 p hp
         ·rw [if_neg hh] at e0
          have:=(h6.ok s (by rw [hb];simp)).lo
          have e0:s.ID=0:=e0
          omega
        ·rw [if_neg h1];exact h
     ·rename_i e0
      intro _
      refine ⟨?_,rfl,rfl,rfl,rfl,?_,by simp⟩
      ·unfold Zmt at e0 h9 ⊢
       cases hb:n.Book.Sess with
       | nil=>rw [hb] at e0;exact absurd rfl e0
       | cons s l=>
         rw [hb] at e0 h9
         dsimp only at e0 h9 ⊢
         by_cases h1:s.State=1
         ·rw [if_pos h1] at e0 h9 ⊢
          by_cases hh:(Zlt s).Age<a.Hold
          ·rw [if_pos hh] at e0;exact absurd rfl e0
          ·rw [if_neg hh] at h9 ⊢
           have h8:=h6.tl
           rw [hb] at h8
           exact h.calm h9 (fun t ht=>h8 t ht) fun t ht h0 p hp=>h.wt t (by rw [hb];exact List.mem_cons_of_mem _ ht) h0 p hp
         ·rw [if_neg h1] at e0;exact absurd rfl e0
      ·intro v hv;simp at hv;subst hv
       exact ⟨⟨rfl,fun q=>by have q:(6:Int)≤4:=q;omega,fun _=>rfl,fun _=>rfl⟩,by show (4:Int)≠1;omega⟩
    ·intro _
     exact ⟨h,rfl,rfl,rfl,rfl,by simp,by simp⟩
end NX
end Go.Proofs.YtdjkbodnjhgbcaaGreat
