/-
  The symbolic machine: strings in drawn regions, arrays by their addresses, parts of own slices with a model. No statement of the seat is proved here.
-/
import Derived.KernelRfl
import Derived.Shelf.Sort.Plain
import Derived.Shelf.Slices.In.SortNone
import Derived.Sort.OwnSortedInts
import Derived.Shelf.Slices.CompactI
import Derived.Lib.RowBridge
import Derived.Test.YthlodgjekbidcaaGreatA1
namespace Go.Proofs.YthlodgjekbidcaaGreat
namespace NX
open Go Go.RowKit
section
variable {c:Ctx} {M:Mem} {S S':St} {a:Act} {w:World} {fn:Func} {K:AV→List (Option Blk)→List (Option Sl)→Prop} {k:List It}
section
variable {all:Array Oper} {ops:List EOp} {af:List (List Nat)} {Φ:St→Prop} {m':Nat} {ld:List Bool} {nap:List (List Nat)}
end
theorem Zw6 {all:Array Oper} {ops:List EOp} {af:List (List Nat)} {Φ:St→Prop} {m':Nat} {ld:List Bool} (hall:all.toList.mapM (Za c.P all)=some ops) {i f:Nat} {xs:List X} {args:List AV} {v:AV} {bs bs':List (Option Blk)} {ss ss':List (Option Sl)} (lb ls:List Bool) (ho:(Z61 ops i).o = .call f xs) (hg:gm S (Z61 ops i).g) (hf:FunT c.P f args bs ss v bs' ss')
  (hbs:msk lb S.bs=bs:=by rfl) (hss:msk ls S.ss=ss:=by rfl) (hkb:mrg lb S.bs bs'=S.bs:=by rfl) (ha:AV.le.leL (Zq S xs) args:=by first | exact Zg4 _ | simp [go_sem])
  (h:G c all ops af Φ m' (Z31 ld i) ((⟨S.tm,S.bs,mrg ls S.ss ss'⟩:St).put (Z61 ops i).d v)):GO c all ops af Φ m' ld S i:=by
 refine Z54 (S1:=⟨S.tm,S.bs,mrg ls S.ss ss'⟩) hall hg ?_ rfl (fun _ _ _ _ h1 _ _=>h1) h
 rw [ho]
 have:=sem_callT (c:=c) lb ls hf hbs hss ha
 rw [hkb] at this
 exact this
def vw_ (n:Int) (lo hi:Int):Option Unit:=if 0<n∧0≤lo∧lo≤hi∧hi≤n then some () else none
theorem Zx6 {n lo hi:Int} {u:Unit} (h:vw_ n lo hi=some u):0<n∧0≤lo∧lo≤hi∧hi≤n:=by
 unfold vw_ at h
 split at h
 ·assumption
 ·simp at h
def clr_ {α:Type} (l:List α) (lo m:Nat) (z:α):Option (List α):=if 0<l.length∧lo+m≤l.length then some (l.take lo++List.replicate m z++l.drop (lo+m)) else none
def mvv_ {α:Type} (l:List α) (i lo m:Nat):Option (List α):=if 0<l.length∧i+m≤l.length∧lo+m≤l.length then some (l.take i++(l.take (lo+m)).drop lo++l.drop (i+m)) else none
def cut_ {α:Type} (l:List α) (m:Nat):Option (List α):=if 0<l.length∧m≤l.length then some (l.take m) else none
variable {α:Type}
theorem V_viewM {l':List α} {u:Unit} {d:Option Nat} {g:Option (Nat×Bool)} {ol:List EOp} {T n j:Nat} {x:X} {lo hi:Option X} {l h:Int} (f:α→List AV) (hv:vw_ (ln f l') l h=some u) (hg:gm S g) (hx:S.x x = .osl j) (hj:Zf S.ss j=some ⟨T,n,l'.map f⟩) (hlo:bnd S lo 0=some l) (hhi:bnd S hi (ln f l')=some h)
  (hV:V c fn K (.ops ol::k) (S.put d (.ocs j l.toNat n (h.toNat-l.toNat)))):V c fn K (.ops (⟨d,g,.slice n x lo hi⟩::ol)::k) S:=by
 obtain ⟨h0,h1,h2,h3⟩:=Zx6 hv
 unfold ln at h0 h3
 exact Z43 hg (sem_view hx hj (by omega) hlo hhi h1 h2 h3) rfl hV
theorem Zy6 {all:Array Oper} {ops:List EOp} {af:List (List Nat)} {Φ:St→Prop} {m':Nat} {ld:List Bool} {i:Nat} {l':List α} {u:Unit} {T n j:Nat} {x:X} {lo hi:Option X} {l h:Int} (f:α→List AV) (hv:vw_ (ln f l') l h=some u) (hall:all.toList.mapM (Za c.P all)=some ops) (ho:(Z61 ops i).o = .slice n x lo hi) (hg:gm S (Z61 ops i).g) (hx:S.x x = .osl j) (hj:Zf S.ss j=some ⟨T,n,l'.map f⟩) (hlo:bnd S lo 0=some l) (hhi:bnd S hi (ln f l')=some h)
  (hV:G c all ops af Φ m' (Z31 ld i) (S.put (Z61 ops i).d (.ocs j l.toNat n (h.toNat-l.toNat)))):GO c all ops af Φ m' ld S i:=by
 obtain ⟨h0,h1,h2,h3⟩:=Zx6 hv
 unfold ln at h0 h3
 exact Z54 hall hg (by rw [ho];exact sem_view hx hj (by omega) hlo hhi h1 h2 h3) rfl (fun _ _ _ _ h1 _ _=>h1) hV
theorem V_viewVM {l':List α} {u:Unit} {d:Option Nat} {g:Option (Nat×Bool)} {ol:List EOp} {T n j m:Nat} {x:X} {lo hi:Option X} {l h:Int} (f:α→List AV) (hv:vw_ (ln f l') l h=some u) (hg:gm S g) (hx:S.x x = .ocs j 0 n m) (hj:Zf S.ss j=some ⟨T,n,l'.map f⟩) (hlo:bnd S lo 0=some l) (hhi:bnd S hi m=some h)
  (hV:V c fn K (.ops ol::k) (S.put d (.ocs j l.toNat n (h.toNat-l.toNat)))):V c fn K (.ops (⟨d,g,.slice n x lo hi⟩::ol)::k) S:=by
 obtain ⟨h0,h1,h2,h3⟩:=Zx6 hv
 unfold ln at h0 h3
 exact Z43 hg (sem_viewV hx hj (by omega) hlo hhi h1 h2 h3) rfl hV
theorem V_sl3M {l':List α} {u u':Unit} {d:Option Nat} {g:Option (Nat×Bool)} {ol:List EOp} {T n j:Nat} {x xl xh xm:X} {l h m:Int} (f:α→List AV) (hv:vw_ (ln f l') l h=some u) (hv':vw_ (ln f l') h m=some u') (hg:gm S g) (hx:S.x x = .osl j) (hj:Zf S.ss j=some ⟨T,n,l'.map f⟩) (hlo:S.x xl = .iv l) (hhi:S.x xh = .iv h) (hm:S.x xm = .iv m)
  (hV:V c fn K (.ops ol::k) (S.put d .any)):V c fn K (.ops (⟨d,g,.sl3 n x (some xl) (some xh) (some xm)⟩::ol)::k) S:=by
 obtain ⟨h0,h1,h2,h3⟩:=Zx6 hv
 obtain ⟨_,_,h4,h5⟩:=Zx6 hv'
 unfold ln at h0 h5
 exact Z43 hg (sem_sl3 hx hj (by omega) hlo hhi hm h1 h2 h4 h5) rfl hV
theorem V_clrM {l' v:List α} {d:Option Nat} {g:Option (Nat×Bool)} {ol:List EOp} {T n j lo m:Nat} {x:X} {z:List AV} {y:α} (f:α→List AV) (hv:clr_ l' lo m y=some v) (hg:gm S g) (hx:S.x x = .ocs j lo n m) (hj:Zf S.ss j=some ⟨T,n,l'.map f⟩) (hz:AV.le.leL z (f y)) (hp:Zo (f y)=true) (hn:z.length=n) (h1:Zk z=true)
  (hV:V c fn K (.ops ol::k) ((⟨S.tm,S.bs,Zg S.ss j (some ⟨T,n,v.map f⟩)⟩:St).put d (.tup []))):V c fn K (.ops (⟨d,g,.clr z x⟩::ol)::k) S:=by
 unfold clr_ at hv
 split at hv
 ·rename_i hb
  simp only [Option.some.injEq] at hv;subst hv
  refine Z43 hg (sem_clr hx hj (by simpa using hb.1) (by simpa using hb.2) (f y) hz hp hn h1) rfl ?_
  simpa [List.map_append,List.map_take,List.map_drop,List.map_replicate] using hV
 ·simp at hv
theorem GO_appVM {all:Array Oper} {ops:List EOp} {af:List (List Nat)} {Φ:St→Prop} {m':Nat} {ld:List Bool} {i':Nat} {l' v:List α} {e n b j i lo m:Nat} {x y:X} (f:α→List AV) (hv:mvv_ l' i lo m=some v) (hall:all.toList.mapM (Za c.P all)=some ops) (ho:(Z61 ops i').o = .app e n b x y) (hg:gm S (Z61 ops i').g) (hx:S.x x = .ocs j 0 n i) (hy:S.x y = .ocs j lo n m) (hj:Zf S.ss j=some ⟨e,n,l'.map f⟩)
  (hV:G c all ops af Φ m' (Z31 ld i') ((⟨S.tm,S.bs,Zg S.ss j (some ⟨e,n,v.map f⟩)⟩:St).put (Z61 ops i').d (.ocs j 0 n (i+m)))):GO c all ops af Φ m' ld S i':=by
 unfold mvv_ at hv
 split at hv
 ·rename_i hb
  simp only [Option.some.injEq] at hv;subst hv
  refine Z54 (S1:=⟨S.tm,S.bs,Zg S.ss j (some ⟨e,n,(l'.take i++(l'.take (lo+m)).drop lo++l'.drop (i+m)).map f⟩)⟩) hall hg ?_ rfl (fun _ _ _ _ h1 _ _=>h1) hV
  rw [ho]
  have:=sem_appV (c:=c) (b:=b) hx hy hj (by simpa using hb.1) (by simpa using hb.2.1) (by simpa using hb.2.2)
  simpa [List.map_append,List.map_take,List.map_drop] using this
 ·simp at hv
theorem V_cutVM {l' v:List α} (t j n m:Nat) {T:Nat} (f:α→List AV) (hv:cut_ l' m=some v) (ht:Zd S.tm t = .ocs j 0 n m) (hj:Zf S.ss j=some ⟨T,n,l'.map f⟩)
  (h:V c fn K k ⟨Ze S.tm t (.osl (Zj S.ss)),S.bs,Zg S.ss j none++[some ⟨T,n,v.map f⟩]⟩):V c fn K k S:=by
 unfold cut_ at hv
 split at hv
 ·rename_i hb
  simp only [Option.some.injEq] at hv;subst hv
  refine V_cutV t j n m ht hj rfl (by simpa using hb.1) (by simpa using hb.2) ?_
  rw [List.map_take] at h
  exact h
 ·simp at hv
end
end NX
end Go.Proofs.YthlodgjekbidcaaGreat
/-
  The symbolic machine: an own slice of which one row has the name of another own slice. No statement of the seat is proved here.
-/
namespace Go.Proofs.YthlodgjekbidcaaGreat
namespace NX
open Go Go.RowKit
def fixR (rows:List (List AV)) (z off k:Nat):List (List AV):=
 match rows[z]? with
 | none=>rows
 | some r=>match Zi r off [.osl k] with
   | none=>rows
   | some r'=>rows.set z r'
theorem lwr_ok {nb ns:Nat} {a:AV}:∀ {l r:List AV},lwr l [a]=some r→Zx nb ns l=true→a.ok nb ns=true→Zx nb ns r=true
 | [],_,h,_,_=>by simp [lwr] at h
 | x::l,r,h,hl,ha=>by
   simp only [lwr,Option.map_some,Option.some.injEq] at h
   subst h
   simp only [Zx,Z71] at hl ⊢
   exact ⟨ha,hl.2⟩
theorem lset_ok {nb ns:Nat} {a:AV}:∀ {o:Nat} {l r:List AV},Zi l o [a]=some r→Zx nb ns l=true→a.ok nb ns=true→Zx nb ns r=true
 | 0,l,r,h,hl,ha=>lwr_ok (l:=l) (by simpa [Zi] using h) hl ha
 | o+1,[],_,h,_,_=>by simp [Zi] at h
 | o+1,x::l,r,h,hl,ha=>by
   simp only [Zi,Option.map_eq_some_iff] at h
   obtain ⟨q,hq,rfl⟩:=h
   simp only [Zx,Z71] at hl ⊢
   exact ⟨hl.1,lset_ok hq hl.2 ha⟩
theorem Zz6 {ns:Nat}:∀ {l:List (List AV)} {i:Nat} {r:List AV},Zy ns l=true→l[i]?=some r→Zx 0 ns r=true
 | [],_,_,_,h=>by simp at h
 | x::l,0,_,h,hi=>by simp only [Zy,Z71] at h;simp at hi;subst hi;exact h.1
 | x::l,i+1,_,h,hi=>by simp only [Zy,Z71] at h;exact Zz6 h.2 (by simpa using hi)
theorem Z07 {ns:Nat} {rows:List (List AV)} {z off k:Nat} (h:Zy ns rows=true) (hk:Z3 (k+1) ns=true):Zy ns (fixR rows z off k)=true:=by
 unfold fixR
 split
 ·exact h
 ·rename_i r hr
  split
  ·exact h
  ·rename_i r' hr'
   exact Zi3 (lset_ok hr' (Zz6 h hr) hk) h
@[go_sem] theorem okRows_fixS {ns:Nat} {rows:List (List AV)} {z off k:Nat} (h:Z2 (Zy ns rows) (Z3 (k+1) ns)=true):Zy ns (fixR rows z off k)=true:=by
  rw [Z71] at h;exact Z07 h.1 h.2
@[go_sem] theorem okRows_fixSS {ns:Nat} {l:List (List AV)} {r:List AV} {i z off k:Nat} (h:Z2 (Zy ns l) (Z2 (Zx 0 ns r) (Z3 (k+1) ns))=true):Zy ns (fixR (l.set i r) z off k)=true:=by
  rw [Z71,Z71] at h;exact Z07 (Zi3 h.2.1 h.1) h.2.2
theorem fixR_is {α:Type} {l:List α} {f:α→List AV} {z:Int} {y:α} {off k:Nat} {r:List AV} (hv:at_ l z=some y) (hl:Zi (f y) off [.osl k]=some r):fixR (l.map f) z.toNat off k=(l.map f).set z.toNat r:=by
 unfold fixR
 rw [Zy4 (Zx4 hv).2]
 simp only [hl]
theorem lset_sub {a:AV}:∀ {o:Nat} {l r:List AV},Zi l o [a]=some r→Zh r o 1=some [a]
 | 0,[],r,h=>by simp [Zi,lwr] at h
 | 0,x::l,r,h=>by
   simp only [Zi,lwr,Option.map_some,Option.some.injEq] at h
   subst h;rfl
 | o+1,[],_,h=>by simp [Zi] at h
 | o+1,x::l,r,h=>by
   simp only [Zi,Option.map_eq_some_iff] at h
   obtain ⟨q,hq,rfl⟩:=h
   have:=lset_sub hq
   exact this
theorem lset_isL {M:Mem} {a b:AV} (hab:∀v,a.is M v→b.is M v):∀ {o:Nat} {l r r':List AV},Zi l o [a]=some r→Zi l o [b]=some r'→∀vs,AV.isL M r vs→AV.isL M r' vs
 | 0,[],r,_,h,_=>by simp [Zi,lwr] at h
 | 0,x::l,r,r',h,h'=>by
   simp only [Zi,lwr,Option.map_some,Option.some.injEq] at h h'
   subst h;subst h'
   rintro vs ⟨v,q,rfl,h1,h2⟩
   exact ⟨v,q,rfl,hab v h1,h2⟩
 | o+1,[],_,_,h,_=>by simp [Zi] at h
 | o+1,x::l,r,r',h,h'=>by
   simp only [Zi,Option.map_eq_some_iff] at h h'
   obtain ⟨q,hq,rfl⟩:=h
   obtain ⟨q',hq',rfl⟩:=h'
   rintro vs ⟨v,u,rfl,h1,h2⟩
   exact ⟨v,u,rfl,h1,lset_isL hab hq hq' u h2⟩
theorem isLL_row {M:Mem} {n:Nat} {r':List AV}:∀ {rows:List (List AV)} {i:Nat} {r:List AV} {vss:List (List Value)},rows[i]?=some r→(∀vs,AV.isL M r vs→AV.isL M r' vs)→AV.isLL M n rows vss→AV.isLL M n (rows.set i r') vss
 | [],_,_,_,h,_,_=>by simp at h
 | x::l,0,r,vss,h,k,⟨v,q,h0,h1,h2,h3⟩=>by
   simp at h;subst h
   exact ⟨v,q,h0,h1,k v h2,h3⟩
 | x::l,i+1,r,vss,h,k,⟨v,q,h0,h1,h2,h3⟩=>⟨v,q,h0,h1,h2,isLL_row (by simpa using h) k h3⟩
section
variable {c:Ctx} {M:Mem} {S S':St} {a:Act} {w:World} {fn:Func} {K:AV→List (Option Blk)→List (Option Sl)→Prop} {k:List It}
theorem rejudge {bs:List (Option Blk)} {ss:List (Option Sl)} (hS:RelS c M bs ss w) {j T n:Nat} {rows rows':List (List AV)} (hj:Zf ss j=some ⟨T,n,rows⟩) (hl:rows'.length=rows.length) (h:∀vss,AV.isLL M.sl n rows vss→AV.isLL M.sl n rows' vss):
  RelS c M bs (Zg ss j (some ⟨T,n,rows'⟩)) w:=by
 have live:∀i N,Zf (Zg ss j (some ⟨T,n,rows'⟩)) i=some N→(i=j∧N=⟨T,n,rows'⟩)∨Zf ss i=some N:=by
  intro i N hi
  rw [Zd1] at hi
  split at hi
  ·rename_i e
   simp only [Option.some.injEq] at hi
   exact .inl ⟨e.1,hi.symm⟩
  ·exact .inr hi
 have old:∀i N,Zf (Zg ss j (some ⟨T,n,rows'⟩)) i=some N→∃N',Zf ss i=some N':=by
  intro i N hi
  rcases live i N hi with ⟨rfl,_⟩ | h
  ·exact ⟨_,hj⟩
  ·exact ⟨_,h⟩
 refine ⟨hS.nb,by rw [Ze1];exact hS.ns,hS.so,hS.os,hS.tape,hS.output,hS.size,hS.block,hS.hle,hS.hold,hS.blk,?_,hS.d1,?_,?_,hS.pin⟩
 ·intro i N hi
  rcases live i N hi with ⟨rfl,rfl⟩ | h'
  ·obtain ⟨q0,us,q1,q2,q3,q4⟩:=hS.slc i _ hj
   exact ⟨q0,us,h _ q1,q2,by dsimp only at q3 ⊢;rw [hl];exact q3,q4⟩
  ·exact hS.slc i N h'
 ·intro i t B N hi ht
  obtain ⟨N',h'⟩:=old t N ht
  exact hS.d2 i t B N' hi h'
 ·intro i t N O g hi ht e1 e2
  obtain ⟨N',h1⟩:=old i N hi
  obtain ⟨O',h2⟩:=old t O ht
  exact hS.d3 i t N' O' g h1 h2 e1 e2
theorem V_sealN (j k':Nat) {α:Type} {l:List α} {f:α→List AV} {z:Int} {y:α} (y':α) {T n off T' n':Nat} {rows:List (List AV)} {q:List AV} (hv:at_ l z=some y) (hj:Zf S.ss j=some ⟨T,n,fixR (l.map f) z.toNat off k'⟩) (hk:Zf S.ss k'=some ⟨T',n',rows⟩) (hne:(k'==j)=false)
  (hq:Zi (f y) off [.osl k']=some q) (hl:Zi (f y) off [.sl n' rows]=some (f y'))
  (h:V c fn K k ⟨(S.sealS k' ⟨T',n',rows⟩).tm,(S.sealS k' ⟨T',n',rows⟩).bs,Zg (Zg S.ss k' none) j (some ⟨T,n,(l.set z.toNat y').map f⟩)⟩) (hpr:Zz rows=true:=by first | rfl | simp [go_sem]):V c fn K k S:=by
 intro rk M a w hc hT
 obtain ⟨M',hle,h1,h2⟩:=seal_rel k' hk hpr hT
 refine h rk M' a w hc ⟨h1.len,h1.tm,h1.df,?_⟩
 have hne':k'≠j:=by simpa using hne
 have hjj:Zf (Zg S.ss k' none) j=some ⟨T,n,fixR (l.map f) z.toNat off k'⟩:=by
  rw [Zd1,if_neg (fun e=>hne' e.1.symm)];exact hj
 refine rejudge h1.st hjj (by rw [fixR_is hv hq];simp) fun vss hvs=>?_
 rw [fixR_is hv hq] at hvs
 have hlt:z.toNat<(l.map f).length:=by
  have:=(List.getElem?_eq_some_iff.1 (Zx4 hv).2).1
  simpa using this
 have:=isLL_row (i:=z.toNat) (r:=q) (r':=f y') (by rw [List.getElem?_set_self hlt]) (lset_isL (a:=.osl k') (b:=.sl n' rows) (fun v hv=>?_) hq hl) hvs
 ·rw [List.set_set,←List.map_set] at this;exact this
 ·simp only [AV.is] at hv
  obtain ⟨_,rfl⟩:=hv
  have e:M'.sl.σ k'=M.σ k':=by
   show M'.σ k'=M.σ k'
   exact hle.σ k' (by rw [hT.st.ns];exact Zf1 hk)
  rw [e]
  exact h2
theorem sem_storeN {α:Type} {l':List α} {z:Int} {y:α} {j k' T n off:Nat} {x v:X} {q:List AV} (f:α→List AV) (hv:at_ l' z=some y) (hx:S.x x = .oel j (z.toNat*n) off) (hj:Zf S.ss j=some ⟨T,n,l'.map f⟩) (hcs:S.x v = .osl k') (hq:Zi (f y) off [.osl k']=some q):
  Z33 c S (.store 1 x v) .un ⟨S.tm,S.bs,Zg S.ss j (some ⟨T,n,fixR (l'.map f) z.toNat off k'⟩)⟩:=by
 rw [fixR_is hv hq]
 exact Zy5 hx hj rfl (Zy4 (Zx4 hv).2) (cs0:=[.osl k']) (by rw [hcs];rfl) (Zg4 _) rfl rfl rfl hq
theorem sem_loadN {α:Type} {l':List α} {z:Int} {y:α} {j k' T n off:Nat} {x:X} {q:List AV} (f:α→List AV) (hv:at_ l' z=some y) (hx:S.x x = .oel j (z.toNat*n) off) (hj:Zf S.ss j=some ⟨T,n,fixR (l'.map f) z.toNat off k'⟩) (hq:Zi (f y) off [.osl k']=some q):
  Z33 c S (.load x) (.osl k') S:=by
 rw [fixR_is hv hq] at hj
 have hlt:z.toNat<(l'.map f).length:=by
  have:=(List.getElem?_eq_some_iff.1 (Zx4 hv).2).1
  simpa using this
 exact Zu5 hx hj rfl (by rw [List.getElem?_set_self hlt]) (lset_sub hq)
theorem V_loadN {α:Type} {l':List α} {z:Int} {y:α} {d:Option Nat} {g:Option (Nat×Bool)} {l:List EOp} {j k' T n off:Nat} {x:X} {q:List AV} (f:α→List AV) (hv:at_ l' z=some y) (hg:gm S g) (hx:S.x x = .oel j (z.toNat*n) off) (hj:Zf S.ss j=some ⟨T,n,fixR (l'.map f) z.toNat off k'⟩) (hq:Zi (f y) off [.osl k']=some q)
  (h:V c fn K (.ops l::k) (S.put d (.osl k'))):V c fn K (.ops (⟨d,g,.load x⟩::l)::k) S:=
 Z43 hg (sem_loadN f hv hx hj hq) rfl h
section
variable {all:Array Oper} {ops:List EOp} {af:List (List Nat)} {Φ:St→Prop} {m:Nat} {ld:List Bool}
theorem Z17 (hall:all.toList.mapM (Za c.P all)=some ops) {i:Nat} {α:Type} {l':List α} {z:Int} {y:α} {j k' T n off:Nat} {x v:X} {q:List AV} (f:α→List AV) (hv:at_ l' z=some y) (ho:(Z61 ops i).o = .store 1 x v) (hg:gm S (Z61 ops i).g) (hx:S.x x = .oel j (z.toNat*n) off) (hj:Zf S.ss j=some ⟨T,n,l'.map f⟩) (hcs:S.x v = .osl k') (hq:Zi (f y) off [.osl k']=some q)
  (h:G c all ops af Φ m (Z31 ld i) ((⟨S.tm,S.bs,Zg S.ss j (some ⟨T,n,fixR (l'.map f) z.toNat off k'⟩)⟩:St).put (Z61 ops i).d .un)):GO c all ops af Φ m ld S i:=
 Z54 (S1:=⟨S.tm,S.bs,Zg S.ss j (some ⟨T,n,fixR (l'.map f) z.toNat off k'⟩)⟩) hall hg (by rw [ho];exact sem_storeN f hv hx hj hcs hq) rfl (by rw [ho];exact fun _ _ _ _ h _ _=>h) h
theorem Z27 (hall:all.toList.mapM (Za c.P all)=some ops) {i:Nat} {α:Type} {l':List α} {z:Int} {y:α} {j k' T n off:Nat} {x:X} {q:List AV} (f:α→List AV) (hv:at_ l' z=some y) (ho:(Z61 ops i).o = .load x) (hg:gm S (Z61 ops i).g) (hx:S.x x = .oel j (z.toNat*n) off) (hj:Zf S.ss j=some ⟨T,n,fixR (l'.map f) z.toNat off k'⟩) (hq:Zi (f y) off [.osl k']=some q)
  (h:G c all ops af Φ m (Z31 ld i) (S.put (Z61 ops i).d (.osl k'))):GO c all ops af Φ m ld S i:=
 Z54 hall hg (by rw [ho];exact sem_loadN f hv hx hj hq) rfl (Z04 _ _) h
end
end
end NX
end Go.Proofs.YthlodgjekbidcaaGreat
/-
  The program's data. No statement of the seat is proved here.
-/
namespace Go.Proofs.YthlodgjekbidcaaGreat
namespace NX
open Go
structure Sess where
 ID:Int
 Need:(List Int)
 State:Int
 Age:Int
 deriving DecidableEq,Inhabited
def Sess.row (x:Sess):List AV:=[.iv x.ID,.sl 1 (List.map Zb5 x.Need),.iv x.State,.iv x.Age]
attribute [go_sem] Sess.row
structure Book where
 Last:Int
 Sess:(List Sess)
 deriving DecidableEq,Inhabited
def Book.row (x:Book):List AV:=[.iv x.Last,.sl 4 (List.map Sess.row x.Sess)]
attribute [go_sem] Book.row
structure Place where
 Book:Book
 Live:(List Int)
 deriving DecidableEq,Inhabited
def Place.row (x:Place):List AV:=[.iv x.Book.Last,.sl 4 (List.map Sess.row x.Book.Sess),.sl 1 (List.map Zb5 x.Live)]
attribute [go_sem] Place.row
structure Model where
 Places:(List Place)
 deriving DecidableEq,Inhabited
def Model.row (x:Model):List AV:=[.sl 3 (List.map Place.row x.Places)]
attribute [go_sem] Model.row
structure Edge where
 A:Int
 B:Int
 deriving DecidableEq,Inhabited
def Edge.row (x:Edge):List AV:=[.iv x.A,.iv x.B]
attribute [go_sem] Edge.row
structure Graph where
 N:Int
 Edges:(List Edge)
 deriving DecidableEq,Inhabited
def Graph.row (x:Graph):List AV:=[.iv x.N,.sl 2 (List.map Edge.row x.Edges)]
attribute [go_sem] Graph.row
structure Event where
 Kind:Int
 Node:Int
 ID:Int
 Peer:Int
 Need:(List Int)
 deriving DecidableEq,Inhabited
def Event.row (x:Event):List AV:=[.iv x.Kind,.iv x.Node,.iv x.ID,.iv x.Peer,.sl 1 (List.map Zb5 x.Need)]
attribute [go_sem] Event.row
set_option maxRecDepth 100000
set_option maxHeartbeats 4000000
@[go_sem] def e96_L0:EC:=.seq (.reg [(Qa 9 (.bin .lss (.t 8) (.t 7)))]) (.seq (.ite (.t 9) (.skip) (.exit 0)) (.seq (.blk 1 (.seq (.reg [(Qm 10 8),(Qm 5 10)]) (.seq (.reg [(Qm 11 1),(Qm 12 0),(Qm 13 5),(Qk 14 2 12 13),(Qe 15 2 14),(Qa 16 (.callv (.t 11) [(.t 15)]))]) (.ite (.t 16) (.seq (.reg [(Qm 17 5),(Qm 4 17)]) (.ret)) (.skip))))) (.reg [(Qv 18 8 1),(Qm 8 18)])))
@[go_sem] def e96:EC:=.seq (.reg [(Qi 4 0)]) (.seq (.seq (.reg [(Qm 6 0),(Qa 7 (.len (.t 6))),(Qi 8 0)]) (.blk 0 (.loop e96_L0))) (.seq (.reg [(Qa 4 (.mv (.c (.iv (-1)))))]) (.ret)))
theorem ok96:FnOK Tryz.prog 96 Tryz.f96 e96 [.t 4] 2 17:=⟨by kernel_rfl,⟨_,rfl,by kernel_rfl⟩,by kernel_rfl,by kernel_rfl⟩
noncomputable def Z37:Unit→Option Int
| ()=>
 some (-1)
noncomputable def Z47 (x1:(List Edge)) (p1:(Edge→Option Bool)):Int→Option (Int ⊕ Int)
| x5=>
 ifb (decide (x5<(ln Edge.row x1))) (
 (at_ x1 x5).bind fun x6=>
 (p1 x6).bind fun x7=>
 ifb x7 (
 Option.map Sum.inr (some x5)) (
 some (.inl (wr (x5+1))))) (
 Option.map Sum.inr (Z37 ()))
noncomputable def Z57 (x1:(List Edge)) (p1:(Edge→Option Bool)):Option Int:=
 loop (Z47 x1 p1) 0
theorem Z67 (x1:(List Edge)) (g1:Nat) (caps1:List AV) (p1:(Edge→Option Bool)) (hc1:CloOK Tryz.prog g1 caps1 (fun z=>[.agg (Edge.row z)]) p1 (fun z=>.bv z)) (r:Int) (h:Z57 x1 p1=some r):Zy2 Tryz.prog 96 [.sl 2 (List.map Edge.row x1),.clo g1 caps1] (.iv r):=by
 refine Z23 ok96 rfl rfl fun w0 H0=>?_
 rw [Z57] at h
 refine Zt2 11 ?_;dsimp only [go_sem];refine An ?_;refine Zu4 (fun (_:Unit)=>(⟨(an 19 []),[],[]⟩:St)) Z37 r ?_ fun J1=>?_
 ·rintro ⟨⟩ h;rw [Z37] at h;(try dsimp only);refine Zt2 4 ?_;dsimp only [go_sem];refine An ?_;exact Z45 (res:=fun (r:Int)=>.iv r) ok96 h
 ·refine Zt2 1 ?_;dsimp only [go_sem];refine An ?_;refine Zv4 h (fun (x5:Int)=>(⟨(.sl 2 (List.map Edge.row x1) :: .clo g1 caps1::an 5 (.iv (ln Edge.row x1) :: .iv x5::an 10 [])),[],[]⟩:St)) (by simp [go_sem]) (by intro x5;first | rfl | simp [go_sem,Zf4 _ hc1.pu]) ?_;rintro n1 x5 y1 h hin1 hout1;rw [Z47] at h;(try dsimp only);refine Zt2 5 ?_;dsimp only [go_sem];refine An ?_;refine Zw4 h rfl (fun _ h=>?_) fun _ h=>?_
  ·refine Zt2 13 ?_;dsimp only [go_sem];refine An ?_;obtain ⟨x6,ex6,h⟩:=Bs h;refine Zz4 Edge.row ex6 trivial rfl rfl rfl ?_;refine Zt2 1 ?_;dsimp only [go_sem];refine An ?_;obtain ⟨x7,ex7,h⟩:=Bs h;refine Za5 trivial rfl hc1 (x:=x6) ex7 (by first | exact Zg4 _ | simp [go_sem]) (by first | rfl | simp [go_sem,hc1.pu]) ?_;refine Zt2 1 ?_;dsimp only [go_sem];refine An ?_;refine Zw4 h rfl (fun _ h=>?_) fun _ h=>?_
   ·refine Zt2 5 ?_;dsimp only [go_sem];refine An ?_;exact Z45 (res:=fun (r:Int)=>.iv r) ok96 (Zt4 h hout1)
   ·refine Zt2 6 ?_;dsimp only [go_sem];refine An ?_;exact Z55 h hin1 (hok:=by first | rfl | simp [go_sem,Zf4 _ hc1.pu])
  ·refine Zt2 1 ?_;dsimp only [go_sem];refine An ?_;exact Z65 J1 (s:=()) (Zt4 h hout1) (hok:=by first | rfl | simp [go_sem,Zf4 _ hc1.pu])
def Z77 (_F:Nat):Unit→Option Int
| ()=>
 some (-1)
theorem Z87 {F:Nat}:∀s,ole (Z77 F s) (Z37 s):=by
 rintro ⟨⟩
 unfold Z77 Z37
 try dsimp only
 with_reducible repeat' first | exact Zn4 _ | assumption | intro _ | refine Zo4 ?_ ?_ | refine Zp4 ?_ ?_ | refine Zq4 ?_ | refine Zs4 ?_ | apply h_p1
def Z97 (F:Nat) (x1:(List Edge)) (p1:(Edge→Option Bool)):Int→Option (Int ⊕ Int)
| x5=>
 ifb (decide (x5<(ln Edge.row x1))) (
 (at_ x1 x5).bind fun x6=>
 (p1 x6).bind fun x7=>
 ifb x7 (
 Option.map Sum.inr (some x5)) (
 some (.inl (wr (x5+1))))) (
 Option.map Sum.inr (Z77 F ()))
theorem Za7 {F:Nat} {x1:(List Edge)} {p1 q1:(Edge→Option Bool)} (h_p1:∀z,ole (p1 z) (q1 z)):∀s,ole (Z97 F x1 p1 s) (Z47 x1 q1 s):=by
 intro x5
 unfold Z97 Z47
 try dsimp only
 with_reducible repeat' first | exact Zn4 _ | assumption | intro _ | refine Zo4 ?_ ?_ | refine Zp4 ?_ ?_ | refine Zq4 ?_ | refine Zs4 ?_ | apply Z87 | apply h_p1
def Zb7 (F:Nat) (x1:(List Edge)) (p1:(Edge→Option Bool)):Option Int:=
 Zr4 F (Z97 F x1 p1) 0
theorem Zc7 {F:Nat} {x1:(List Edge)} {p1 q1:(Edge→Option Bool)} (h_p1:∀z,ole (p1 z) (q1 z)):ole (Zb7 F x1 p1) (Z57 x1 q1):=by
 unfold Zb7 Z57
 with_reducible repeat' first | exact Zn4 _ | assumption | intro _ | refine Zo4 ?_ ?_ | refine Zp4 ?_ ?_ | refine Zq4 ?_ | refine Zs4 ?_ | apply Z87 | apply Za7 | apply h_p1
set_option maxRecDepth 100000
set_option maxHeartbeats 4000000
@[go_sem] def e69:EC:=.seq (.reg [(Qa 4 (.mv (.c .ff)))]) (.seq (.reg [(Qm 5 0),(Qm 6 1),(Qa 7 (.call 96 [(.t 5),(.t 6)])),(Qa 8 (.bin .geq (.t 7) (.c (.iv 0)))),(Qm 4 8)]) (.ret))
theorem ok69:FnOK Tryz.prog 69 Tryz.f69 e69 [.t 4] 2 7:=⟨by kernel_rfl,⟨_,rfl,by kernel_rfl⟩,by kernel_rfl,by kernel_rfl⟩
noncomputable def Zd7 (x1:(List Edge)) (p1:(Edge→Option Bool)):Option Bool:=
 (Z57 x1 p1).bind fun x2=>
 some (decide (0≤x2))
theorem Ze7 (x1:(List Edge)) (g1:Nat) (caps1:List AV) (p1:(Edge→Option Bool)) (hc1:CloOK Tryz.prog g1 caps1 (fun z=>[.agg (Edge.row z)]) p1 (fun z=>.bv z)) (r:Bool) (h:Zd7 x1 p1=some r):Zy2 Tryz.prog 69 [.sl 2 (List.map Edge.row x1),.clo g1 caps1] (.bv r):=by
 refine Z23 ok69 rfl rfl fun w0 H0=>?_
 rw [Zd7] at h
 refine Zt2 8 ?_;dsimp only [go_sem];refine An ?_;obtain ⟨x2,ex2,h⟩:=Bs h;refine Z73 trivial (Z67 x1 _ _ p1 hc1 _ ex2) (hp:=(by first | rfl | simp [go_sem,hc1.pu])) (h:=?_);refine Zt2 3 ?_;dsimp only [go_sem];refine An ?_;exact Z45 (res:=fun (r:Bool)=>.bv r) ok69 h
def Zf7 (F:Nat) (x1:(List Edge)) (p1:(Edge→Option Bool)):Option Bool:=
 (Zb7 F x1 p1).bind fun x2=>
 some (decide (0≤x2))
theorem Zg7 {F:Nat} {x1:(List Edge)} {p1 q1:(Edge→Option Bool)} (h_p1:∀z,ole (p1 z) (q1 z)):ole (Zf7 F x1 p1) (Zd7 x1 q1):=by
 unfold Zf7 Zd7
 with_reducible repeat' first | exact Zn4 _ | assumption | intro _ | refine Zo4 ?_ ?_ | refine Zp4 ?_ ?_ | refine Zq4 ?_ | refine Zs4 ?_ | apply Zc7 | apply h_p1
set_option maxRecDepth 100000
set_option maxHeartbeats 4000000
@[go_sem] def e124_L0:EC:=.seq (.reg [(Qa 9 (.bin .lss (.t 8) (.t 7)))]) (.seq (.ite (.t 9) (.skip) (.exit 0)) (.seq (.blk 1 (.seq (.reg [(Qm 10 8),(Qm 5 10)]) (.seq (.reg [(Qm 11 1),(Qm 12 0),(Qm 13 5),(Qk 14 4 12 13),(Qe 15 4 14),(Qa 16 (.callv (.t 11) [(.t 15)]))]) (.ite (.t 16) (.seq (.reg [(Qm 17 5),(Qm 4 17)]) (.ret)) (.skip))))) (.reg [(Qv 18 8 1),(Qm 8 18)])))
@[go_sem] def e124:EC:=.seq (.reg [(Qi 4 0)]) (.seq (.seq (.reg [(Qm 6 0),(Qa 7 (.len (.t 6))),(Qi 8 0)]) (.blk 0 (.loop e124_L0))) (.seq (.reg [(Qa 4 (.mv (.c (.iv (-1)))))]) (.ret)))
theorem ok124:FnOK Tryz.prog 124 Tryz.f124 e124 [.t 4] 2 17:=⟨by kernel_rfl,⟨_,rfl,by kernel_rfl⟩,by kernel_rfl,by kernel_rfl⟩
noncomputable def Zh7:Unit→Option Int
| ()=>
 some (-1)
noncomputable def Zi7 (x1:(List Sess)) (p1:(Sess→Option Bool)):Int→Option (Int ⊕ Int)
| x5=>
 ifb (decide (x5<(ln Sess.row x1))) (
 (at_ x1 x5).bind fun x6=>
 (p1 x6).bind fun x7=>
 ifb x7 (
 Option.map Sum.inr (some x5)) (
 some (.inl (wr (x5+1))))) (
 Option.map Sum.inr (Zh7 ()))
noncomputable def Zj7 (x1:(List Sess)) (p1:(Sess→Option Bool)):Option Int:=
 loop (Zi7 x1 p1) 0
theorem Zk7 (x1:(List Sess)) (g1:Nat) (caps1:List AV) (p1:(Sess→Option Bool)) (hc1:CloOK Tryz.prog g1 caps1 (fun z=>[.agg (Sess.row z)]) p1 (fun z=>.bv z)) (r:Int) (h:Zj7 x1 p1=some r):Zy2 Tryz.prog 124 [.sl 4 (List.map Sess.row x1),.clo g1 caps1] (.iv r):=by
 refine Z23 ok124 rfl rfl fun w0 H0=>?_
 rw [Zj7] at h
 refine Zt2 11 ?_;dsimp only [go_sem];refine An ?_;refine Zu4 (fun (_:Unit)=>(⟨(an 19 []),[],[]⟩:St)) Zh7 r ?_ fun J1=>?_
 ·rintro ⟨⟩ h;rw [Zh7] at h;(try dsimp only);refine Zt2 4 ?_;dsimp only [go_sem];refine An ?_;exact Z45 (res:=fun (r:Int)=>.iv r) ok124 h
 ·refine Zt2 1 ?_;dsimp only [go_sem];refine An ?_;refine Zv4 h (fun (x5:Int)=>(⟨(.sl 4 (List.map Sess.row x1) :: .clo g1 caps1::an 5 (.iv (ln Sess.row x1) :: .iv x5::an 10 [])),[],[]⟩:St)) (by simp [go_sem]) (by intro x5;first | rfl | simp [go_sem,Zf4 _ hc1.pu]) ?_;rintro n1 x5 y1 h hin1 hout1;rw [Zi7] at h;(try dsimp only);refine Zt2 5 ?_;dsimp only [go_sem];refine An ?_;refine Zw4 h rfl (fun _ h=>?_) fun _ h=>?_
  ·refine Zt2 13 ?_;dsimp only [go_sem];refine An ?_;obtain ⟨x6,ex6,h⟩:=Bs h;refine Zz4 Sess.row ex6 trivial rfl rfl rfl ?_;refine Zt2 1 ?_;dsimp only [go_sem];refine An ?_;obtain ⟨x7,ex7,h⟩:=Bs h;refine Za5 trivial rfl hc1 (x:=x6) ex7 (by first | exact Zg4 _ | simp [go_sem]) (by first | rfl | simp [go_sem,hc1.pu]) ?_;refine Zt2 1 ?_;dsimp only [go_sem];refine An ?_;refine Zw4 h rfl (fun _ h=>?_) fun _ h=>?_
   ·refine Zt2 5 ?_;dsimp only [go_sem];refine An ?_;exact Z45 (res:=fun (r:Int)=>.iv r) ok124 (Zt4 h hout1)
   ·refine Zt2 6 ?_;dsimp only [go_sem];refine An ?_;exact Z55 h hin1 (hok:=by first | rfl | simp [go_sem,Zf4 _ hc1.pu])
  ·refine Zt2 1 ?_;dsimp only [go_sem];refine An ?_;exact Z65 J1 (s:=()) (Zt4 h hout1) (hok:=by first | rfl | simp [go_sem,Zf4 _ hc1.pu])
def Zl7 (_F:Nat):Unit→Option Int
| ()=>
 some (-1)
theorem Zm7 {F:Nat}:∀s,ole (Zl7 F s) (Zh7 s):=by
 rintro ⟨⟩
 unfold Zl7 Zh7
 try dsimp only
 with_reducible repeat' first | exact Zn4 _ | assumption | intro _ | refine Zo4 ?_ ?_ | refine Zp4 ?_ ?_ | refine Zq4 ?_ | refine Zs4 ?_ | apply h_p1
def Zn7 (F:Nat) (x1:(List Sess)) (p1:(Sess→Option Bool)):Int→Option (Int ⊕ Int)
| x5=>
 ifb (decide (x5<(ln Sess.row x1))) (
 (at_ x1 x5).bind fun x6=>
 (p1 x6).bind fun x7=>
 ifb x7 (
 Option.map Sum.inr (some x5)) (
 some (.inl (wr (x5+1))))) (
 Option.map Sum.inr (Zl7 F ()))
theorem Zo7 {F:Nat} {x1:(List Sess)} {p1 q1:(Sess→Option Bool)} (h_p1:∀z,ole (p1 z) (q1 z)):∀s,ole (Zn7 F x1 p1 s) (Zi7 x1 q1 s):=by
 intro x5
 unfold Zn7 Zi7
 try dsimp only
 with_reducible repeat' first | exact Zn4 _ | assumption | intro _ | refine Zo4 ?_ ?_ | refine Zp4 ?_ ?_ | refine Zq4 ?_ | refine Zs4 ?_ | apply Zm7 | apply h_p1
def Zp7 (F:Nat) (x1:(List Sess)) (p1:(Sess→Option Bool)):Option Int:=
 Zr4 F (Zn7 F x1 p1) 0
theorem Zq7 {F:Nat} {x1:(List Sess)} {p1 q1:(Sess→Option Bool)} (h_p1:∀z,ole (p1 z) (q1 z)):ole (Zp7 F x1 p1) (Zj7 x1 q1):=by
 unfold Zp7 Zj7
 with_reducible repeat' first | exact Zn4 _ | assumption | intro _ | refine Zo4 ?_ ?_ | refine Zp4 ?_ ?_ | refine Zq4 ?_ | refine Zs4 ?_ | apply Zm7 | apply Zo7 | apply h_p1
set_option maxRecDepth 100000
set_option maxHeartbeats 4000000
@[go_sem] def e89:EC:=.seq (.reg [(Qa 4 (.mv (.c .ff)))]) (.seq (.reg [(Qm 5 0),(Qm 6 1),(Qa 7 (.call 124 [(.t 5),(.t 6)])),(Qa 8 (.bin .geq (.t 7) (.c (.iv 0)))),(Qm 4 8)]) (.ret))
theorem ok89:FnOK Tryz.prog 89 Tryz.f89 e89 [.t 4] 2 7:=⟨by kernel_rfl,⟨_,rfl,by kernel_rfl⟩,by kernel_rfl,by kernel_rfl⟩
noncomputable def Zr7 (x1:(List Sess)) (p1:(Sess→Option Bool)):Option Bool:=
 (Zj7 x1 p1).bind fun x2=>
 some (decide (0≤x2))
theorem Zs7 (x1:(List Sess)) (g1:Nat) (caps1:List AV) (p1:(Sess→Option Bool)) (hc1:CloOK Tryz.prog g1 caps1 (fun z=>[.agg (Sess.row z)]) p1 (fun z=>.bv z)) (r:Bool) (h:Zr7 x1 p1=some r):Zy2 Tryz.prog 89 [.sl 4 (List.map Sess.row x1),.clo g1 caps1] (.bv r):=by
 refine Z23 ok89 rfl rfl fun w0 H0=>?_
 rw [Zr7] at h
 refine Zt2 8 ?_;dsimp only [go_sem];refine An ?_;obtain ⟨x2,ex2,h⟩:=Bs h;refine Z73 trivial (Zk7 x1 _ _ p1 hc1 _ ex2) (hp:=(by first | rfl | simp [go_sem,hc1.pu])) (h:=?_);refine Zt2 3 ?_;dsimp only [go_sem];refine An ?_;exact Z45 (res:=fun (r:Bool)=>.bv r) ok89 h
def Zt7 (F:Nat) (x1:(List Sess)) (p1:(Sess→Option Bool)):Option Bool:=
 (Zp7 F x1 p1).bind fun x2=>
 some (decide (0≤x2))
theorem Zu7 {F:Nat} {x1:(List Sess)} {p1 q1:(Sess→Option Bool)} (h_p1:∀z,ole (p1 z) (q1 z)):ole (Zt7 F x1 p1) (Zr7 x1 q1):=by
 unfold Zt7 Zr7
 with_reducible repeat' first | exact Zn4 _ | assumption | intro _ | refine Zo4 ?_ ?_ | refine Zp4 ?_ ?_ | refine Zq4 ?_ | refine Zs4 ?_ | apply Zq7 | apply h_p1
set_option maxRecDepth 100000
set_option maxHeartbeats 4000000
@[go_sem] def e92_L0:EC:=.seq (.reg [(Qa 9 (.bin .lss (.t 8) (.t 7)))]) (.seq (.ite (.t 9) (.skip) (.exit 0)) (.seq (.blk 1 (.seq (.reg [(Qm 10 8),(Qm 5 10)]) (.seq (.reg [(Qm 11 1),(Qm 12 0),(Qm 13 5),(Qk 14 1 12 13),(Ql 15 14),(Qa 16 (.callv (.t 11) [(.t 15)]))]) (.ite (.t 16) (.seq (.reg [(Qm 17 5),(Qm 4 17)]) (.ret)) (.skip))))) (.reg [(Qv 18 8 1),(Qm 8 18)])))
@[go_sem] def e92:EC:=.seq (.reg [(Qi 4 0)]) (.seq (.seq (.reg [(Qm 6 0),(Qa 7 (.len (.t 6))),(Qi 8 0)]) (.blk 0 (.loop e92_L0))) (.seq (.reg [(Qa 4 (.mv (.c (.iv (-1)))))]) (.ret)))
theorem ok92:FnOK Tryz.prog 92 Tryz.f92 e92 [.t 4] 2 17:=⟨by kernel_rfl,⟨_,rfl,by kernel_rfl⟩,by kernel_rfl,by kernel_rfl⟩
noncomputable def Zv7:Unit→Option Int
| ()=>
 some (-1)
noncomputable def Zw7 (x1:(List Int)) (p1:(Int→Option Bool)):Int→Option (Int ⊕ Int)
| x5=>
 ifb (decide (x5<(ln Zb5 x1))) (
 (at_ x1 x5).bind fun x6=>
 (p1 x6).bind fun x7=>
 ifb x7 (
 Option.map Sum.inr (some x5)) (
 some (.inl (wr (x5+1))))) (
 Option.map Sum.inr (Zv7 ()))
noncomputable def Zx7 (x1:(List Int)) (p1:(Int→Option Bool)):Option Int:=
 loop (Zw7 x1 p1) 0
theorem Zy7 (x1:(List Int)) (g1:Nat) (caps1:List AV) (p1:(Int→Option Bool)) (hc1:CloOK Tryz.prog g1 caps1 (fun z=>[.iv z]) p1 (fun z=>.bv z)) (r:Int) (h:Zx7 x1 p1=some r):Zy2 Tryz.prog 92 [.sl 1 (List.map Zb5 x1),.clo g1 caps1] (.iv r):=by
 refine Z23 ok92 rfl rfl fun w0 H0=>?_
 rw [Zx7] at h
 refine Zt2 11 ?_;dsimp only [go_sem];refine An ?_;refine Zu4 (fun (_:Unit)=>(⟨(an 19 []),[],[]⟩:St)) Zv7 r ?_ fun J1=>?_
 ·rintro ⟨⟩ h;rw [Zv7] at h;(try dsimp only);refine Zt2 4 ?_;dsimp only [go_sem];refine An ?_;exact Z45 (res:=fun (r:Int)=>.iv r) ok92 h
 ·refine Zt2 1 ?_;dsimp only [go_sem];refine An ?_;refine Zv4 h (fun (x5:Int)=>(⟨(.sl 1 (List.map Zb5 x1) :: .clo g1 caps1::an 5 (.iv (ln Zb5 x1) :: .iv x5::an 10 [])),[],[]⟩:St)) (by simp [go_sem]) (by intro x5;first | rfl | simp [go_sem,Zf4 _ hc1.pu]) ?_;rintro n1 x5 y1 h hin1 hout1;rw [Zw7] at h;(try dsimp only);refine Zt2 5 ?_;dsimp only [go_sem];refine An ?_;refine Zw4 h rfl (fun _ h=>?_) fun _ h=>?_
  ·refine Zt2 13 ?_;dsimp only [go_sem];refine An ?_;obtain ⟨x6,ex6,h⟩:=Bs h;refine Zz4 Zb5 ex6 trivial rfl rfl rfl ?_;refine Zt2 1 ?_;dsimp only [go_sem];refine An ?_;obtain ⟨x7,ex7,h⟩:=Bs h;refine Za5 trivial rfl hc1 (x:=x6) ex7 (by first | exact Zg4 _ | simp [go_sem]) (by first | rfl | simp [go_sem,hc1.pu]) ?_;refine Zt2 1 ?_;dsimp only [go_sem];refine An ?_;refine Zw4 h rfl (fun _ h=>?_) fun _ h=>?_
   ·refine Zt2 5 ?_;dsimp only [go_sem];refine An ?_;exact Z45 (res:=fun (r:Int)=>.iv r) ok92 (Zt4 h hout1)
   ·refine Zt2 6 ?_;dsimp only [go_sem];refine An ?_;exact Z55 h hin1 (hok:=by first | rfl | simp [go_sem,Zf4 _ hc1.pu])
  ·refine Zt2 1 ?_;dsimp only [go_sem];refine An ?_;exact Z65 J1 (s:=()) (Zt4 h hout1) (hok:=by first | rfl | simp [go_sem,Zf4 _ hc1.pu])
def Zz7 (_F:Nat):Unit→Option Int
| ()=>
 some (-1)
theorem Z08 {F:Nat}:∀s,ole (Zz7 F s) (Zv7 s):=by
 rintro ⟨⟩
 unfold Zz7 Zv7
 try dsimp only
 with_reducible repeat' first | exact Zn4 _ | assumption | intro _ | refine Zo4 ?_ ?_ | refine Zp4 ?_ ?_ | refine Zq4 ?_ | refine Zs4 ?_ | apply h_p1
def Z18 (F:Nat) (x1:(List Int)) (p1:(Int→Option Bool)):Int→Option (Int ⊕ Int)
| x5=>
 ifb (decide (x5<(ln Zb5 x1))) (
 (at_ x1 x5).bind fun x6=>
 (p1 x6).bind fun x7=>
 ifb x7 (
 Option.map Sum.inr (some x5)) (
 some (.inl (wr (x5+1))))) (
 Option.map Sum.inr (Zz7 F ()))
theorem Z28 {F:Nat} {x1:(List Int)} {p1 q1:(Int→Option Bool)} (h_p1:∀z,ole (p1 z) (q1 z)):∀s,ole (Z18 F x1 p1 s) (Zw7 x1 q1 s):=by
 intro x5
 unfold Z18 Zw7
 try dsimp only
 with_reducible repeat' first | exact Zn4 _ | assumption | intro _ | refine Zo4 ?_ ?_ | refine Zp4 ?_ ?_ | refine Zq4 ?_ | refine Zs4 ?_ | apply Z08 | apply h_p1
def Z38 (F:Nat) (x1:(List Int)) (p1:(Int→Option Bool)):Option Int:=
 Zr4 F (Z18 F x1 p1) 0
theorem Z48 {F:Nat} {x1:(List Int)} {p1 q1:(Int→Option Bool)} (h_p1:∀z,ole (p1 z) (q1 z)):ole (Z38 F x1 p1) (Zx7 x1 q1):=by
 unfold Z38 Zx7
 with_reducible repeat' first | exact Zn4 _ | assumption | intro _ | refine Zo4 ?_ ?_ | refine Zp4 ?_ ?_ | refine Zq4 ?_ | refine Zs4 ?_ | apply Z08 | apply Z28 | apply h_p1
set_option maxRecDepth 100000
set_option maxHeartbeats 4000000
@[go_sem] def e57:EC:=.seq (.reg [(Qa 4 (.mv (.c .ff)))]) (.seq (.reg [(Qm 5 0),(Qm 6 1),(Qa 7 (.call 92 [(.t 5),(.t 6)])),(Qa 8 (.bin .geq (.t 7) (.c (.iv 0)))),(Qm 4 8)]) (.ret))
theorem ok57:FnOK Tryz.prog 57 Tryz.f57 e57 [.t 4] 2 7:=⟨by kernel_rfl,⟨_,rfl,by kernel_rfl⟩,by kernel_rfl,by kernel_rfl⟩
noncomputable def Z58 (x1:(List Int)) (p1:(Int→Option Bool)):Option Bool:=
 (Zx7 x1 p1).bind fun x2=>
 some (decide (0≤x2))
theorem Z68 (x1:(List Int)) (g1:Nat) (caps1:List AV) (p1:(Int→Option Bool)) (hc1:CloOK Tryz.prog g1 caps1 (fun z=>[.iv z]) p1 (fun z=>.bv z)) (r:Bool) (h:Z58 x1 p1=some r):Zy2 Tryz.prog 57 [.sl 1 (List.map Zb5 x1),.clo g1 caps1] (.bv r):=by
 refine Z23 ok57 rfl rfl fun w0 H0=>?_
 rw [Z58] at h
 refine Zt2 8 ?_;dsimp only [go_sem];refine An ?_;obtain ⟨x2,ex2,h⟩:=Bs h;refine Z73 trivial (Zy7 x1 _ _ p1 hc1 _ ex2) (hp:=(by first | rfl | simp [go_sem,hc1.pu])) (h:=?_);refine Zt2 3 ?_;dsimp only [go_sem];refine An ?_;exact Z45 (res:=fun (r:Bool)=>.bv r) ok57 h
def Z78 (F:Nat) (x1:(List Int)) (p1:(Int→Option Bool)):Option Bool:=
 (Z38 F x1 p1).bind fun x2=>
 some (decide (0≤x2))
theorem Z88 {F:Nat} {x1:(List Int)} {p1 q1:(Int→Option Bool)} (h_p1:∀z,ole (p1 z) (q1 z)):ole (Z78 F x1 p1) (Z58 x1 q1):=by
 unfold Z78 Z58
 with_reducible repeat' first | exact Zn4 _ | assumption | intro _ | refine Zo4 ?_ ?_ | refine Zp4 ?_ ?_ | refine Zq4 ?_ | refine Zs4 ?_ | apply Z48 | apply h_p1
set_option maxRecDepth 100000
set_option maxHeartbeats 4000000
@[go_sem] def e68:EC:=.seq (.reg [(Qx 2 77 2 0),(Qa 3 (.mv (.c .ff)))]) (.seq (.reg [(Qf 4 0 2),(Ql 5 4),(Qa 6 (.bin .lss (.t 5) (.c (.iv 0)))),(Qm 7 6),(Qh 8 7 false 0 2),(Qn 9 7 false 8),(Qh 10 7 false 1 2),(Qn 11 7 false 10),(Qg 12 7 false (.bin .geq (.t 9) (.t 11))),(Qq 13 7 12),(Qm 14 13),(Qh 15 14 false 1 2),(Qn 16 14 false 15),(Qh 17 14 false 0 1),(Qn 18 14 false 17),(Qg 19 14 false (.bin .geq (.t 16) (.t 18))),(Qq 20 14 19),(Qm 3 20)]) (.ret))
theorem ok68:FnOK Tryz.prog 68 Tryz.f68 e68 [.t 3] 2 19:=⟨by kernel_rfl,⟨_,rfl,by kernel_rfl⟩,by kernel_rfl,by kernel_rfl⟩
noncomputable def Z98:Bool→Option Bool
| x3=>
 some x3
noncomputable def Za8 (x1:Edge) (x2:Graph):Option Bool:=
 ifb (decide (x1.A<0)) (
 Z98 true) (
 ifb (decide (x1.B≤x1.A)) (
 Z98 true) (
 Z98 (decide (x2.N≤x1.B))))
theorem Zb8 (x1:Edge) (x2:Graph) (r:Bool) (h:Za8 x1 x2=some r):Zy2 Tryz.prog 68 [.agg (Edge.row x1),.elt (Graph.row x2) 0] (.bv r):=by
 refine Z23 ok68 rfl rfl fun w0 H0=>?_
 rw [Za8] at h
 refine Zt2 11 ?_;dsimp only [go_sem];refine An ?_;refine Zu4 (fun (x3:Bool)=>(⟨(an 3 (.bv x3::an 17 [])),[],[]⟩:St)) Z98 r ?_ fun J1=>?_
 ·intro x3 h;rw [Z98] at h;(try dsimp only);exact Z45 (res:=fun (r:Bool)=>.bv r) ok68 h
 ·refine Z35 7 h rfl (fun _ h=>?_) fun _ h=>?_
  ·dsimp only [go_sem];refine Zt2 15 ?_;dsimp only [go_sem];refine An ?_;exact Z65 J1 (s:=true) h
  ·dsimp only [go_sem];refine Zt2 7 ?_;dsimp only [go_sem];refine An ?_;refine Z35 14 h rfl (fun _ h=>?_) fun _ h=>?_
   ·dsimp only [go_sem];refine Zt2 8 ?_;dsimp only [go_sem];refine An ?_;exact Z65 J1 (s:=true) h
   ·dsimp only [go_sem];refine Zt2 8 ?_;dsimp only [go_sem];refine An ?_;exact Z65 J1 (s:=decide (x2.N≤x1.B)) h
def Zc8 (_F:Nat):Bool→Option Bool
| x3=>
 some x3
theorem Zd8 {F:Nat}:∀s,ole (Zc8 F s) (Z98 s):=by
 intro x3
 unfold Zc8 Z98
 try dsimp only
 with_reducible repeat' first | exact Zn4 _ | assumption | intro _ | refine Zo4 ?_ ?_ | refine Zp4 ?_ ?_ | refine Zq4 ?_ | refine Zs4 ?_
def Ze8 (F:Nat) (x1:Edge) (x2:Graph):Option Bool:=
 ifb (decide (x1.A<0)) (
 Zc8 F true) (
 ifb (decide (x1.B≤x1.A)) (
 Zc8 F true) (
 Zc8 F (decide (x2.N≤x1.B))))
theorem Zf8 {F:Nat} {x1:Edge} {x2:Graph}:ole (Ze8 F x1 x2) (Za8 x1 x2):=by
 unfold Ze8 Za8
 with_reducible repeat' first | exact Zn4 _ | assumption | intro _ | refine Zo4 ?_ ?_ | refine Zp4 ?_ ?_ | refine Zq4 ?_ | refine Zs4 ?_ | apply Zd8
set_option maxRecDepth 100000
set_option maxHeartbeats 4000000
@[go_sem] def e126:EC:=.seq (.reg [(Qa 2 (.mv (.c .ff)))]) (.seq (.reg [(Qm 3 0),(Qm 4 0),(Qa 5 (.bin .neq (.t 3) (.t 4))),(Qm 2 5)]) (.ret))
theorem ok126:FnOK Tryz.prog 126 Tryz.f126 e126 [.t 2] 1 5:=⟨by kernel_rfl,⟨_,rfl,by kernel_rfl⟩,by kernel_rfl,by kernel_rfl⟩
noncomputable def Zg8 (x1:Int):Option Bool:=
 some (!decide (x1=x1))
theorem Zh8 (x1:Int) (r:Bool) (h:Zg8 x1=some r):Zy2 Tryz.prog 126 [.iv x1] (.bv r):=by
 refine Z23 ok126 rfl rfl fun w0 H0=>?_
 rw [Zg8] at h
 refine Zt2 11 ?_;dsimp only [go_sem];refine An ?_;exact Z45 (res:=fun (r:Bool)=>.bv r) ok126 h
def Zi8 (_F:Nat) (x1:Int):Option Bool:=
 some (!decide (x1=x1))
theorem Zj8 {F:Nat} {x1:Int}:ole (Zi8 F x1) (Zg8 x1):=by
 unfold Zi8 Zg8
 with_reducible repeat' first | exact Zn4 _ | assumption | intro _ | refine Zo4 ?_ ?_ | refine Zp4 ?_ ?_ | refine Zq4 ?_ | refine Zs4 ?_
set_option maxRecDepth 100000
set_option maxHeartbeats 4000000
@[go_sem] def e98:EC:=.seq (.reg [(Qi 4 0)]) (.seq (.reg [(Qm 7 0),(Qa 8 (.call 126 [(.t 7)])),(Qm 5 8)]) (.seq (.reg [(Qm 9 1),(Qa 10 (.call 126 [(.t 9)])),(Qm 6 10)]) (.seq (.seq (.reg [(Qm 11 5)]) (.ite (.t 11) (.seq (.seq (.reg [(Qm 12 6)]) (.ite (.t 12) (.seq (.reg [(Qi 4 0)]) (.ret)) (.skip))) (.seq (.reg [(Qa 4 (.mv (.c (.iv (-1)))))]) (.ret))) (.skip))) (.seq (.seq (.reg [(Qm 13 6)]) (.ite (.t 13) (.seq (.reg [(Qi 4 1)]) (.ret)) (.skip))) (.seq (.seq (.reg [(Qm 14 0),(Qm 15 1),(Qa 16 (.bin .lss (.t 14) (.t 15)))]) (.ite (.t 16) (.seq (.reg [(Qa 4 (.mv (.c (.iv (-1)))))]) (.ret)) (.skip))) (.seq (.seq (.reg [(Qm 17 0),(Qm 18 1),(Qa 19 (.bin .gtr (.t 17) (.t 18)))]) (.ite (.t 19) (.seq (.reg [(Qi 4 1)]) (.ret)) (.skip))) (.seq (.reg [(Qi 4 0)]) (.ret))))))))
theorem ok98:FnOK Tryz.prog 98 Tryz.f98 e98 [.t 4] 2 18:=⟨by kernel_rfl,⟨_,rfl,by kernel_rfl⟩,by kernel_rfl,by kernel_rfl⟩
noncomputable def Zk8 (x1:Int) (x2:Int):Option Int:=
 (Zg8 x1).bind fun x3=>
 (Zg8 x2).bind fun x4=>
 ifb x3 (
 ifb x4 (
 some 0) (
 some (-1))) (
 ifb x4 (
 some 1) (
 ifb (decide (x1<x2)) (
 some (-1)) (
 ifb (decide (x2<x1)) (
 some 1) (
 some 0))))
theorem Zl8 (x1:Int) (x2:Int) (r:Int) (h:Zk8 x1 x2=some r):Zy2 Tryz.prog 98 [.iv x1,.iv x2] (.iv r):=by
 refine Z23 ok98 rfl rfl fun w0 H0=>?_
 rw [Zk8] at h
 refine Zt2 7 ?_;dsimp only [go_sem];refine An ?_;obtain ⟨x3,ex3,h⟩:=Bs h;refine Z73 trivial (Zh8 x1 _ ex3) (h:=?_);refine Zt2 5 ?_;dsimp only [go_sem];refine An ?_;obtain ⟨x4,ex4,h⟩:=Bs h;refine Z73 trivial (Zh8 x2 _ ex4) (h:=?_);refine Zt2 7 ?_;dsimp only [go_sem];refine An ?_;refine Zw4 h rfl (fun _ h=>?_) fun _ h=>?_
 ·refine Zt2 5 ?_;dsimp only [go_sem];refine An ?_;refine Zw4 h rfl (fun _ h=>?_) fun _ h=>?_
  ·refine Zt2 4 ?_;dsimp only [go_sem];refine An ?_;exact Z45 (res:=fun (r:Int)=>.iv r) ok98 h
  ·refine Zt2 5 ?_;dsimp only [go_sem];refine An ?_;exact Z45 (res:=fun (r:Int)=>.iv r) ok98 h
 ·refine Zt2 6 ?_;dsimp only [go_sem];refine An ?_;refine Zw4 h rfl (fun _ h=>?_) fun _ h=>?_
  ·refine Zt2 4 ?_;dsimp only [go_sem];refine An ?_;exact Z45 (res:=fun (r:Int)=>.iv r) ok98 h
  ·refine Zt2 8 ?_;dsimp only [go_sem];refine An ?_;refine Zw4 h rfl (fun _ h=>?_) fun _ h=>?_
   ·refine Zt2 4 ?_;dsimp only [go_sem];refine An ?_;exact Z45 (res:=fun (r:Int)=>.iv r) ok98 h
   ·refine Zt2 8 ?_;dsimp only [go_sem];refine An ?_;refine Zw4 h rfl (fun _ h=>?_) fun _ h=>?_
    ·refine Zt2 4 ?_;dsimp only [go_sem];refine An ?_;exact Z45 (res:=fun (r:Int)=>.iv r) ok98 h
    ·refine Zt2 5 ?_;dsimp only [go_sem];refine An ?_;exact Z45 (res:=fun (r:Int)=>.iv r) ok98 h
def Zm8 (F:Nat) (x1:Int) (x2:Int):Option Int:=
 (Zi8 F x1).bind fun x3=>
 (Zi8 F x2).bind fun x4=>
 ifb x3 (
 ifb x4 (
 some 0) (
 some (-1))) (
 ifb x4 (
 some 1) (
 ifb (decide (x1<x2)) (
 some (-1)) (
 ifb (decide (x2<x1)) (
 some 1) (
 some 0))))
theorem Zn8 {F:Nat} {x1:Int} {x2:Int}:ole (Zm8 F x1 x2) (Zk8 x1 x2):=by
 unfold Zm8 Zk8
 with_reducible repeat' first | exact Zn4 _ | assumption | intro _ | refine Zo4 ?_ ?_ | refine Zp4 ?_ ?_ | refine Zq4 ?_ | refine Zs4 ?_ | apply Zj8
set_option maxRecDepth 100000
set_option maxHeartbeats 4000000
@[go_sem] def e97_L0:EC:=.seq (.reg [(Qa 9 (.bin .lss (.t 8) (.t 7)))]) (.seq (.ite (.t 9) (.skip) (.exit 0)) (.seq (.blk 1 (.seq (.reg [(Qk 10 1 6 8),(Ql 11 10),(Qm 5 11)]) (.seq (.reg [(Qm 12 5),(Qm 13 3),(Qa 14 (.bin .neq (.t 12) (.t 13)))]) (.ite (.t 14) (.seq (.reg [(Qm 15 5),(Qm 2 15)]) (.ret)) (.skip))))) (.reg [(Qv 16 8 1),(Qm 8 16)])))
@[go_sem] def e97:EC:=.seq (.reg [(Qi 2 0)]) (.seq (.reg [(Qi 3 0)]) (.seq (.seq (.reg [(Qm 6 0),(Qa 7 (.len (.t 6))),(Qi 8 0)]) (.blk 0 (.loop e97_L0))) (.seq (.reg [(Qm 17 3),(Qm 2 17)]) (.ret))))
theorem ok97:FnOK Tryz.prog 97 Tryz.f97 e97 [.t 2] 1 17:=⟨by kernel_rfl,⟨_,rfl,by kernel_rfl⟩,by kernel_rfl,by kernel_rfl⟩
noncomputable def Zo8:Unit→Option Int
| ()=>
 some 0
noncomputable def Zp8 (x1:(List Int)):Int→Option (Int ⊕ Int)
| x4=>
 ifb (decide (x4<(ln Zb5 x1))) (
 (at_ x1 x4).bind fun x5=>
 ifb (!decide (x5=0)) (
 Option.map Sum.inr (some x5)) (
 some (.inl (wr (x4+1))))) (
 Option.map Sum.inr (Zo8 ()))
noncomputable def Zq8 (x1:(List Int)):Option Int:=
 loop (Zp8 x1) 0
theorem k_cmp_Or_int (x1:(List Int)) (r:Int) (h:Zq8 x1=some r):Zy2 Tryz.prog 97 [.sl 1 (List.map Zb5 x1)] (.iv r):=by
 refine Z23 ok97 rfl rfl fun w0 H0=>?_
 rw [Zq8] at h
 refine Zt2 15 ?_;dsimp only [go_sem];refine An ?_;refine Zu4 (fun (_:Unit)=>(⟨(an 3 (.iv 0::an 14 [])),[],[]⟩:St)) Zo8 r ?_ fun J1=>?_
 ·rintro ⟨⟩ h;rw [Zo8] at h;(try dsimp only);refine Zt2 5 ?_;dsimp only [go_sem];refine An ?_;exact Z45 (res:=fun (r:Int)=>.iv r) ok97 h
 ·refine Zt2 1 ?_;dsimp only [go_sem];refine An ?_;refine Zv4 h (fun (x4:Int)=>(⟨(an 3 (.iv 0 :: .any :: .any :: .sl 1 (List.map Zb5 x1) :: .iv (ln Zb5 x1) :: .iv x4::an 9 [])),[],[]⟩:St)) (by simp [go_sem]) (by intro x4;first | rfl | simp [go_sem]) ?_;rintro n1 x4 y1 h hin1 hout1;rw [Zp8] at h;(try dsimp only);refine Zt2 5 ?_;dsimp only [go_sem];refine An ?_;refine Zw4 h rfl (fun _ h=>?_) fun _ h=>?_
  ·refine Zt2 5 ?_;dsimp only [go_sem];refine An ?_;obtain ⟨x5,ex5,h⟩:=Bs h;refine Zz4 Zb5 ex5 trivial rfl rfl rfl ?_;refine Zt2 9 ?_;dsimp only [go_sem];refine An ?_;refine Zw4 h rfl (fun _ h=>?_) fun _ h=>?_
   ·refine Zt2 5 ?_;dsimp only [go_sem];refine An ?_;exact Z45 (res:=fun (r:Int)=>.iv r) ok97 (Zt4 h hout1)
   ·refine Zt2 6 ?_;dsimp only [go_sem];refine An ?_;exact Z55 h hin1
  ·refine Zt2 1 ?_;dsimp only [go_sem];refine An ?_;exact Z65 J1 (s:=()) (Zt4 h hout1)
def Zr8 (_F:Nat):Unit→Option Int
| ()=>
 some 0
theorem Zs8 {F:Nat}:∀s,ole (Zr8 F s) (Zo8 s):=by
 rintro ⟨⟩
 unfold Zr8 Zo8
 try dsimp only
 with_reducible repeat' first | exact Zn4 _ | assumption | intro _ | refine Zo4 ?_ ?_ | refine Zp4 ?_ ?_ | refine Zq4 ?_ | refine Zs4 ?_
def Zt8 (F:Nat) (x1:(List Int)):Int→Option (Int ⊕ Int)
| x4=>
 ifb (decide (x4<(ln Zb5 x1))) (
 (at_ x1 x4).bind fun x5=>
 ifb (!decide (x5=0)) (
 Option.map Sum.inr (some x5)) (
 some (.inl (wr (x4+1))))) (
 Option.map Sum.inr (Zr8 F ()))
theorem Zu8 {F:Nat} {x1:(List Int)}:∀s,ole (Zt8 F x1 s) (Zp8 x1 s):=by
 intro x4
 unfold Zt8 Zp8
 try dsimp only
 with_reducible repeat' first | exact Zn4 _ | assumption | intro _ | refine Zo4 ?_ ?_ | refine Zp4 ?_ ?_ | refine Zq4 ?_ | refine Zs4 ?_ | apply Zs8
def Zv8 (F:Nat) (x1:(List Int)):Option Int:=
 Zr4 F (Zt8 F x1) 0
theorem le_cmp_Or_int {F:Nat} {x1:(List Int)}:ole (Zv8 F x1) (Zq8 x1):=by
 unfold Zv8 Zq8
 with_reducible repeat' first | exact Zn4 _ | assumption | intro _ | refine Zo4 ?_ ?_ | refine Zp4 ?_ ?_ | refine Zq4 ?_ | refine Zs4 ?_ | apply Zs8 | apply Zu8
set_option maxRecDepth 100000
set_option maxHeartbeats 4000000
@[go_sem] def e70:EC:=.seq (.reg [(Qx 2 77 2 0),(Qx 3 77 2 1),(Qi 4 0)]) (.seq (.drw [(Qf 5 0 2),(Ql 6 5),(Qf 7 0 3),(Ql 8 7),(Qa 9 (.call 98 [(.t 6),(.t 8)])),(Qf 10 1 2),(Ql 11 10),(Qf 12 1 3),(Ql 13 12),(Qa 14 (.call 98 [(.t 11),(.t 13)])),(Qa 15 (.bsl 3 1 2 [.iv 0] [(0,(.t 9)),(1,(.t 14))])),(Qa 16 (.call 97 [(.t 15)])),(Qm 4 16)] [[],[0],[],[2],[1,3],[],[5],[],[7],[6,8,4],[4,9],[10,9],[11,11,0,1,2,3,4,5,6,7,8,9,10,11]] [[1],[0,4],[3],[2,4],[1,3,10],[6],[5,9],[8],[7,9],[6,8,10],[4,9,11],[10,12],[11]]) (.ret))
theorem ok70:FnOK Tryz.prog 70 Tryz.f70 e70 [.t 4] 2 15:=⟨by kernel_rfl,⟨_,rfl,by kernel_rfl⟩,by kernel_rfl,by kernel_rfl⟩
noncomputable def Zw8 (x1:Edge) (x2:Edge):Option Int:=
 (Zk8 x1.A x2.A).bind fun x3=>
 (Zk8 x1.B x2.B).bind fun x4=>
 (Zq8 ([x3,x4])).bind fun x5=>
 some x5
theorem k_graph_rank (x1:Edge) (x2:Edge) (r:Int) (h:Zw8 x1 x2=some r):Zy2 Tryz.prog 70 [.agg (Edge.row x1),.agg (Edge.row x2)] (.iv r):=by
 refine Z23 ok70 rfl rfl fun w0 H0=>?_
 rw [Zw8] at h
 refine Zt2 7 ?_;dsimp only [go_sem];refine An ?_;refine Zs3 (by kernel_rfl) fun all hall hs hnap haf=>?_;dsimp only [go_sem];refine Zq5 hall hs haf hnap 8 5 [4,1,4,4] [(5,[.ptr 0 0,.iv x1.A,.ptr 1 0,.iv x2.A]),(1,[.ptr 0 1,.iv x1.B,.ptr 1 1,.iv x2.B])] (by kernel_rfl) ?_;dsimp only [go_sem];refine Z34 4 rfl ?_;obtain ⟨x3,ex3,h⟩:=Bs h;refine Z84 hall rfl trivial (Zl8 x1.A x2.A _ ex3) (h:=?_);dsimp only [go_sem];refine Z34 9 rfl ?_;obtain ⟨x4,ex4,h⟩:=Bs h;refine Z84 hall rfl trivial (Zl8 x1.B x2.B _ ex4) (h:=?_)
 dsimp only [go_sem];refine Z34 10 rfl ?_;refine Z74 hall rfl trivial ?_;dsimp only [go_sem];refine Z34 11 rfl ?_;obtain ⟨x5,ex5,h⟩:=Bs h;refine Z95 hall rfl trivial ((Z75.refl _).slice 0 rfl) (k_cmp_Or_int ([x3,x4]) _ ex5) (h:=?_);dsimp only [go_sem];refine Zp5 hall hs haf hnap 1 0 ?_;dsimp only [go_sem];refine An ?_;refine Z24 rfl ?_ _;exact Z45 (res:=fun (r:Int)=>.iv r) ok70 h
def Zx8 (F:Nat) (x1:Edge) (x2:Edge):Option Int:=
 (Zm8 F x1.A x2.A).bind fun x3=>
 (Zm8 F x1.B x2.B).bind fun x4=>
 (Zv8 F ([x3,x4])).bind fun x5=>
 some x5
theorem Zy8 {F:Nat} {x1:Edge} {x2:Edge}:ole (Zx8 F x1 x2) (Zw8 x1 x2):=by
 unfold Zx8 Zw8
 with_reducible repeat' first | exact Zn4 _ | assumption | intro _ | refine Zo4 ?_ ?_ | refine Zp4 ?_ ?_ | refine Zq4 ?_ | refine Zs4 ?_ | apply Zn8 | apply le_cmp_Or_int
set_option maxRecDepth 100000
set_option maxHeartbeats 4000000
@[go_sem] def e40_L0:EC:=.seq (.reg [(Qa 30 (.bin .lss (.t 29) (.t 28)))]) (.seq (.ite (.t 30) (.skip) (.exit 0)) (.seq (.blk 1 (.seq (.reg [(Qm 31 29),(Qm 4 31)]) (.seq (.drw [(Qm 32 4),(Qa 33 (.bin .gtr (.t 32) (.c (.iv 0)))),(Qm 34 33),(Qh 35 34 true 1 1),(Qn 36 34 true 35),(Qg 37 34 true (.mv (.t 4))),(Qg 38 34 true (.bin .sub (.t 37) (.c (.iv 1)))),(Qg 39 34 true (.idx 2 (.t 36) (.t 38))),(Qg 40 34 true (.loadA 2 (.t 39))),(Qh 41 34 true 1 1),(Qn 42 34 true 41),(Qg 43 34 true (.mv (.t 4))),(Qg 44 34 true (.idx 2 (.t 42) (.t 43))),(Qg 45 34 true (.loadA 2 (.t 44))),(Qg 46 34 true (.call 70 [(.t 40),(.t 45)])),(Qg 47 34 true (.bin .geq (.t 46) (.c (.iv 0)))),(Qp 48 34 47)] [[],[0],[1],[2],[3,2],[2],[5,2],[4,6,2],[7,2],[2],[9,2],[2],[10,11,2],[12,2],[8,13,2,2],[14,2],[2,15]] [[1],[0,2],[1,3,4,5,6,7,8,9,10,11,12,13,14,15,16],[2,4],[2,3,7],[2,6],[2,5,7],[2,4,6,8],[2,7,14],[2,10],[2,9,12],[2,12],[2,10,11,13],[2,12,14],[2,8,13,15],[2,14,16],[2,15]]) (.ite (.t 48) (.seq (.reg [(Qi 2 30)]) (.ret)) (.skip))))) (.reg [(Qv 49 29 1),(Qm 29 49)])))
@[go_sem] def e40:EC:=.seq (.reg [(Qx 1 24 2 0),(Qi 2 0)]) (.seq (.reg [(Qa 5 (.mkf 68 [(.t 1)])),(Qm 3 5)]) (.seq (.seq (.reg [(Qf 6 0 1),(Ql 7 6),(Qa 8 (.bin .lss (.t 7) (.c (.iv 0)))),(Qm 9 8),(Qh 10 9 false 0 1),(Qn 11 9 false 10),(Qg 12 9 false (.bin .gtr (.t 11) (.c (.iv 64)))),(Qq 13 9 12),(Qm 14 13),(Qh 15 14 false 1 1),(Qn 16 14 false 15),(Qg 17 14 false (.len (.t 16))),(Qg 18 14 false (.bin .gtr (.t 17) (.c (.iv 400)))),(Qq 19 14 18),(Qm 20 19),(Qh 21 20 false 1 1),(Qn 22 20 false 21),(Qg 23 20 false (.mv (.t 3))),(Qg 24 20 false (.call 69 [(.t 22),(.t 23)])),(Qq 25 20 24)]) (.ite (.t 25) (.seq (.reg [(Qi 2 30)]) (.ret)) (.skip))) (.seq (.seq (.reg [(Qf 26 1 1),(Ql 27 26),(Qa 28 (.len (.t 27))),(Qi 29 0)]) (.blk 0 (.loop e40_L0))) (.seq (.reg [(Qi 2 0)]) (.ret)))))
theorem ok40:FnOK Tryz.prog 40 Tryz.f40 e40 [.t 2] 1 49:=⟨by kernel_rfl,⟨_,rfl,by kernel_rfl⟩,by kernel_rfl,by kernel_rfl⟩
noncomputable def Zz8:Unit→Option Int
| ()=>
 some 0
noncomputable def Z09 (x9:Int):Bool→Option (Int ⊕ Int)
| x13=>
 ifb x13 (
 Option.map Sum.inr (some 30)) (
 some (.inl (wr (x9+1))))
noncomputable def Z19 (x1:Graph):Int→Option (Int ⊕ Int)
| x9=>
 ifb (decide (x9<(ln Edge.row x1.Edges))) (
 ifb (decide (0<x9)) (
 (at_ x1.Edges (wr (x9-1))).bind fun x10=>
 (at_ x1.Edges x9).bind fun x11=>
 (Zw8 x10 x11).bind fun x12=>
 (Z09 x9) (decide (0≤x12))) (
 (Z09 x9) false)) (
 Option.map Sum.inr (Zz8 ()))
noncomputable def Z29 (x1:Graph):Bool→Option Int
| x3=>
 ifb x3 (
 some 30) (
 loop (Z19 x1) 0)
noncomputable def Z39 (x1:Graph):Option Int:=
 ifb (decide (x1.N<0)) (
 (Z29 x1) true) (
 ifb (decide (64<x1.N)) (
 (Z29 x1) true) (
 ifb (decide (400<(ln Edge.row x1.Edges))) (
 (Z29 x1) true) (
 (Zd7 x1.Edges ((fun z=>Za8 z x1))).bind fun x2=>
 (Z29 x1) x2)))
theorem Z49 (x1:Graph) (r:Int) (h:Z39 x1=some r):Zy2 Tryz.prog 40 [.agg (Graph.row x1)] (.iv r):=by
 refine Z23 ok40 rfl rfl fun w0 H0=>?_
 rw [Z39] at h
 refine Zt2 17 ?_;dsimp only [go_sem];refine An ?_;refine Zu4 (fun (x3:Bool)=>(⟨(.any :: .ptr 0 0::an 23 (.bv x3::an 24 [])),[some ⟨24,[.iv x1.N,.sl 2 (List.map Edge.row x1.Edges)]⟩],[]⟩:St)) (Z29 x1) r ?_ fun J1=>?_
 ·intro x3 h;rw [Z29] at h;(try dsimp only);refine Zw4 h rfl (fun _ h=>?_) fun _ h=>?_
  ·refine Zt2 4 ?_;dsimp only [go_sem];refine An ?_;exact Z45 (res:=fun (r:Int)=>.iv r) ok40 h
  ·refine Zt2 9 ?_;dsimp only [go_sem];refine An ?_;refine Zu4 (fun (_:Unit)=>(⟨(an 50 []),[],[]⟩:St)) Zz8 r ?_ fun J2=>?_
   ·rintro ⟨⟩ h;rw [Zz8] at h;(try dsimp only);refine Zt2 4 ?_;dsimp only [go_sem];refine An ?_;exact Z45 (res:=fun (r:Int)=>.iv r) ok40 h
   ·refine Zt2 1 ?_;dsimp only [go_sem];refine An ?_;refine Zv4 h (fun (x9:Int)=>(⟨(.any :: .ptr 0 0::an 26 (.iv (ln Edge.row x1.Edges) :: .iv x9::an 20 [])),[some ⟨24,[.iv x1.N,.sl 2 (List.map Edge.row x1.Edges)]⟩],[]⟩:St)) (by simp [go_sem]) (by intro x9;first | rfl | simp [go_sem]) ?_;rintro n1 x9 y1 h hin1 hout1;rw [Z19] at h;(try dsimp only);refine Zt2 5 ?_;dsimp only [go_sem];refine An ?_;refine Zw4 h rfl (fun _ h=>?_) fun _ h=>?_
    ·refine Zt2 9 ?_;dsimp only [go_sem];refine An ?_;refine Zu4 (fun (x13:Bool)=>(⟨(.any :: .ptr 0 0::an 26 (.iv (ln Edge.row x1.Edges) :: .iv x9::an 18 [.bv x13,.any])),[some ⟨24,[.iv x1.N,.sl 2 (List.map Edge.row x1.Edges)]⟩],[]⟩:St)) (Z09 x9) y1 ?_ fun J3=>?_
     ·intro x13 h;rw [Z09] at h;(try dsimp only);refine Zw4 h rfl (fun _ h=>?_) fun _ h=>?_
      ·refine Zt2 4 ?_;dsimp only [go_sem];refine An ?_;exact Z45 (res:=fun (r:Int)=>.iv r) ok40 (Zt4 h hout1)
      ·refine Zt2 6 ?_;dsimp only [go_sem];refine An ?_;exact Z55 h hin1
     ·refine Zs3 (by kernel_rfl) fun all hall hs hnap haf=>?_;dsimp only [go_sem];refine Zp5 hall hs haf hnap 3 14 ?_;dsimp only [go_sem];refine An ?_;refine Ze5 34 h rfl (fun _ h=>?_) fun _ h=>?_
      ·dsimp only [go_sem];refine Zq5 hall hs haf hnap 7 7 [7,2,3,5] [(35,[.ptr 0 1,.sl 2 (List.map Edge.row x1.Edges),.iv x9,.iv (wr (x9-1))]),(2,[.ptr 0 1,.sl 2 (List.map Edge.row x1.Edges),.iv x9])] (by kernel_rfl) ?_;dsimp only [go_sem];obtain ⟨x10,ex10,h⟩:=Bs h;refine Z05 hall hs haf hnap 7 Edge.row ex10 rfl rfl trivial rfl rfl rfl rfl ?_;refine Zp5 hall hs haf hnap 1 5 ?_;dsimp only [go_sem];refine An ?_;obtain ⟨x11,ex11,h⟩:=Bs h;refine Z05 hall hs haf hnap 12 Edge.row ex11 rfl rfl trivial rfl rfl rfl rfl ?_
       refine Zp5 hall hs haf hnap 1 3 ?_;dsimp only [go_sem];refine An ?_;refine Z34 14 rfl ?_;obtain ⟨x12,ex12,h⟩:=Bs h;refine Z84 hall rfl trivial (k_graph_rank x10 x11 _ ex12) (h:=?_);dsimp only [go_sem];refine Zp5 hall hs haf hnap 2 0 ?_;dsimp only [go_sem];refine An ?_;refine Z24 rfl ?_ _;exact Z65 J3 (s:=decide (0≤x12)) h
      ·dsimp only [go_sem];refine Zq5 hall hs haf hnap 14 0 [17] [(35,[.un,.un,.un,.un,.un,.un,.un,.un,.un,.un,.un,.un,.un,.ff])] (by kernel_rfl) ?_;dsimp only [go_sem];refine Z24 rfl ?_ _;exact Z65 J3 (s:=false) h
    ·refine Zt2 1 ?_;dsimp only [go_sem];refine An ?_;exact Z65 J2 (s:=()) (Zt4 h hout1)
 ·refine Z35 9 h rfl (fun _ h=>?_) fun _ h=>?_
  ·dsimp only [go_sem];refine Zt2 17 ?_;dsimp only [go_sem];refine An ?_;exact Z65 J1 (s:=true) h
  ·dsimp only [go_sem];refine Zt2 5 ?_;dsimp only [go_sem];refine An ?_;refine Z35 14 h rfl (fun _ h=>?_) fun _ h=>?_
   ·dsimp only [go_sem];refine Zt2 12 ?_;dsimp only [go_sem];refine An ?_;exact Z65 J1 (s:=true) h
   ·dsimp only [go_sem];refine Zt2 6 ?_;dsimp only [go_sem];refine An ?_;refine Z35 20 h rfl (fun _ h=>?_) fun _ h=>?_
    ·dsimp only [go_sem];refine Zt2 6 ?_;dsimp only [go_sem];refine An ?_;exact Z65 J1 (s:=true) h
    ·dsimp only [go_sem];refine Zt2 3 ?_;dsimp only [go_sem];refine An ?_;obtain ⟨x2,ex2,h⟩:=Bs h;refine Z85 trivial ((Z75.refl _).block 0 rfl rfl) (Ze7 x1.Edges _ _ ((fun z=>Za8 z x1)) ⟨by kernel_rfl,rfl,fun z r hz=>Zb8 z x1 r hz⟩ _ ex2) (h:=?_);refine Zt2 2 ?_;dsimp only [go_sem];refine An ?_;exact Z65 J1 (s:=x2) h
def Z59 (_F:Nat):Unit→Option Int
| ()=>
 some 0
theorem Z69 {F:Nat}:∀s,ole (Z59 F s) (Zz8 s):=by
 rintro ⟨⟩
 unfold Z59 Zz8
 try dsimp only
 with_reducible repeat' first | exact Zn4 _ | assumption | intro _ | refine Zo4 ?_ ?_ | refine Zp4 ?_ ?_ | refine Zq4 ?_ | refine Zs4 ?_
def Z79 (_F:Nat) (x9:Int):Bool→Option (Int ⊕ Int)
| x13=>
 ifb x13 (
 Option.map Sum.inr (some 30)) (
 some (.inl (wr (x9+1))))
theorem Z89 {F:Nat} {x9:Int}:∀s,ole (Z79 F x9 s) (Z09 x9 s):=by
 intro x13
 unfold Z79 Z09
 try dsimp only
 with_reducible repeat' first | exact Zn4 _ | assumption | intro _ | refine Zo4 ?_ ?_ | refine Zp4 ?_ ?_ | refine Zq4 ?_ | refine Zs4 ?_ | apply Z69
def Z99 (F:Nat) (x1:Graph):Int→Option (Int ⊕ Int)
| x9=>
 ifb (decide (x9<(ln Edge.row x1.Edges))) (
 ifb (decide (0<x9)) (
 (at_ x1.Edges (wr (x9-1))).bind fun x10=>
 (at_ x1.Edges x9).bind fun x11=>
 (Zx8 F x10 x11).bind fun x12=>
 (Z79 F x9) (decide (0≤x12))) (
 (Z79 F x9) false)) (
 Option.map Sum.inr (Z59 F ()))
theorem Za9 {F:Nat} {x1:Graph}:∀s,ole (Z99 F x1 s) (Z19 x1 s):=by
 intro x9
 unfold Z99 Z19
 try dsimp only
 with_reducible repeat' first | exact Zn4 _ | assumption | intro _ | refine Zo4 ?_ ?_ | refine Zp4 ?_ ?_ | refine Zq4 ?_ | refine Zs4 ?_ | apply Z69 | apply Z89 | apply Zy8
def Zb9 (F:Nat) (x1:Graph):Bool→Option Int
| x3=>
 ifb x3 (
 some 30) (
 Zr4 F (Z99 F x1) 0)
theorem Zc9 {F:Nat} {x1:Graph}:∀s,ole (Zb9 F x1 s) (Z29 x1 s):=by
 intro x3
 unfold Zb9 Z29
 try dsimp only
 with_reducible repeat' first | exact Zn4 _ | assumption | intro _ | refine Zo4 ?_ ?_ | refine Zp4 ?_ ?_ | refine Zq4 ?_ | refine Zs4 ?_ | apply Z69 | apply Z89 | apply Zy8 | apply Za9
def Zd9 (F:Nat) (x1:Graph):Option Int:=
 ifb (decide (x1.N<0)) (
 (Zb9 F x1) true) (
 ifb (decide (64<x1.N)) (
 (Zb9 F x1) true) (
 ifb (decide (400<(ln Edge.row x1.Edges))) (
 (Zb9 F x1) true) (
 (Zf7 F x1.Edges ((fun z=>Ze8 F z x1))).bind fun x2=>
 (Zb9 F x1) x2)))
theorem Ze9 {F:Nat} {x1:Graph}:ole (Zd9 F x1) (Z39 x1):=by
 unfold Zd9 Z39
 with_reducible repeat' first | exact Zn4 _ | assumption | intro _ | refine Zo4 ?_ ?_ | refine Zp4 ?_ ?_ | refine Zq4 ?_ | refine Zs4 ?_ | apply Z69 | apply Z89 | apply Zy8 | apply Za9 | apply Zc9 | apply Zg7 | apply Zf8
end NX
end Go.Proofs.YthlodgjekbidcaaGreat
namespace Go.Proofs.YthlodgjekbidcaaGreat
namespace NX
open Go Go.RowKit
section
variable {c:Ctx} {M:Mem} {S S':St} {a:Act} {w:World} {fn:Func} {K:AV→List (Option Blk)→List (Option Sl)→Prop} {k:List It} {bs:List (Option Blk)} {ss:List (Option Sl)}
theorem isLL_ints {M:Mem} {zs:List Int} {vss:List (List Value)} (h:AV.isLL M 1 (zs.map Zb5) vss):vss.flatten=zs.map (Value.int .i64):=by
 induction zs generalizing vss with
 | nil=>simp [AV.isLL] at h;subst h;rfl
 | cons z zs ih=>
   obtain ⟨v,r,rfl,h1,h2,h3⟩:=h
   obtain ⟨u,q,rfl,h4,h5⟩:=h2
   simp only [AV.isL] at h5
   simp only [AV.is] at h4
   subst h5;subst h4
   simp [ih h3]
theorem Zf9 {M:Mem}:∀(zs:List Int),∃vss,AV.isLL M 1 (zs.map Zb5) vss∧vss.flatten=zs.map (Value.int .i64)
 | []=>⟨[],rfl,rfl⟩
 | z::zs=>by
   obtain ⟨vss,h1,h2⟩:=Zf9 (M:=M) zs
   exact ⟨[.int .i64 z]::vss,⟨_,_,rfl,rfl,⟨_,_,rfl,rfl,rfl⟩,h1⟩,by simp [h2]⟩
theorem sem_sort {ρ:Shelf.Ren} (Ly:Lays.n189 c.P ρ) {j T:Nat} {x:X} {zs:List Int} (hx:S.x x = .osl j) (hj:Zf S.ss j=some ⟨T,1,zs.map Zb5⟩) (hlen:zs.length<4611686018427387904):
  Z33 c S (.call (ρ.f 189) [x]) (.tup []) ⟨S.tm,S.bs,Zg S.ss j (some ⟨T,1,(zs.mergeSort fun x y=>decide (x≤y)).map Zb5⟩)⟩:=by
 intro ro ho M a w hT next Q hn
 obtain ⟨dst,op,ty,pos,af,gd⟩:=ro
 dsimp only at ho
 obtain ⟨cargs,argTypes,rfl,hfn,hxs⟩:=Z63 ho
 obtain ⟨q,rfl⟩:∃q,cargs = #[q]:=by
  have:cargs.toList.length=1:=by have:=congrArg List.length hxs;simpa using this
  obtain ⟨l⟩:=cargs
  match l,this with
  | [q],_=>exact ⟨q,rfl⟩
 have hqx:cX q=x:=by simpa using hxs
 have hq:=Z12 hT q
 rw [hqx,hx] at hq
 obtain ⟨hjn,hq⟩:=hq
 obtain ⟨g0,vss,h1,h2,h3,h4⟩:=hT.st.slc j _ hj
 dsimp only at h1 h3 g0
 have hfl:=isLL_ints h1
 have hrun:(execOp a.eval ⟨dst,.call ⟨.value (.func (ρ.f 189)), #[q],argTypes⟩,ty,pos,af,gd⟩).run c.P w = .ok (.enter (ρ.f 189) (#[q].map a.eval)) w:=by
  have he:a.eval (.func (ρ.f 189)) = .func (.func (ρ.f 189)) #[] #[]:=rfl
  generalize a.eval=ρ' at *
  simp [execOp,resolve,Deferred.ofValue,invoke,he,Z53 hfn]
 have e1:(#[q].map a.eval) = #[M.σ j]:=by
  apply Array.ext';simp;exact hq
 rw [e1] at hrun
 unfold Oper.wp
 rw [hrun]
 show Calls c.P (ρ.f 189) #[M.σ j] w _
 obtain ⟨rs,hr1,hr2⟩:=Zf9 (M:=M.sl) (zs.mergeSort fun x y=>decide (x≤y))
 have hone:∀v∈rs.flatten,v.oneCell'=true:=by
  rw [hr2];intro v hv
  obtain ⟨z,_,rfl⟩:=List.mem_map.1 hv;rfl
 have hl2:(zs.mergeSort fun x y=>decide (x≤y)).length=zs.length:=by simp
 rcases h3.2 with ⟨e2,e3⟩ | ⟨g,cap,cur,e2,hb,e3,e4,e5,e6,e7⟩
 ·have hz:zs=[]:=by simpa using e3
  subst hz
  rw [e2]
  refine (Any.slices_Sort_int_none Ly none 0 w).mono ?_
  rintro e w' ⟨rfl,rfl⟩
  refine hn M _ _ (.refl M) ?_ ⟨[],rfl,rfl⟩
  have:Zg S.ss j (some (⟨T,1,([].mergeSort fun (x y:Int)=>decide (x≤y)).map Zb5⟩:Sl))=S.ss:=by
   have hj':=hj
   simp only [List.map_nil] at hj'
   have:∀(l:List (Option Sl)) (j:Nat) (L:Sl),Zf l j=some L→Zg l j (some L)=l:=by
    intro l
    induction l with
    | nil=>intro j L h;simp [Zf] at h
    | cons x l ih=>intro j L h;cases j with
      | zero=>simp [Zf] at h;subst h;rfl
      | succ j=>simp only [Zg];rw [ih j L (by simpa [Zf] using h)]
   simpa using this _ _ _ hj'
  rw [this];exact hT.st
 ·have e4':zs.length≤cap:=by simpa using e4
  rw [e2]
  simp only [List.length_map]
  rw [Nat.mul_one,List.length_map] at e7
  rw [hfl] at e7
  refine (Any.slices_Sort_int Ly g 0 cap zs w (holds_of_blockI e3 e7) (Array.getElem?_eq_some_iff.1 e3).1 hlen).mono ?_
  rintro e w' ⟨rfl,n,os,rfl⟩
  refine hn M _ _ (.refl M) ?_ ⟨[],rfl,rfl⟩
  refine hT.st.rewrite hj (g:=g) (by rw [e2];rfl) (grownBy_sortedI _) (vss':=rs) hr1 hone ?_
  rw [hr2,List.length_map,hl2,e2,List.length_map]
  exact ownsRow_sortedI (ss:=zs) hl2 hb e3 e4' e5 e6
theorem V_sort {ρ:Shelf.Ren} (Ly:Lays.n189 c.P ρ) {d:Option Nat} {g:Option (Nat×Bool)} {l:List EOp} {j T f:Nat} {x:X} (zs:List Int) (hg:gm S g) (hf:f=ρ.f 189) (hx:S.x x = .osl j) (hj:Zf S.ss j=some ⟨T,1,zs.map Zb5⟩) (hlen:zs.length<4611686018427387904)
  (h:V c fn K (.ops l::k) ((⟨S.tm,S.bs,Zg S.ss j (some ⟨T,1,(zs.mergeSort fun x y=>decide (x≤y)).map Zb5⟩)⟩:St).put d (.tup []))):V c fn K (.ops (⟨d,g,.call f [x]⟩::l)::k) S:=by
 subst hf
 exact Z43 hg (sem_sort Ly hx hj hlen) rfl h
theorem sem_compact {ρ:Shelf.Ren} (Ly:Lays2.n20 c.P ρ) {j T:Nat} {x:X} {zs:List Int} (hx:S.x x = .osl j) (hj:Zf S.ss j=some ⟨T,1,zs.map Zb5⟩) (hlen:zs.length<4611686018427387904):
  Z33 c S (.call (ρ.f 20) [x]) (.osl (Zj S.ss)) ⟨S.tm,S.bs,Zg S.ss j none++[some ⟨T,1,(Lib.compact zs).map Zb5⟩]⟩:=by
 intro ro ho M a w hT next Q hn
 obtain ⟨dst,op,ty,pos,af,gd⟩:=ro
 dsimp only at ho
 obtain ⟨cargs,argTypes,rfl,hfn,hxs⟩:=Z63 ho
 obtain ⟨q,rfl⟩:∃q,cargs = #[q]:=by
  have:cargs.toList.length=1:=by have:=congrArg List.length hxs;simpa using this
  obtain ⟨l⟩:=cargs
  match l,this with
  | [q],_=>exact ⟨q,rfl⟩
 have hqx:cX q=x:=by simpa using hxs
 have hq:=Z12 hT q
 rw [hqx,hx] at hq
 obtain ⟨hjn,hq⟩:=hq
 have hS:=hT.st
 obtain ⟨g0,vss,h1,h2,h3,h4⟩:=hS.slc j _ hj
 dsimp only at h1 h3 g0
 have hfl:=isLL_ints h1
 have hrun:(execOp a.eval ⟨dst,.call ⟨.value (.func (ρ.f 20)), #[q],argTypes⟩,ty,pos,af,gd⟩).run c.P w = .ok (.enter (ρ.f 20) (#[q].map a.eval)) w:=by
  have he:a.eval (.func (ρ.f 20)) = .func (.func (ρ.f 20)) #[] #[]:=rfl
  generalize a.eval=ρ' at *
  simp [execOp,resolve,Deferred.ofValue,invoke,he,Z53 hfn]
 have e1:(#[q].map a.eval) = #[M.σ j]:=by
  apply Array.ext';simp;exact hq
 rw [e1] at hrun
 unfold Oper.wp
 rw [hrun]
 show Calls c.P (ρ.f 20) #[M.σ j] w _
 obtain ⟨rs,hr1,hr2⟩:=Zf9 (M:=M.sl) (Lib.compact zs)
 have hone:∀v∈rs.flatten,v.oneCell'=true:=by
  rw [hr2];intro v hv
  obtain ⟨z,_,rfl⟩:=List.mem_map.1 hv;rfl
 have hcl:=Lib.compact_length_le zs
 have hsub:∀i N,Zf (Zg S.ss j none) i=some N→Zf S.ss i=some N∧∀g,(M.σ j).ownBlock=some g→(M.σ i).ownBlock≠some g:=by
  intro i N hi
  rw [Zd1] at hi
  split at hi
  ·simp at hi
  ·rename_i e
   refine ⟨hi,fun g hg e2=>e ⟨?_,Zf1 hj⟩⟩
   exact hS.d3 i j N _ g hi hj e2 hg
 have fin:∀v' w',w.grownBy w' (M.σ j).ownBlock→v'.ownBlock=(M.σ j).ownBlock→w'.ownsRow 0 T 1 v' (Lib.compact zs).length rs.flatten→next (a.put dst v') w':=fun v' w' hg hv hrow=>by
  have hr:RelS c (M.addS v') S.bs (Zg S.ss j none++[some (⟨T,1,(Lib.compact zs).map Zb5⟩:Sl)]) w':=
   RelS.grown (v:=M.σ j) (vss:=rs) hS (Ze1 _ _ _) hsub (.inr fun i B hi=>hS.d2 i j B _ hi hj) h4 hg (.inl hv) g0 hr1 hone (by simpa using hrow)
  refine hn (M.addS v') w' v' (Mem.le_addS M v') hr ?_
  rw [Z91,←hS.ns]
  exact ⟨Nat.lt_succ_self _,by simp [Mem.addS]⟩
 rcases h3.2 with ⟨e2,e3⟩ | ⟨g,cap,cur,e2,hb,e3,e4,e5,e6,e7⟩
 ·have hz:zs=[]:=by simpa using e3
  subst hz
  rw [e2] at fin ⊢
  refine (Any.slices_Compact_int_empty Ly none 0 w).mono ?_
  rintro e w' ⟨rfl,rfl⟩
  refine fin _ _ ⟨rfl,rfl,rfl,Nat.le_refl _,fun _ _ _=>rfl⟩ rfl ?_
  rw [hr2]
  exact World.ownsRow_nil _ _ _ _
 ·have e4':zs.length≤cap:=by simpa using e4
  rw [e2] at fin ⊢
  simp only [List.length_map]
  rw [Nat.mul_one,List.length_map] at e7
  rw [hfl] at e7
  refine (Any.slices_Compact_int Ly g 0 cap zs w (holds_of_blockI e3 e7) (by omega) e4').mono ?_
  rintro e w' ⟨rfl,n,rfl⟩
  have hgr:=grownBy_sortedI (w:=w) (g:=g) (n:=n) (os:= #[]) (Lib.compact zs++List.replicate (zs.length-(Lib.compact zs).length) 0).toArray
  have hhp:=heap_sortedI (w:=w) (g:=g) (n:=n) (os:= #[]) (Lib.compact zs++List.replicate (zs.length-(Lib.compact zs).length) 0).toArray e3
  rw [Sort.grow_empty] at hgr hhp
  refine fin _ _ hgr rfl ⟨by rw [hr2];simp,.inr ⟨g,cap,_,rfl,hb,hhp,by omega,e5,by simp [Sort.putCells,e6],?_⟩⟩
  have htk:=take_putCellsI cur (Lib.compact zs++List.replicate (zs.length-(Lib.compact zs).length) 0) (by simp;omega)
  rw [hr2,Nat.mul_one]
  have:=congrArg (List.take (Lib.compact zs).length) htk
  rw [List.take_take,List.map_append,List.take_append_of_le_length (by simp)] at this
  rw [Nat.min_eq_left (by simp)] at this
  rw [this,List.take_of_length_le (by simp)]
theorem V_compact {ρ:Shelf.Ren} (Ly:Lays2.n20 c.P ρ) {d:Option Nat} {g:Option (Nat×Bool)} {l:List EOp} {j T f:Nat} {x:X} (zs:List Int) (hg:gm S g) (hf:f=ρ.f 20) (hx:S.x x = .osl j) (hj:Zf S.ss j=some ⟨T,1,zs.map Zb5⟩) (hlen:zs.length<4611686018427387904)
  (h:V c fn K (.ops l::k) ((⟨S.tm,S.bs,Zg S.ss j none++[some ⟨T,1,(Lib.compact zs).map Zb5⟩]⟩:St).put d (.osl (Zj S.ss)))):V c fn K (.ops (⟨d,g,.call f [x]⟩::l)::k) S:=by
 subst hf
 exact Z43 hg (sem_compact Ly hx hj hlen) rfl h
end
end NX
end Go.Proofs.YthlodgjekbidcaaGreat
/-
  The function slices.Clone[[]int,int]: its code compiled, a model, and that the code answers as the model. Written by a program of ours (lb.py). No statement of the seat is proved here.
-/
namespace Go.Proofs.YthlodgjekbidcaaGreat
namespace NX
open Go
set_option maxRecDepth 100000
set_option maxHeartbeats 4000000
@[go_sem] def e78:EC:=.seq (.reg [(Qa 2 (.mv (.c .nl)))]) (.seq (.seq (.reg [(Qm 3 0),(Qa 4 (.isnil false (.t 3)))]) (.ite (.t 4) (.seq (.reg [(Qa 2 (.mv (.c .nl)))]) (.ret)) (.skip))) (.seq (.reg [(Qa 5 (.bsl 3 1 0 [.iv 0] [])),(Qm 6 0),(Qa 7 (.app 3 1 8 (.t 5) (.t 6))),(Qm 2 7)]) (.ret)))
theorem ok78:FnOK Tryz.prog 78 Tryz.f78 e78 [.t 2] 1 7:=⟨by kernel_rfl,⟨_,rfl,by kernel_rfl⟩,by kernel_rfl,by kernel_rfl⟩
noncomputable def Zg9 (x1:(List Int)):Option (List Int):=Zh4 8 [] x1
theorem Zh9 (x1:(List Int)) (r:(List Int)) (h:Zg9 x1=some r):FunO Tryz.prog 78 [.sl 1 (List.map Zb5 x1)] 3 1 (List.map Zb5 r):=by
 refine Zj5 ok78 rfl fun w0 H0=>?_
 rw [Zg9] at h
 refine Zt2 100 ?_
 dsimp only [e78,go_sem]
 refine ⟨by simp,?_⟩
 refine V_isnil trivial rfl (fun hn=>?_) ?_
 ·refine Zt2 100 ?_
  dsimp only [go_sem]
  refine ⟨by simp,?_⟩
  refine Ze4 2 3 1 rfl rfl ?_
  dsimp only [go_sem]
  have hn:x1=[]:=by simpa using hn
  subst hn
  exact Zr5 Zb5 (e:=[]) ok78 (by simpa [Zh4] using h) rfl rfl
 ·refine Zt2 100 ?_
  dsimp only [go_sem]
  refine ⟨by simp,?_⟩
  refine Z15 Zb5 h trivial rfl rfl rfl ?_
  refine Zt2 100 ?_
  dsimp only [go_sem]
  refine ⟨by simp,?_⟩
  exact Zr5 Zb5 ok78 (rfl:some r=some r) rfl rfl
theorem Zi9 (x1:(List Int)) (r:(List Int)) (h:Zg9 x1=some r):Zy2 Tryz.prog 78 [.sl 1 (List.map Zb5 x1)] (.sl 1 (List.map Zb5 r)):=(Zh9 x1 r h).sealed
def Zj9 (_F:Nat) (x1:(List Int)):Option (List Int):=Zh4 8 [] x1
theorem Zk9 {F:Nat} {x1:(List Int)}:ole (Zj9 F x1) (Zg9 x1):=Zn4 _
set_option maxRecDepth 100000
def laysSort_ren:Go.Shelf.Ren:=⟨(fun | 189=>99 | 125=>128 | 257=>127 | 128=>172 | 129=>173 | 294=>163 | 295=>164 | 296=>165 | 297=>166 | 298=>167 | 299=>168 | 216=>169 | 300=>170 | 301=>171 | 328=>211 | 329=>212 | 330=>213 | 331=>214 | 332=>215 | 215=>126 | 343=>243 | n=>n),(fun | 28=>40 | 3=>3 | 46=>185 | 0=>0 | 51=>231 | 53=>233 | 4=>4 | 183=>223 | 182=>222 | 131=>228 | 5=>5 | 9=>9 | 218=>258 | 222=>262 | 228=>280 | 229=>281 | n=>n),(fun | n=>n)⟩
theorem laysSort:Lays.n189 Tryz.prog laysSort_ren where
 mixed:=by kernel_rfl
 f125:=Tryz.func128.trans (congrArg some (by kernel_rfl))
 f128:=Tryz.func172.trans (congrArg some (by kernel_rfl))
 f129:=Tryz.func173.trans (congrArg some (by kernel_rfl))
 f189:=Tryz.func99.trans (congrArg some (by kernel_rfl))
 f215:=Tryz.func126.trans (congrArg some (by kernel_rfl))
 f216:=Tryz.func169.trans (congrArg some (by kernel_rfl))
 f257:=Tryz.func127.trans (congrArg some (by kernel_rfl))
 f294:=Tryz.func163.trans (congrArg some (by kernel_rfl))
 f295:=Tryz.func164.trans (congrArg some (by kernel_rfl))
 f296:=Tryz.func165.trans (congrArg some (by kernel_rfl))
 f297:=Tryz.func166.trans (congrArg some (by kernel_rfl))
 f298:=Tryz.func167.trans (congrArg some (by kernel_rfl))
 f299:=Tryz.func168.trans (congrArg some (by kernel_rfl))
 f300:=Tryz.func170.trans (congrArg some (by kernel_rfl))
 f301:=Tryz.func171.trans (congrArg some (by kernel_rfl))
 f328:=Tryz.func211.trans (congrArg some (by kernel_rfl))
 f329:=Tryz.func212.trans (congrArg some (by kernel_rfl))
 f330:=Tryz.func213.trans (congrArg some (by kernel_rfl))
 f331:=Tryz.func214.trans (congrArg some (by kernel_rfl))
 f332:=Tryz.func215.trans (congrArg some (by kernel_rfl))
 f343:=Tryz.func243.trans (congrArg some (by kernel_rfl))
 t0:=Tryz.underlying0
 a0:=Tryz.isAgg0
 z0:=Tryz.sizeOf0
 v0:=Tryz.zeroValue0
 t3:=Tryz.underlying3
 a3:=Tryz.isAgg3
 z3:=Tryz.sizeOf3
 v3:=Tryz.zeroValue3
 t4:=Tryz.underlying4
 a4:=Tryz.isAgg4
 z4:=Tryz.sizeOf4
 v4:=Tryz.zeroValue4
 t5:=Tryz.underlying5
 a5:=Tryz.isAgg5
 z5:=Tryz.sizeOf5
 v5:=Tryz.zeroValue5
 t9:=Tryz.underlying9
 a9:=Tryz.isAgg9
 z9:=Tryz.sizeOf9
 v9:=Tryz.zeroValue9
 t28:=Tryz.underlying40
 a28:=Tryz.isAgg40
 z28:=Tryz.sizeOf40
 v28:=Tryz.zeroValue40
 t46:=Tryz.underlying185
 a46:=Tryz.isAgg185
 z46:=Tryz.sizeOf185
 v46:=Tryz.zeroValue185
 t51:=Tryz.underlying231
 a51:=Tryz.isAgg231
 z51:=Tryz.sizeOf231
 v51:=Tryz.zeroValue231
 t53:=Tryz.underlying233
 a53:=Tryz.isAgg233
 z53:=Tryz.sizeOf233
 v53:=Tryz.zeroValue233
 t131:=Tryz.underlying228
 a131:=Tryz.isAgg228
 z131:=Tryz.sizeOf228
 v131:=Tryz.zeroValue228
 t182:=Tryz.underlying222
 a182:=Tryz.isAgg222
 z182:=Tryz.sizeOf222
 v182:=Tryz.zeroValue222
 t183:=Tryz.underlying223
 a183:=Tryz.isAgg223
 z183:=Tryz.sizeOf223
 v183:=Tryz.zeroValue223
 t218:=Tryz.underlying258
 a218:=Tryz.isAgg258
 z218:=Tryz.sizeOf258
 v218:=Tryz.zeroValue258
 t222:=Tryz.underlying262
 a222:=Tryz.isAgg262
 z222:=Tryz.sizeOf262
 v222:=Tryz.zeroValue262
 t228:=Tryz.underlying280
 a228:=Tryz.isAgg280
 z228:=Tryz.sizeOf280
 v228:=Tryz.zeroValue280
 t229:=Tryz.underlying281
 a229:=Tryz.isAgg281
 z229:=Tryz.sizeOf281
 v229:=Tryz.zeroValue281
def Zl9:Go.Shelf.Ren:=⟨(fun | 20=>100 | n=>n),(fun | 22=>40 | 3=>3 | 4=>4 | 0=>0 | n=>n),(fun | n=>n)⟩
theorem laysCompact:Lays2.n20 Tryz.prog Zl9 where
 mixed:=by kernel_rfl
 f20:=Tryz.func100.trans (congrArg some (by kernel_rfl))
 t0:=Tryz.underlying0
 a0:=Tryz.isAgg0
 z0:=Tryz.sizeOf0
 v0:=Tryz.zeroValue0
 t3:=Tryz.underlying3
 a3:=Tryz.isAgg3
 z3:=Tryz.sizeOf3
 v3:=Tryz.zeroValue3
 t4:=Tryz.underlying4
 a4:=Tryz.isAgg4
 z4:=Tryz.sizeOf4
 v4:=Tryz.zeroValue4
 t22:=Tryz.underlying40
 a22:=Tryz.isAgg40
 z22:=Tryz.sizeOf40
 v22:=Tryz.zeroValue40
 i3:=by kernel_rfl
@[go_sem] def e71:EC:=.seq (.reg [(Qa 2 (.mv (.c .nl)))]) (.seq (.reg [(Qm 4 0),(Qa 5 (.call 78 [(.t 4)])),(Qm 3 5)]) (.seq (.reg [(Qm 6 3),(Qa 7 (.call 99 [(.t 6)]))]) (.seq (.reg [(Qm 8 3),(Qa 9 (.call 100 [(.t 8)])),(Qm 2 9)]) (.ret))))
theorem ok71:FnOK Tryz.prog 71 Tryz.f71 e71 [.t 2] 1 9:=⟨by kernel_rfl,⟨_,rfl,by kernel_rfl⟩,by kernel_rfl,by kernel_rfl⟩
noncomputable def Zm9 (x1:List Int):Option (List Int):=
 (Zg9 x1).bind fun x2=>
 ifb (decide (x2.length<4611686018427387904)) (
 some (Lib.compact (x2.mergeSort fun x y=>decide (x≤y)))) none
theorem Zn9 (x1:List Int) (r:List Int) (h:Zm9 x1=some r):FunO Tryz.prog 71 [.sl 1 (List.map Zb5 x1)] 3 1 (List.map Zb5 r):=by
 refine Zj5 ok71 rfl fun w0 H0=>?_
 rw [Zm9] at h
 refine Zt2 100 ?_
 dsimp only [e71,go_sem]
 refine ⟨by simp,?_⟩
 obtain ⟨x2,ex2,h⟩:=Option.bind_eq_some_iff.1 h
 refine Zk5 trivial (Zh9 x1 _ ex2) (by first | exact Zg4 _ | simp [go_sem]) (by first | rfl | simp [go_sem]) ?_
 refine Zt2 100 ?_
 dsimp only [e71,go_sem]
 refine ⟨by simp,?_⟩
 by_cases hl:x2.length<4611686018427387904
 ·rw [show decide (x2.length<4611686018427387904)=true from decide_eq_true hl] at h
  have h:some (Lib.compact (x2.mergeSort fun x y=>decide (x≤y)))=some r:=h
  refine V_sort laysSort x2 trivial (by kernel_rfl) rfl rfl hl ?_
  refine Zt2 100 ?_
  dsimp only [e71,go_sem]
  refine ⟨by simp,?_⟩
  refine V_compact laysCompact (x2.mergeSort fun x y=>decide (x≤y)) trivial (by kernel_rfl) rfl rfl (by simpa using hl) ?_
  refine Zt2 100 ?_
  dsimp only [e71,go_sem]
  refine ⟨by simp,?_⟩
  exact Zr5 Zb5 ok71 h rfl rfl
 ·rw [show decide (x2.length<4611686018427387904)=false from decide_eq_false hl] at h
  cases h
def upB:List Int→Bool
 | []=>true
 | x::l=>l.all (fun y=>decide (x<y))&&upB l
theorem upB_pw:∀ {l:List Int},upB l=true→l.Pairwise (· < ·)
 | [],_=>.nil
 | x::l,h=>by
   simp only [upB,Bool.and_eq_true,List.all_eq_true,decide_eq_true_eq] at h
   exact List.pairwise_cons.2 ⟨h.1,upB_pw h.2⟩
theorem ofPw_compact {l:List Int} (h:l.Pairwise (· < ·)):Lib.compact l=l:=by
 refine Lib.compact_all l fun j hj=>?_
 cases j with
 | zero=>exact Lib.keeps_lt_one _ 0 (by omega)
 | succ j=>
   have:=(List.pairwise_iff_getElem.1 h) j (j+1) (by omega) hj (by omega)
   refine Lib.keeps_pos ?_
   simp only [Nat.add_sub_cancel]
   rw [getElem!_pos _ _ (by simpa using hj),getElem!_pos _ _ (by simp;omega)]
   simp only [List.getElem_toArray]
   omega
def Zo9 (F:Nat) (x1:List Int):Option (List Int):=
 (Zj9 F x1).bind fun x2=>
 ifb (upB x2&&decide (x2.length<100)) (some x2) none
theorem Zp9 {F:Nat} {x1:List Int}:ole (Zo9 F x1) (Zm9 x1):=by
 refine Zp4 Zk9 fun x2=>⟨fun r h=>?_⟩
 cases hb:upB x2&&decide (x2.length<100) with
 | false=>rw [hb] at h;cases h
 | true=>
   rw [hb] at h
   obtain rfl:x2=r:=Option.some.inj h
   rw [Bool.and_eq_true,decide_eq_true_eq] at hb
   have hp:=upB_pw hb.1
   show ifb _ (some (Lib.compact (x2.mergeSort fun x y=>decide (x≤y)))) none=some x2
   rw [decide_eq_true (by omega)]
   show some (Lib.compact (x2.mergeSort fun x y=>decide (x≤y)))=some x2
   rw [List.mergeSort_of_pairwise (hp.imp fun hxy=>decide_eq_true (by omega)),ofPw_compact hp]
set_option maxRecDepth 100000
set_option maxHeartbeats 4000000
@[go_sem] def e41_L0:EC:=.seq (.reg [(Qa 15 (.bin .lss (.t 14) (.t 13)))]) (.seq (.ite (.t 15) (.skip) (.exit 0)) (.seq (.blk 1 (.seq (.reg [(Qk 16 2 12 14),(Qe 17 2 16),(Qa 7 (.alloc 77 [.iv 0,.iv 0])),(Qs 2 7 17)]) (.seq (.reg [(Qm 18 1)]) (.blk 2 (.seq (.reg [(Qf 20 0 7),(Ql 21 20),(Qa 22 (.bin .eql (.t 18) (.t 21))),(Qm 19 22)]) (.ite (.t 19) (.reg [(Qm 23 5),(Qf 24 1 7),(Ql 25 24),(Qa 26 (.bsl 3 1 1 [.iv 0] [(0,(.t 25))])),(Qa 27 (.app 3 1 8 (.t 23) (.t 26))),(Qm 5 27)]) (.seq (.reg [(Qf 29 1 7),(Ql 30 29),(Qa 31 (.bin .eql (.t 18) (.t 30))),(Qm 28 31)]) (.ite (.t 28) (.reg [(Qm 32 5),(Qf 33 0 7),(Ql 34 33),(Qa 35 (.bsl 3 1 1 [.iv 0] [(0,(.t 34))])),(Qa 36 (.app 3 1 8 (.t 32) (.t 35))),(Qm 5 36)]) (.skip))))))))) (.reg [(Qv 37 14 1),(Qm 14 37)])))
@[go_sem] def e41:EC:=.seq (.reg [(Qx 2 24 2 0),(Qa 4 (.mv (.c .nl)))]) (.seq (.seq (.reg [(Qe 8 2 2),(Qa 9 (.call 40 [(.t 8)])),(Qa 10 (.bin .neq (.t 9) (.c (.iv 0))))]) (.ite (.t 10) (.seq (.reg [(Qa 4 (.mv (.c .nl)))]) (.ret)) (.skip))) (.seq (.reg [(Qa 5 (.mv (.c .nl)))]) (.seq (.seq (.reg [(Qf 11 1 2),(Ql 12 11),(Qa 13 (.len (.t 12))),(Qi 14 0)]) (.blk 0 (.loop e41_L0))) (.seq (.reg [(Qm 38 5),(Qa 39 (.call 71 [(.t 38)])),(Qm 4 39)]) (.ret)))))
theorem ok41:FnOK Tryz.prog 41 Tryz.f41 e41 [.t 4] 2 38:=⟨by kernel_rfl,⟨_,rfl,by kernel_rfl⟩,by kernel_rfl,by kernel_rfl⟩
noncomputable def Zq9:(List Int)→Option (List Int)
| x23=>
 (Zm9 x23).bind fun x24=>
 some x24
noncomputable def Zr9 (x10:Int):(List Int)→Option ((Int×(List Int)) ⊕ (List Int))
| x15=>
 some (.inl (wr (x10+1),x15))
noncomputable def Zs9 (x1:Graph) (x2:Int):(Int×(List Int))→Option ((Int×(List Int)) ⊕ (List Int))
| (x10,x11)=>
 ifb (decide (x10<(ln Edge.row x1.Edges))) (
 (at_ x1.Edges x10).bind fun x12=>
 ifb (decide (x2=x12.A)) (
 (Zh4 8 x11 ([x12.B])).bind fun x13=>
 (Zr9 x10) x13) (
 ifb (decide (x2=x12.B)) (
 (Zh4 8 x11 ([x12.A])).bind fun x14=>
 (Zr9 x10) x14) (
 (Zr9 x10) x11))) (
 Option.map Sum.inr (Zq9 x11))
noncomputable def Zt9 (x1:Graph) (x2:Int):Option (List Int):=
 (Z39 x1).bind fun x3=>
 ifb (!decide (x3=0)) (
 some (([]:List Int))) (
 loop (Zs9 x1 x2) (0,([]:List Int)))
theorem o_graph_Near (x1:Graph) (x2:Int) (r:(List Int)) (h:Zt9 x1 x2=some r):FunO Tryz.prog 41 [.agg (Graph.row x1),.iv x2] 3 1 (List.map Zb5 r):=by
 refine Zj5 ok41 rfl fun w0 H0=>?_
 rw [Zt9] at h
 refine Zt2 9 ?_;dsimp only [go_sem];refine An ?_;obtain ⟨x3,ex3,h⟩:=Bs h;refine Z73 trivial (Z49 x1 _ ex3) (h:=?_);refine Zt2 2 ?_;dsimp only [go_sem];refine An ?_;refine Zw4 h rfl (fun _ h=>?_) fun _ h=>?_
 ·refine Zt2 4 ?_;dsimp only [go_sem];refine An ?_;refine Ze4 4 3 1 rfl rfl ?_;dsimp only [go_sem];exact Zr5 Zb5 ok41 h rfl rfl
 ·refine Zt2 13 ?_;dsimp only [go_sem];refine An ?_;refine Zu4 (fun (x23:(List Int))=>(⟨(an 5 (.osl 0::an 34 [])),[],[some ⟨3,1,List.map Zb5 x23⟩]⟩:St)) Zq9 r ?_ fun J1=>?_
  ·intro x23 h;rw [Zq9] at h;(try dsimp only);refine Zt2 3 ?_;dsimp only [go_sem];refine An ?_;refine Zk3 0 rfl ?_;dsimp only [go_sem];obtain ⟨x24,ex24,h⟩:=Bs h;refine Zk5 trivial (Zn9 x23 _ ex24) (h:=?_);refine Zt2 2 ?_;dsimp only [go_sem];refine An ?_;exact Zr5 Zb5 ok41 h rfl rfl
  ·refine Zt2 1 ?_;dsimp only [go_sem];refine An ?_;refine Ze4 5 3 1 rfl rfl ?_;dsimp only [go_sem];refine Zv4 h (fun ((x10,x11):(Int×(List Int)))=>(⟨(.any :: .iv x2::an 3 (.osl 0::an 6 (.sl 2 (List.map Edge.row x1.Edges) :: .iv (ln Edge.row x1.Edges) :: .iv x10::an 25 []))),[],[some ⟨3,1,List.map Zb5 x11⟩]⟩:St)) (by simp [go_sem]) (by rintro ⟨x10,x11⟩;first | rfl | simp [go_sem]) ?_;rintro n1 ⟨x10,x11⟩ y1 h hin1 hout1;rw [Zs9] at h;(try dsimp only);refine Zt2 5 ?_;dsimp only [go_sem];refine An ?_
   refine Zw4 h rfl (fun _ h=>?_) fun _ h=>?_
   ·refine Zt2 5 ?_;dsimp only [go_sem];refine An ?_;obtain ⟨x12,ex12,h⟩:=Bs h;refine Zz4 Edge.row ex12 trivial rfl rfl rfl ?_;refine Zt2 16 ?_;dsimp only [go_sem];refine An ?_;refine Zu4 (fun (x15:(List Int))=>(⟨(.any :: .iv x2::an 3 (.osl 0::an 6 (.sl 2 (List.map Edge.row x1.Edges) :: .iv (ln Edge.row x1.Edges) :: .iv x10::an 25 []))),[],[some ⟨3,1,List.map Zb5 x15⟩]⟩:St)) (Zr9 x10) y1 ?_ fun J2=>?_
    ·intro x15 h;rw [Zr9] at h;(try dsimp only);refine Zt2 6 ?_;dsimp only [go_sem];refine An ?_;exact Z55 h hin1
    ·refine Zw4 h rfl (fun _ h=>?_) fun _ h=>?_
     ·refine Zt2 5 ?_;dsimp only [go_sem];refine An ?_;obtain ⟨x13,ex13,h⟩:=Bs h;refine Z15 Zb5 ex13 trivial rfl rfl rfl ?_;refine Zt2 2 ?_;dsimp only [go_sem];refine An ?_;refine Zd4 2 0 rfl rfl rfl ?_;dsimp only [go_sem];exact Z65 J2 (s:=x13) h
     ·refine Zt2 7 ?_;dsimp only [go_sem];refine An ?_;refine Zw4 h rfl (fun _ h=>?_) fun _ h=>?_
      ·refine Zt2 5 ?_;dsimp only [go_sem];refine An ?_;obtain ⟨x14,ex14,h⟩:=Bs h;refine Z15 Zb5 ex14 trivial rfl rfl rfl ?_;refine Zt2 2 ?_;dsimp only [go_sem];refine An ?_;refine Zd4 2 0 rfl rfl rfl ?_;dsimp only [go_sem];exact Z65 J2 (s:=x14) h
      ·refine Zt2 1 ?_;dsimp only [go_sem];refine An ?_;exact Z65 J2 (s:=x11) h
   ·refine Zt2 1 ?_;dsimp only [go_sem];refine An ?_;exact Z65 J1 (s:=x11) (Zt4 h hout1)
theorem Zu9 (x1:Graph) (x2:Int) (r:(List Int)) (h:Zt9 x1 x2=some r):Zy2 Tryz.prog 41 [.agg (Graph.row x1),.iv x2] (.sl 1 (List.map Zb5 r)):=(o_graph_Near x1 x2 r h).sealed
def Zv9 (F:Nat):(List Int)→Option (List Int)
| x23=>
 (Zo9 F x23).bind fun x24=>
 some x24
theorem Zw9 {F:Nat}:∀s,ole (Zv9 F s) (Zq9 s):=by
 intro x23
 unfold Zv9 Zq9
 try dsimp only
 with_reducible repeat' first | exact Zn4 _ | assumption | intro _ | refine Zo4 ?_ ?_ | refine Zp4 ?_ ?_ | refine Zq4 ?_ | refine Zs4 ?_ | apply Zp9
def Zx9 (_F:Nat) (x10:Int):(List Int)→Option ((Int×(List Int)) ⊕ (List Int))
| x15=>
 some (.inl (wr (x10+1),x15))
theorem Zy9 {F:Nat} {x10:Int}:∀s,ole (Zx9 F x10 s) (Zr9 x10 s):=by
 intro x15
 unfold Zx9 Zr9
 try dsimp only
 with_reducible repeat' first | exact Zn4 _ | assumption | intro _ | refine Zo4 ?_ ?_ | refine Zp4 ?_ ?_ | refine Zq4 ?_ | refine Zs4 ?_ | apply Zp9 | apply Zw9
def Zz9 (F:Nat) (x1:Graph) (x2:Int):(Int×(List Int))→Option ((Int×(List Int)) ⊕ (List Int))
| (x10,x11)=>
 ifb (decide (x10<(ln Edge.row x1.Edges))) (
 (at_ x1.Edges x10).bind fun x12=>
 ifb (decide (x2=x12.A)) (
 (Zh4 8 x11 ([x12.B])).bind fun x13=>
 (Zx9 F x10) x13) (
 ifb (decide (x2=x12.B)) (
 (Zh4 8 x11 ([x12.A])).bind fun x14=>
 (Zx9 F x10) x14) (
 (Zx9 F x10) x11))) (
 Option.map Sum.inr (Zv9 F x11))
theorem Z0a {F:Nat} {x1:Graph} {x2:Int}:∀s,ole (Zz9 F x1 x2 s) (Zs9 x1 x2 s):=by
 rintro ⟨x10,x11⟩
 unfold Zz9 Zs9
 try dsimp only
 with_reducible repeat' first | exact Zn4 _ | assumption | intro _ | refine Zo4 ?_ ?_ | refine Zp4 ?_ ?_ | refine Zq4 ?_ | refine Zs4 ?_ | apply Zp9 | apply Zw9 | apply Zy9
def Z1a (F:Nat) (x1:Graph) (x2:Int):Option (List Int):=
 (Zd9 F x1).bind fun x3=>
 ifb (!decide (x3=0)) (
 some (([]:List Int))) (
 Zr4 F (Zz9 F x1 x2) (0,([]:List Int)))
theorem Z2a {F:Nat} {x1:Graph} {x2:Int}:ole (Z1a F x1 x2) (Zt9 x1 x2):=by
 unfold Z1a Zt9
 with_reducible repeat' first | exact Zn4 _ | assumption | intro _ | refine Zo4 ?_ ?_ | refine Zp4 ?_ ?_ | refine Zq4 ?_ | refine Zs4 ?_ | apply Zp9 | apply Zw9 | apply Zy9 | apply Z0a | apply Ze9
set_option maxRecDepth 100000
set_option maxHeartbeats 4000000
@[go_sem] def e8:EC:=.seq (.reg [(Qx 1 24 2 0),(Qa 2 (.alloc 24 [.iv 0,.nl]))]) (.seq (.drw [(Qf 3 0 1),(Ql 4 3),(Qa 5 (.bsl 77 2 0 [.iv 0,.iv 0] [])),(Qf 6 1 1),(Ql 7 6),(Qa 8 (.app 77 2 16 (.t 5) (.t 7))),(Qa 9 (.build [.iv 0,.nl] [(0,1,(.t 4)),(1,1,(.t 8))])),(Qs 2 2 9)] [[],[0],[],[],[3],[2,4],[1,5],[6,5,0,1,2,3,4,5,6]] [[1],[0,6],[5],[4],[3,5],[2,4,6],[1,5,7],[6]]) (.ret))
theorem ok8:FnOK Tryz.prog 8 Tryz.f8 e8 [.c 2 (some 2)] 1 9:=⟨by kernel_rfl,⟨_,rfl,by kernel_rfl⟩,by kernel_rfl,by kernel_rfl⟩
noncomputable def Z3a (x1:Graph):Option Graph:=
 (Zh4 16 (([]:List Edge)) x1.Edges).bind fun x2=>
 some (Graph.mk x1.N x2)
theorem Z4a (x1:Graph) (r:Graph) (h:Z3a x1=some r):Zy2 Tryz.prog 8 [.agg (Graph.row x1)] (.agg (Graph.row r)):=by
 refine Z23 ok8 rfl rfl fun w0 H0=>?_
 rw [Z3a] at h
 refine Zt2 6 ?_;dsimp only [go_sem];refine An ?_;refine Zs3 (by kernel_rfl) fun all hall hs hnap haf=>?_;dsimp only [go_sem];refine Zp5 hall hs haf hnap 4 4 ?_;dsimp only [go_sem];refine An ?_;refine Z34 2 rfl ?_;refine Z74 hall rfl trivial ?_;dsimp only [go_sem];refine Z34 5 rfl ?_;obtain ⟨x2,ex2,h⟩:=Bs h;refine Z25 Edge.row ex2 hall rfl trivial rfl rfl rfl ?_;dsimp only [go_sem];refine Zp5 hall hs haf hnap 1 1 ?_;dsimp only [go_sem];refine An ?_;refine Z34 7 rfl ?_;refine Z74 hall rfl trivial ?_;dsimp only [go_sem];refine Z24 rfl ?_ _
 refine Zk3 1 rfl ?_;dsimp only [go_sem];exact Z45 (res:=fun (r:Graph)=>.agg (Graph.row r)) ok8 h
set_option maxRecDepth 100000
set_option maxHeartbeats 4000000
@[go_sem] def e30_L0:EC:=.seq (.seq (.reg [(Qm 6 5),(Qm 7 0),(Qa 8 (.len (.t 7))),(Qa 9 (.bin .lss (.t 6) (.t 8)))]) (.ite (.t 9) (.skip) (.exit 0))) (.seq (.blk 1 (.seq (.reg [(Qm 12 0),(Qm 13 5),(Qk 14 1 12 13),(Ql 15 14),(Qm 16 1),(Qa 17 (.bin .eql (.t 15) (.t 16)))]) (.ite (.t 17) (.seq (.reg [(Qa 4 (.mv (.c .tt)))]) (.ret)) (.skip)))) (.reg [(Qm 10 5),(Qv 11 10 1),(Qm 5 11)]))
@[go_sem] def e30:EC:=.seq (.reg [(Qa 4 (.mv (.c .ff)))]) (.seq (.seq (.reg [(Qi 5 0)]) (.blk 0 (.loop e30_L0))) (.seq (.reg [(Qa 4 (.mv (.c .ff)))]) (.ret)))
theorem ok30:FnOK Tryz.prog 30 Tryz.f30 e30 [.t 4] 2 16:=⟨by kernel_rfl,⟨_,rfl,by kernel_rfl⟩,by kernel_rfl,by kernel_rfl⟩
noncomputable def Z5a:Unit→Option Bool
| ()=>
 some false
noncomputable def Z6a (x1:(List Int)) (x2:Int):Int→Option (Int ⊕ Bool)
| x5=>
 ifb (decide (x5<(ln Zb5 x1))) (
 (at_ x1 x5).bind fun x6=>
 ifb (decide (x6=x2)) (
 Option.map Sum.inr (some true)) (
 some (.inl (wr (x5+1))))) (
 Option.map Sum.inr (Z5a ()))
noncomputable def Z7a (x1:(List Int)) (x2:Int):Option Bool:=
 loop (Z6a x1 x2) 0
theorem Z8a (x1:(List Int)) (x2:Int) (r:Bool) (h:Z7a x1 x2=some r):Zy2 Tryz.prog 30 [.sl 1 (List.map Zb5 x1),.iv x2] (.bv r):=by
 refine Z23 ok30 rfl rfl fun w0 H0=>?_
 rw [Z7a] at h
 refine Zt2 9 ?_;dsimp only [go_sem];refine An ?_;refine Zu4 (fun (_:Unit)=>(⟨(an 18 []),[],[]⟩:St)) Z5a r ?_ fun J1=>?_
 ·rintro ⟨⟩ h;rw [Z5a] at h;(try dsimp only);refine Zt2 4 ?_;dsimp only [go_sem];refine An ?_;exact Z45 (res:=fun (r:Bool)=>.bv r) ok30 h
 ·refine Zt2 1 ?_;dsimp only [go_sem];refine An ?_;refine Zv4 h (fun (x5:Int)=>(⟨(.sl 1 (List.map Zb5 x1) :: .iv x2::an 3 (.iv x5::an 12 [])),[],[]⟩:St)) (by simp [go_sem]) (by intro x5;first | rfl | simp [go_sem]) ?_;rintro n1 x5 y1 h hin1 hout1;rw [Z6a] at h;(try dsimp only);refine Zt2 8 ?_;dsimp only [go_sem];refine An ?_;refine Zw4 h rfl (fun _ h=>?_) fun _ h=>?_
  ·refine Zt2 7 ?_;dsimp only [go_sem];refine An ?_;obtain ⟨x6,ex6,h⟩:=Bs h;refine Zz4 Zb5 ex6 trivial rfl rfl rfl ?_;refine Zt2 4 ?_;dsimp only [go_sem];refine An ?_;refine Zw4 h rfl (fun _ h=>?_) fun _ h=>?_
   ·refine Zt2 4 ?_;dsimp only [go_sem];refine An ?_;exact Z45 (res:=fun (r:Bool)=>.bv r) ok30 (Zt4 h hout1)
   ·refine Zt2 7 ?_;dsimp only [go_sem];refine An ?_;exact Z55 h hin1
  ·refine Zt2 1 ?_;dsimp only [go_sem];refine An ?_;exact Z65 J1 (s:=()) (Zt4 h hout1)
set_option maxRecDepth 100000
set_option maxHeartbeats 4000000
@[go_sem] def e19_L0:EC:=.seq (.seq (.reg [(Qm 11 5),(Qm 12 0),(Qa 13 (.len (.t 12))),(Qa 14 (.bin .lss (.t 11) (.t 13)))]) (.ite (.t 14) (.skip) (.exit 0))) (.seq (.blk 1 (.seq (.drw [(Qm 17 0),(Qm 18 5),(Qk 19 1 17 18),(Ql 20 19),(Qm 21 1),(Qm 22 5),(Qk 23 1 21 22),(Ql 24 23),(Qa 25 (.bin .neq (.t 20) (.t 24)))] [[],[],[0,1],[2],[],[],[4,5],[6],[3,7]] [[2],[2],[0,1,3],[2,8],[6],[6],[4,5,7],[6,8],[3,7]]) (.ite (.t 25) (.seq (.reg [(Qa 4 (.mv (.c .ff)))]) (.ret)) (.skip)))) (.reg [(Qm 15 5),(Qv 16 15 1),(Qm 5 16)]))
@[go_sem] def e19:EC:=.seq (.reg [(Qa 4 (.mv (.c .ff)))]) (.seq (.seq (.reg [(Qm 6 0),(Qa 7 (.len (.t 6))),(Qm 8 1),(Qa 9 (.len (.t 8))),(Qa 10 (.bin .neq (.t 7) (.t 9)))]) (.ite (.t 10) (.seq (.reg [(Qa 4 (.mv (.c .ff)))]) (.ret)) (.skip))) (.seq (.seq (.reg [(Qi 5 0)]) (.blk 0 (.loop e19_L0))) (.seq (.reg [(Qa 4 (.mv (.c .tt)))]) (.ret))))
theorem ok19:FnOK Tryz.prog 19 Tryz.f19 e19 [.t 4] 2 24:=⟨by kernel_rfl,⟨_,rfl,by kernel_rfl⟩,by kernel_rfl,by kernel_rfl⟩
noncomputable def Z9a:Unit→Option Bool
| ()=>
 some true
noncomputable def Zaa (x1:(List Int)) (x2:(List Int)):Int→Option (Int ⊕ Bool)
| x6=>
 ifb (decide (x6<(ln Zb5 x1))) (
 (at_ x1 x6).bind fun x7=>
 (at_ x2 x6).bind fun x8=>
 ifb (!decide (x7=x8)) (
 Option.map Sum.inr (some false)) (
 some (.inl (wr (x6+1))))) (
 Option.map Sum.inr (Z9a ()))
noncomputable def Zba (x1:(List Int)) (x2:(List Int)):Option Bool:=
 ifb (!decide ((ln Zb5 x1)=(ln Zb5 x2))) (
 some false) (
 loop (Zaa x1 x2) 0)
theorem Zca (x1:(List Int)) (x2:(List Int)) (r:Bool) (h:Zba x1 x2=some r):Zy2 Tryz.prog 19 [.sl 1 (List.map Zb5 x1),.sl 1 (List.map Zb5 x2)] (.bv r):=by
 refine Z23 ok19 rfl rfl fun w0 H0=>?_
 rw [Zba] at h
 refine Zt2 13 ?_;dsimp only [go_sem];refine An ?_;refine Zw4 h rfl (fun _ h=>?_) fun _ h=>?_
 ·refine Zt2 4 ?_;dsimp only [go_sem];refine An ?_;exact Z45 (res:=fun (r:Bool)=>.bv r) ok19 h
 ·refine Zt2 6 ?_;dsimp only [go_sem];refine An ?_;refine Zu4 (fun (_:Unit)=>(⟨(an 26 []),[],[]⟩:St)) Z9a r ?_ fun J1=>?_
  ·rintro ⟨⟩ h;rw [Z9a] at h;(try dsimp only);refine Zt2 4 ?_;dsimp only [go_sem];refine An ?_;exact Z45 (res:=fun (r:Bool)=>.bv r) ok19 h
  ·refine Zt2 1 ?_;dsimp only [go_sem];refine An ?_;refine Zv4 h (fun (x6:Int)=>(⟨(.sl 1 (List.map Zb5 x1) :: .sl 1 (List.map Zb5 x2)::an 3 (.iv x6::an 20 [])),[],[]⟩:St)) (by simp [go_sem]) (by intro x6;first | rfl | simp [go_sem]) ?_;rintro n1 x6 y1 h hin1 hout1;rw [Zaa] at h;(try dsimp only);refine Zt2 8 ?_;dsimp only [go_sem];refine An ?_;refine Zw4 h rfl (fun _ h=>?_) fun _ h=>?_
   ·refine Zt2 4 ?_;dsimp only [go_sem];refine An ?_;refine Zs3 (by kernel_rfl) fun all hall hs hnap haf=>?_;dsimp only [go_sem];refine Zp5 hall hs haf hnap 4 5 ?_;dsimp only [go_sem];refine An ?_;obtain ⟨x7,ex7,h⟩:=Bs h;refine Z05 hall hs haf hnap 2 Zb5 ex7 rfl rfl trivial rfl rfl rfl rfl ?_;refine Zp5 hall hs haf hnap 1 3 ?_;dsimp only [go_sem];refine An ?_;obtain ⟨x8,ex8,h⟩:=Bs h;refine Z05 hall hs haf hnap 6 Zb5 ex8 rfl rfl trivial rfl rfl rfl rfl ?_;refine Zp5 hall hs haf hnap 2 0 ?_;dsimp only [go_sem];refine An ?_;refine Z24 rfl ?_ _
    refine Zw4 h rfl (fun _ h=>?_) fun _ h=>?_
    ·refine Zt2 4 ?_;dsimp only [go_sem];refine An ?_;exact Z45 (res:=fun (r:Bool)=>.bv r) ok19 (Zt4 h hout1)
    ·refine Zt2 7 ?_;dsimp only [go_sem];refine An ?_;exact Z55 h hin1
   ·refine Zt2 1 ?_;dsimp only [go_sem];refine An ?_;exact Z65 J1 (s:=()) (Zt4 h hout1)
def Zda (_F:Nat):Unit→Option Bool
| ()=>
 some true
theorem Zea {F:Nat}:∀s,ole (Zda F s) (Z9a s):=by
 rintro ⟨⟩
 unfold Zda Z9a
 try dsimp only
 with_reducible repeat' first | exact Zn4 _ | assumption | intro _ | refine Zo4 ?_ ?_ | refine Zp4 ?_ ?_ | refine Zq4 ?_ | refine Zs4 ?_
def Zfa (F:Nat) (x1:(List Int)) (x2:(List Int)):Int→Option (Int ⊕ Bool)
| x6=>
 ifb (decide (x6<(ln Zb5 x1))) (
 (at_ x1 x6).bind fun x7=>
 (at_ x2 x6).bind fun x8=>
 ifb (!decide (x7=x8)) (
 Option.map Sum.inr (some false)) (
 some (.inl (wr (x6+1))))) (
 Option.map Sum.inr (Zda F ()))
theorem Zga {F:Nat} {x1:(List Int)} {x2:(List Int)}:∀s,ole (Zfa F x1 x2 s) (Zaa x1 x2 s):=by
 intro x6
 unfold Zfa Zaa
 try dsimp only
 with_reducible repeat' first | exact Zn4 _ | assumption | intro _ | refine Zo4 ?_ ?_ | refine Zp4 ?_ ?_ | refine Zq4 ?_ | refine Zs4 ?_ | apply Zea
def Zha (F:Nat) (x1:(List Int)) (x2:(List Int)):Option Bool:=
 ifb (!decide ((ln Zb5 x1)=(ln Zb5 x2))) (
 some false) (
 Zr4 F (Zfa F x1 x2) 0)
theorem Zia {F:Nat} {x1:(List Int)} {x2:(List Int)}:ole (Zha F x1 x2) (Zba x1 x2):=by
 unfold Zha Zba
 with_reducible repeat' first | exact Zn4 _ | assumption | intro _ | refine Zo4 ?_ ?_ | refine Zp4 ?_ ?_ | refine Zq4 ?_ | refine Zs4 ?_ | apply Zea | apply Zga
theorem loop_pp {α τ β:Type} (l:List α) (body:τ→Option (τ ⊕ β)) (st:List α→τ) (R:List α→List α→Option β)
  (hb:∀pre x post,l=pre++x::post→(body (st pre)=some (.inl (st (pre++[x])))∧R pre (x::post)=R (pre++[x]) post)∨∃r,body (st pre)=some (.inr r)∧R pre (x::post)=some r)
  (he:body (st l)=(R l []).map .inr):∀post pre,l=pre++post→loop body (st pre)=R pre post
 | [],pre,h=>by
   have:pre=l:=by simpa using h.symm
   subst this
   rw [Zm4,he]
   cases R pre []<;>rfl
 | x::post,pre,h=>by
   rw [Zm4]
   rcases hb pre x post h with ⟨h1,h2⟩ | ⟨r,h1,h2⟩
   ·rw [h1,h2]
    exact loop_pp l body st R hb he post (pre++[x]) (by simpa using h)
   ·rw [h1,h2]
theorem Zja {α τ β:Type} (l:List α) (body:τ→Option (τ ⊕ β)) (st:List α→τ) (R:List α→List α→Option β)
 (hb:∀pre x post,l=pre++x::post→(body (st pre)=some (.inl (st (pre++[x])))∧R pre (x::post)=R (pre++[x]) post)∨∃r,body (st pre)=some (.inr r)∧R pre (x::post)=some r)
 (he:body (st l)=(R l []).map .inr):loop body (st [])=R [] l:=loop_pp l body st R hb he l [] rfl
theorem Zka {α τ β:Type} (l:List α) (body:τ→Option (τ ⊕ β)) (st:List α→τ) (R:List α→List α→Option β) (I:List α→Prop)
  (hb:∀pre x post,l=pre++x::post→I pre→(body (st pre)=some (.inl (st (pre++[x])))∧I (pre++[x])∧R pre (x::post)=R (pre++[x]) post)∨∃r,body (st pre)=some (.inr r)∧R pre (x::post)=some r)
  (he:I l→body (st l)=(R l []).map .inr):∀post pre,l=pre++post→I pre→loop body (st pre)=R pre post
 | [],pre,h,hI=>by
   have:pre=l:=by simpa using h.symm
   subst this
   rw [Zm4,he hI]
   cases R pre []<;>rfl
 | x::post,pre,h,hI=>by
   rw [Zm4]
   rcases hb pre x post h hI with ⟨h1,h3,h2⟩ | ⟨r,h1,h2⟩
   ·rw [h1,h2]
    exact Zka l body st R I hb he post (pre++[x]) (by simpa using h) h3
   ·rw [h1,h2]
theorem Zla {α τ β:Type} (l:List α) (body:τ→Option (τ ⊕ β)) (st:List α→τ) (r:β)
  (hb:∀pre x post,l=pre++x::post→body (st pre)=some (.inl (st (pre++[x])))) (he:body (st l)=some (.inr r)):loop body (st [])=some r:=
 Zja l body st (fun _ _=>some r) (fun pre x post h=>.inl ⟨hb pre x post h,rfl⟩) he
theorem Zma {α:Type} {l pre post:List α} {x:α} (h:l=pre++x::post):l[pre.length]?=some x:=by subst h;simp
theorem Zna {α:Type} {l pre post:List α} {x:α} (h:l=pre++x::post):pre.length<l.length:=by subst h;simp
theorem Zoa {α:Type} {l pre post:List α} {x:α} (h:l=pre++x::post):x∈l:=by subst h;simp
theorem Zpa {α:Type} (pre:List α) (x:α):(pre++[x]).length=pre.length+1:=by simp
theorem loop_nat {τ β:Type} (n:Nat) (body:τ→Option (τ ⊕ β)) (st:Nat→τ) (r:β) (hb:∀k,k<n→body (st k)=some (.inl (st (k+1)))) (he:body (st n)=some (.inr r)):loop body (st 0)=some r:=by
 have key:∀m k,m+k=n→loop body (st k)=some r:=by
  intro m
  induction m with
  | zero=>intro k hk;have:k=n:=by omega
          subst this;rw [Zm4,he]
  | succ m ih=>intro k hk;rw [Zm4,hb k (by omega)];exact ih (k+1) (by omega)
 exact key n 0 rfl
theorem loop_natI {τ β:Type} (n:Nat) (body:τ→Option (τ ⊕ β)) (st:Nat→τ) (R:Nat→Option β) (hb:∀k,k<n→(body (st k)=some (.inl (st (k+1)))∧R k=R (k+1))∨∃r,body (st k)=some (.inr r)∧R k=some r) (he:body (st n)=(R n).map .inr):loop body (st 0)=R 0:=by
 have key:∀m k,m+k=n→loop body (st k)=R k:=by
  intro m
  induction m with
  | zero=>
    intro k hk
    have:k=n:=by omega
    subst this
    rw [Zm4,he]
    cases R k<;>rfl
  | succ m ih=>
    intro k hk
    rw [Zm4]
    rcases hb k (by omega) with ⟨h1,h2⟩ | ⟨r,h1,h2⟩
    ·rw [h1,h2];exact ih (k+1) (by omega)
    ·rw [h1,h2]
 exact key n 0 rfl
theorem Zqa {α:Type} (l m:List α) (body:Int→Option (Int ⊕ Bool)) (eqv:α→α→Bool) (hlm:l.length=m.length) (hl:l.length≤4000000000000000000)
  (hb:∀(k:Nat) x y,l[k]?=some x→m[k]?=some y→body k=some (if eqv x y then .inl ((k+1:Nat):Int) else .inr false)) (he:body l.length=some (.inr true)):loop body 0=some ((l.zip m).all fun p=>eqv p.1 p.2):=by
 rw [Zs6 (l.zip m) body (fun p=>!eqv p.1 p.2) false true (by simp;omega) (fun k x hx=>by
  obtain ⟨x1,x2⟩:=x
  rw [List.getElem?_zip_eq_some] at hx
  rw [hb k x1 x2 hx.1 hx.2]
  cases eqv x1 x2<;>rfl) (by rw [show (l.zip m).length=l.length by simp [hlm]];exact he)]
 have:∀(q:List (α×α)),(if q.any (fun p=>!eqv p.1 p.2) then some false else some true)=some (q.all fun p=>eqv p.1 p.2):=by
  intro q
  induction q with
  | nil=>rfl
  | cons p q ih=>
    rw [List.any_cons,List.all_cons]
    cases h:eqv p.1 p.2 with
    | true=>exact ih
    | false=>rfl
 have h2:=this (l.zip m)
 rw [←h2]
 cases (l.zip m).any (fun p=>!eqv p.1 p.2)<;>rfl
theorem Zra {α:Type} [DecidableEq α]:∀(l m:List α),l.length=m.length→(l.zip m).all (fun p=>decide (p.1=p.2))=decide (l=m)
 | [],[],_=>rfl
 | [],_::_,h=>by simp at h
 | _::_,[],h=>by simp at h
 | x::l,y::m,h=>by
   have ih:=Zra l m (by simpa using h)
   simp only [List.zip_cons_cons,List.all_cons,ih]
   by_cases h1:x=y<;>simp [h1]
theorem len_ne {α:Type} [DecidableEq α] {l m:List α} (h:l.length≠m.length):decide (l=m)=false:=decide_eq_false (by rintro rfl;exact h rfl)
theorem ln_dec {α β:Type} (f:α→List AV) (g:β→List AV) (l:List α) (m:List β):decide (ln f l=ln g m)=decide (l.length=m.length):=by
 rw [Zd5,Zd5,decide_eq_decide];omega
theorem Zsa (l:List Edge) (p:Edge→Option Bool) (q:Edge→Bool) (hl:l.length≤4000000000000000000) (hp:∀x∈l,p x=some (q x)):Z57 l p=some (plc (l.findIdx? q)):=by
 unfold Z57
 refine Zq6 l _ q hl (fun k x hx=>?_) ?_
 ·simp only [Z47,Zj6 hx,Ze6,Zh6 hx,Option.bind_some,hp x (List.mem_iff_getElem?.2 ⟨k,hx⟩),Zm6 hx hl]
  cases q x<;>rfl
 ·simp only [Z47,Zk6,Zf6,Z37,Option.map_some]
theorem Zta (l:List Int) (p:Int→Option Bool) (q:Int→Bool) (hl:l.length≤4000000000000000000) (hp:∀x∈l,p x=some (q x)):Zx7 l p=some (plc (l.findIdx? q)):=by
 unfold Zx7
 refine Zq6 l _ q hl (fun k x hx=>?_) ?_
 ·simp only [Zw7,Zj6 hx,Ze6,Zh6 hx,Option.bind_some,hp x (List.mem_iff_getElem?.2 ⟨k,hx⟩),Zm6 hx hl]
  cases q x<;>rfl
 ·simp only [Zw7,Zk6,Zf6,Zv7,Option.map_some]
theorem Zua (l:List Sess) (p:Sess→Option Bool) (q:Sess→Bool) (hl:l.length≤4000000000000000000) (hp:∀x∈l,p x=some (q x)):Zj7 l p=some (plc (l.findIdx? q)):=by
 unfold Zj7
 refine Zq6 l _ q hl (fun k x hx=>?_) ?_
 ·simp only [Zi7,Zj6 hx,Ze6,Zh6 hx,Option.bind_some,hp x (List.mem_iff_getElem?.2 ⟨k,hx⟩),Zm6 hx hl]
  cases q x<;>rfl
 ·simp only [Zi7,Zk6,Zf6,Zh7,Option.map_some]
theorem Zva (l:List Edge) (p:Edge→Option Bool) (q:Edge→Bool) (hl:l.length≤4000000000000000000) (hp:∀x∈l,p x=some (q x)):Zd7 l p=some (l.any q):=by
 unfold Zd7
 rw [Zsa l p q hl hp,Option.bind_some,Zo6,Zr6]
theorem Zwa (l:List Int) (p:Int→Option Bool) (q:Int→Bool) (hl:l.length≤4000000000000000000) (hp:∀x∈l,p x=some (q x)):Z58 l p=some (l.any q):=by
 unfold Z58
 rw [Zta l p q hl hp,Option.bind_some,Zo6,Zr6]
theorem Zxa (l:List Sess) (p:Sess→Option Bool) (q:Sess→Bool) (hl:l.length≤4000000000000000000) (hp:∀x∈l,p x=some (q x)):Zr7 l p=some (l.any q):=by
 unfold Zr7
 rw [Zua l p q hl hp,Option.bind_some,Zo6,Zr6]
def cmpI (a b:Int):Int:=if a<b then -1 else if b<a then 1 else 0
theorem s_Compare (a b:Int):Zk8 a b=some (cmpI a b):=by
 simp only [Zk8,Zg8,Option.bind_some,cmpI]
 by_cases h1:a<b<;>by_cases h2:b<a<;>simp [h1,h2,ifb]
theorem s_Or (a b:Int):Zq8 [a,b]=some (if a≠0 then a else b):=by
 unfold Zq8
 rw [Zm4]
 simp only [Zp8,Zd5,List.length_cons,List.length_nil]
 by_cases ha:a=0
 ·subst ha
  simp [at_]
  rw [show wr 1=1 from Zg6 (by omega) (by omega),Zm4]
  simp only [Zp8,Zd5,List.length_cons,List.length_nil]
  by_cases hb:b=0
  ·subst hb
   simp [at_]
   rw [show wr 2=2 from Zg6 (by omega) (by omega),Zm4]
   simp [Zp8,Zd5,Zo8]
  ·simp [at_,hb]
 ·simp [at_,ha]
def Edge.lt (x y:Edge):Bool:=decide (x.A<y.A)||(decide (x.A=y.A)&&decide (x.B<y.B))
theorem s_rank (x y:Edge):∃n,Zw8 x y=some n∧decide (0≤n)=!x.lt y:=by
 refine ⟨if cmpI x.A y.A≠0 then cmpI x.A y.A else cmpI x.B y.B,by simp only [Zw8,s_Compare,Option.bind_some,s_Or],?_⟩
 unfold cmpI Edge.lt
 by_cases h1:x.A<y.A
 ·simp [h1]
 ·by_cases h2:y.A<x.A
  ·have:x.A≠y.A:=by omega
   simp [h1,h2,this]
  ·have:x.A=y.A:=by omega
   simp [this]
   by_cases h3:x.B<y.B
   ·simp [h3]
   ·by_cases h4:y.B<x.B<;>simp [h3,h4]<;>omega
def Edge.ok (n:Int) (e:Edge):Bool:=decide (0≤e.A)&&(decide (e.A<e.B)&&decide (e.B<n))
def risB:List Edge→Bool
 | x::y::l=>x.lt y&&risB (y::l)
 | _=>true
theorem risB_iff (l:List Edge):risB l=true↔∀k x y,l[k]?=some x→l[k+1]?=some y→x.lt y=true:=by
 induction l with
 | nil=>simp [risB]
 | cons a l ih=>
   cases l with
   | nil=>simp [risB]
   | cons b l=>
     simp only [risB,Bool.and_eq_true,ih]
     constructor
     ·rintro ⟨h1,h2⟩ k x y hx hy
      cases k with
      | zero=>simp at hx hy;subst hx;subst hy;exact h1
      | succ k=>exact h2 k x y (by simpa using hx) (by simpa using hy)
     ·intro h
      exact ⟨h 0 a b (by simp) (by simp),fun k x y hx hy=>h (k+1) x y (by simpa using hx) (by simpa using hy)⟩
def okG (g:Graph):Bool:=decide (0≤g.N)&&(decide (g.N≤64)&&(decide (g.Edges.length≤400)&&(g.Edges.all (Edge.ok g.N)&&risB g.Edges)))
theorem s_Check1 (e:Edge) (g:Graph):Za8 e g=some (!e.ok g.N):=by
 simp only [Za8,Z98,Edge.ok]
 by_cases h1:e.A<0
 ·have:¬0≤e.A:=by omega
  simp [h1,this]
 ·have h1':0≤e.A:=by omega
  by_cases h2:e.B≤e.A
  ·have:¬e.A<e.B:=by omega
   simp [h1,h2,this]
  ·have h2':e.A<e.B:=by omega
   by_cases h3:g.N≤e.B
   ·have:¬e.B<g.N:=by omega
    simp [h1,h2,h3,this]
   ·have:e.B<g.N:=by omega
    simp [h1,h2,h3,this,h1',h2']
theorem Zya {β:Type} (l:List Edge) (body:Int→Option (Int ⊕ β)) (yes no:β) (q:Edge→Bool) (_:l.length≤4000000000000000000)
  (hb:∀(k:Nat) x,l[k]?=some x→body k=some (if q x||(match k with | 0=>false | k+1=>match l[k]? with | some y=>!y.lt x | none=>false) then .inr yes else .inl ((k+1:Nat):Int))) (he:body l.length=some (.inr no)):
  loop body 0=some (if l.all (fun x=>!q x)&&risB l then no else yes):=by
 have key:∀m k,m+k=l.length→(∀j x,j<k→l[j]?=some x→q x=false)→(∀j x y,j+1<k→l[j]?=some x→l[j+1]?=some y→x.lt y=true)→loop body (k:Int)=some (if l.all (fun x=>!q x)&&risB l then no else yes):=by
  intro m
  induction m with
  | zero=>
    intro k hk h1 h2
    have:k=l.length:=by omega
    subst this
    rw [Zm4,he]
    have a1:l.all (fun x=>!q x)=true:=by
     rw [List.all_eq_true]
     intro x hx
     obtain ⟨j,hj⟩:=List.mem_iff_getElem?.1 hx
     simp [h1 j x (List.getElem?_eq_some_iff.1 hj).1 hj]
    have a2:risB l=true:=by
     rw [risB_iff]
     intro j x y hx hy
     exact h2 j x y (List.getElem?_eq_some_iff.1 hy).1 hx hy
    simp [a1,a2]
  | succ m ih=>
    intro k hk h1 h2
    have hlt:k<l.length:=by omega
    have hx:l[k]?=some l[k]:=List.getElem?_eq_getElem hlt
    rw [Zm4,hb k _ hx]
    by_cases hq:q l[k]=true
    ·have:l.all (fun x=>!q x)=false:=by
      rw [List.all_eq_false]
      exact ⟨l[k],List.getElem_mem hlt,by simp [hq]⟩
     simp [hq,this]
    ·have hq:q l[k]=false:=by simpa using hq
     cases k with
     | zero=>
       simp only [hq,Bool.or_false,Bool.false_eq_true,if_false]
       refine ih 1 (by omega) (fun j x hj hjx=>?_) (fun j x y hj=>by omega)
       have:j=0:=by omega
       subst this
       rw [hx] at hjx;simp at hjx;rw [←hjx];exact hq
     | succ k=>
       have hy:l[k]?=some l[k]:=List.getElem?_eq_getElem (by omega)
       simp only [hq,hy,Bool.false_or]
       by_cases hr:l[k].lt l[k+1]=true
       ·simp only [hr,Bool.not_true,Bool.false_eq_true,if_false]
        refine ih (k+1+1) (by omega) (fun j x hj hjx=>?_) (fun j x y hj hjx hjy=>?_)
        ·rcases Nat.lt_succ_iff_lt_or_eq.1 hj with h | rfl
         ·exact h1 j x h hjx
         ·rw [hx] at hjx;simp at hjx;rw [←hjx];exact hq
        ·rcases Nat.lt_succ_iff_lt_or_eq.1 (Nat.succ_lt_succ_iff.1 hj) with h | rfl
         ·exact h2 j x y (by omega) hjx hjy
         ·rw [hy] at hjx;rw [hx] at hjy;simp at hjx hjy;rw [←hjx,←hjy];exact hr
       ·have hr:l[k].lt l[k+1]=false:=by simpa using hr
        have:risB l=false:=by
         cases h:risB l with
         | false=>rfl
         | true=>rw [risB_iff] at h;have:=h k _ _ hy hx;rw [hr] at this;exact absurd this (by simp)
        simp [hr,this]
 exact key l.length 0 (by omega) (fun j x hj=>by omega) (fun j x y hj=>by omega)
theorem Zza {k:Nat} (h:k≤4000000000000000000):wr (((k+1:Nat):Int)-1)=(k:Int):=by
 rw [Zg6 (by omega) (by omega)];omega
theorem s_Check (g:Graph):Z39 g=some (if okG g then 0 else 30):=by
 simp only [Z39,Z29]
 by_cases h1:g.N<0
 ·have:¬0≤g.N:=by omega
  simp [h1,okG,this]
 by_cases h2:64<g.N
 ·have:¬g.N≤64:=by omega
  simp [h1,h2,okG,this]
 by_cases h3:400<g.Edges.length
 ·have:¬g.Edges.length≤400:=by omega
  have h3':(400:Int)<ln Edge.row g.Edges:=by rw [Zd5];omega
  simp [h1,h2,h3',okG,this]
 have h3':¬(400:Int)<ln Edge.row g.Edges:=by rw [Zd5];omega
 rw [Zva g.Edges _ (fun e=>!e.ok g.N) (by omega) (fun x _=>s_Check1 x g)]
 have e1:0≤g.N:=by omega
 have e2:g.N≤64:=by omega
 have e3:g.Edges.length≤400:=by omega
 simp only [h1,h2,h3',decide_false,Zf6,Option.bind_some,okG,e1,e2,e3,decide_true,Bool.true_and]
 by_cases h4:g.Edges.any (fun e=>!e.ok g.N)=true
 ·have h5:g.Edges.all (Edge.ok g.N)=false:=by
   rw [List.any_eq_true] at h4
   obtain ⟨x,hx,hq⟩:=h4
   rw [List.all_eq_false];exact ⟨x,hx,by simpa using hq⟩
  simp [h4,h5]
 ·have h4:g.Edges.any (fun e=>!e.ok g.N)=false:=by simpa using h4
  have h5:g.Edges.all (Edge.ok g.N)=true:=by
   rw [List.any_eq_false] at h4
   rw [List.all_eq_true];intro x hx;simpa using h4 x hx
  simp only [h4,h5,Zf6,Bool.true_and]
  have key:=Zya g.Edges (Z19 g) 30 0 (fun _=>false) (by omega) (fun k x hx=>by
   cases k with
   | zero=>
     have:=Zj6 (f:=Edge.row) hx
     simp only [Z19,this,Ze6,Z09]
     simp
     exact Zm6 hx (by omega)
   | succ k=>
     have hk:=(List.getElem?_eq_some_iff.1 hx).1
     have hy:g.Edges[k]?=some g.Edges[k]:=List.getElem?_eq_getElem (by omega)
     obtain ⟨n,hn1,hn2⟩:=s_rank g.Edges[k] x
     have h0:decide ((0:Int)<((k+1:Nat):Int))=true:=decide_eq_true (by omega)
     simp only [Z19,Zj6 hx,Ze6,h0,Zza (show k≤4000000000000000000 by omega),Zh6 hy,Zh6 hx,Option.bind_some,hn1,hn2,Z09,hy,Bool.false_or]
     cases g.Edges[k].lt x
     ·simp
     ·simp only [Bool.not_true,Bool.false_eq_true,if_false,Zf6];rw [Zm6 hx (show g.Edges.length≤4000000000000000000 by omega)])
   (by simp only [Z19,Zk6,Zf6,Zz8,Option.map_some])
  rw [key]
  simp
theorem Z0b {g:Graph} (h:okG g=true):0≤g.N∧g.N≤64∧g.Edges.length≤400∧(∀e∈g.Edges,0≤e.A∧e.A<e.B∧e.B<g.N)∧risB g.Edges=true:=by
 simp only [okG,Bool.and_eq_true,decide_eq_true_eq,List.all_eq_true,Edge.ok] at h
 exact ⟨h.1,h.2.1,h.2.2.1,fun e he=>h.2.2.2.1 e he,h.2.2.2.2⟩
theorem Z1b {α:Type} (l:List α) (p q:α→Bool) (h:∀x,p x=!q x):l.any p=!l.all q:=by
 induction l with
 | nil=>rfl
 | cons x l ih=>simp [ih,h]
theorem Z2b (l:List Int) (x:Int) (hl:l.length≤1000000):Z7a l x=some (decide (x∈l)):=by
 unfold Z7a
 rw [Zs6 l (Z6a l x) (fun y=>decide (y=x)) true false (by omega) (fun k y hy=>by
  have hw:wr ((k:Int)+1)=((k+1:Nat):Int):=Zm6 hy (by omega)
  simp only [Z6a,Zj6 hy,Ze6,Zh6 hy,Option.bind_some,hw]
  by_cases h:y=x<;>simp [h])
  (by simp only [Z6a,Zk6,Zf6,Z5a,Option.map_some])]
 by_cases h:x∈l
 ·have:l.any (fun y=>decide (y=x))=true:=by rw [List.any_eq_true];exact ⟨x,h,by simp⟩
  simp [this,h]
 ·have:l.any (fun y=>decide (y=x))=false:=by
   rw [List.any_eq_false];intro y hy;simp;rintro rfl;exact h hy
  simp [this,h]
theorem pw_ext {α:Type} {R:α→α→Prop} (irr:∀x,¬R x x) (asy:∀x y,R x y→¬R y x):∀ {l m:List α},l.Pairwise R→m.Pairwise R→(∀x,x∈l↔x∈m)→l=m
 | [],[],_,_,_=>rfl
 | [],y::m,_,_,h=>absurd ((h y).2 (by simp)) (by simp)
 | x::l,[],_,_,h=>absurd ((h x).1 (by simp)) (by simp)
 | x::l,y::m,hl,hm,h=>by
   rw [List.pairwise_cons] at hl hm
   have hxy:x=y:=by
    rcases List.mem_cons.1 ((h x).1 (by simp)) with e | e
    ·exact e
    ·rcases List.mem_cons.1 ((h y).2 (by simp)) with e2 | e2
     ·exact e2.symm
     ·exact absurd (hl.1 y e2) (asy _ _ (hm.1 x e))
   subst hxy
   rw [pw_ext irr asy hl.2 hm.2 fun z=>?_]
   constructor
   ·intro hz
    rcases List.mem_cons.1 ((h z).1 (List.mem_cons_of_mem _ hz)) with e | e
    ·subst e;exact absurd (hl.1 z hz) (irr z)
    ·exact e
   ·intro hz
    rcases List.mem_cons.1 ((h z).2 (List.mem_cons_of_mem _ hz)) with e | e
    ·subst e;exact absurd (hm.1 z hz) (irr z)
    ·exact e
theorem Edge.lt_trans {x y z:Edge} (h:x.lt y=true) (k:y.lt z=true):x.lt z=true:=by
 simp only [Edge.lt,Bool.or_eq_true,Bool.and_eq_true,decide_eq_true_eq] at *
 omega
theorem Z3b:∀ {l:List Edge},risB l=true→l.Pairwise fun x y=>x.lt y=true
 | [],_=>List.Pairwise.nil
 | [x],_=>by simp
 | x::y::l,h=>by
   simp only [risB,Bool.and_eq_true] at h
   have ih:=Z3b h.2
   refine List.pairwise_cons.2 ⟨?_,ih⟩
   intro z hz
   rcases List.mem_cons.1 hz with rfl | hz
   ·exact h.1
   ·exact Edge.lt_trans h.1 ((List.pairwise_cons.1 ih).1 z hz)
theorem okG_pw {g:Graph} (h:okG g=true):g.Edges.Pairwise fun x y=>x.lt y=true:=Z3b (Z0b h).2.2.2.2
def Z4b (a:Int) (e:Edge):Option Int:=if a=e.A then some e.B else if a=e.B then some e.A else none
def Z5b (g:Graph) (a:Int):List Int:=g.Edges.filterMap (Z4b a)
theorem nearL_pw {g:Graph} (h:okG g=true) (a:Int):(Z5b g a).Pairwise (· < ·):=by
 unfold Z5b
 rw [List.pairwise_filterMap]
 obtain ⟨_,_,_,h4,_⟩:=Z0b h
 refine List.Pairwise.imp_of_mem ?_ (okG_pw h)
 intro x y hx hy hxy b hb b' hb'
 have k1:=h4 x hx
 have k2:=h4 y hy
 simp only [Edge.lt,Bool.or_eq_true,Bool.and_eq_true,decide_eq_true_eq] at hxy
 unfold Z4b at hb hb'
 split at hb<;>split at hb'
 ·simp at hb hb';omega
 ·split at hb'
  ·simp at hb hb';omega
  ·simp at hb'
 ·split at hb
  ·simp at hb hb';omega
  ·simp at hb
 ·split at hb<;>split at hb'
  ·simp at hb hb';omega
  ·simp at hb'
  ·simp at hb
  ·simp at hb
theorem pw_chain {l:List Int} (h:l.Pairwise (· < ·)) {k:Nat} {x y:Int} (hx:l[k]?=some x) (hy:l[k+1]?=some y):x<y:=by
 rw [List.pairwise_iff_getElem] at h
 obtain ⟨h1,rfl⟩:=List.getElem?_eq_some_iff.1 hx
 obtain ⟨h2,rfl⟩:=List.getElem?_eq_some_iff.1 hy
 exact h k (k+1) h1 h2 (by omega)
theorem Z6b {l:List Int} (h:l.Pairwise (· < ·)):Lib.compact l=l:=by
 refine Lib.compact_all l fun j hj=>?_
 cases j with
 | zero=>exact Lib.keeps_lt_one _ 0 (by omega)
 | succ j=>
   have hx:l[j+1]?=some l[j+1]:=List.getElem?_eq_getElem hj
   have hy:l[j]?=some l[j]:=List.getElem?_eq_getElem (by omega)
   have:=pw_chain h hy hx
   refine Lib.keeps_pos ?_
   simp only [Nat.add_sub_cancel]
   rw [getElem!_pos _ _ (by simpa using hj),getElem!_pos _ _ (by simp;omega)]
   simp only [List.getElem_toArray]
   omega
def Z7b (l:List Int):List Int:=Lib.compact (l.mergeSort fun x y=>decide (x≤y))
theorem s_setL (l:List Int) (hl:l.length≤1000000):Zm9 l=some (Z7b l):=by
 simp only [Zm9,Zg9]
 rw [Zi6 _ _ (by omega) (by simp;omega),Option.bind_some,List.nil_append,decide_eq_true (by omega),Ze6]
 rfl
theorem s_setOf (l:List Int) (hl:l.length≤1000000) (h:l.Pairwise (· < ·)):Zm9 l=some l:=by
 rw [s_setL l hl]
 unfold Z7b
 rw [List.mergeSort_of_pairwise (h.imp fun hxy=>decide_eq_true (by omega)),Z6b h]
theorem nearL_len (g:Graph) (a:Int):(Z5b g a).length≤g.Edges.length:=List.length_filterMap_le _ _
theorem s_Near (g:Graph) (a:Int):Zt9 g a=some (if okG g then Z5b g a else []):=by
 simp only [Zt9,s_Check,Option.bind_some]
 cases hg:okG g with
 | false=>rfl
 | true=>
   have h400:=(Z0b hg).2.2.1
   simp only [if_true,decide_true,Bool.not_true,Zf6]
   refine Zla g.Edges _ (fun pre=>((pre.length:Int),pre.filterMap (Z4b a))) (Z5b g a) (fun pre e post h=>?_) ?_
   ·have hx:=Zma h
    have hm:=Zna h
    have hl:(pre.filterMap (Z4b a)).length≤pre.length:=List.length_filterMap_le _ _
    dsimp only [Zs9]
    rw [Zj6 hx,Ze6,Zh6 hx,Option.bind_some,Zpa,List.filterMap_append]
    by_cases h1:a=e.A
    ·rw [decide_eq_true h1,Ze6,Zi6 _ _ (by omega) (by simp only [List.length_singleton];omega),Option.bind_some,Zr9,Zl6 (by omega)]
     simp [Z4b,h1]
    ·by_cases h2:a=e.B
     ·rw [decide_eq_false h1,Zf6,decide_eq_true h2,Ze6,Zi6 _ _ (by omega) (by simp only [List.length_singleton];omega),Option.bind_some,Zr9,Zl6 (by omega)]
      have:¬e.B=e.A:=fun e'=>h1 (h2.trans e')
      simp [Z4b,h2,this]
     ·rw [decide_eq_false h1,Zf6,decide_eq_false h2,Zf6,Zr9,Zl6 (by omega)]
      simp [Z4b,h1,h2]
   ·dsimp only [Zs9]
    rw [Zk6,Zf6,Zq9]
    have:(g.Edges.filterMap (Z4b a))=Z5b g a:=rfl
    rw [this,s_setOf _ (by have:=nearL_len g a;omega) (nearL_pw hg a)]
    rfl
theorem mem_nearL {g:Graph} (h:okG g=true) {a b:Int}:b∈Z5b g a↔(⟨a,b⟩:Edge)∈g.Edges∨(⟨b,a⟩:Edge)∈g.Edges:=by
 obtain ⟨_,_,_,h4,_⟩:=Z0b h
 unfold Z5b
 rw [List.mem_filterMap]
 constructor
 ·rintro ⟨e,he,hb⟩
  unfold Z4b at hb
  split at hb
  ·rename_i h1
   simp at hb;subst hb;subst h1;exact .inl he
  ·split at hb
   ·rename_i h2
    simp at hb;subst hb;subst h2;exact .inr he
   ·simp at hb
 ·rintro (he | he)
  ·exact ⟨_,he,by simp [Z4b]⟩
  ·have:=h4 _ he
   dsimp only at this
   exact ⟨_,he,by unfold Z4b;rw [if_neg (by dsimp only;omega),if_pos rfl]⟩
theorem Z8b {g:Graph} (h:okG g=true) {a b:Int} (hb:b∈Z5b g a):0≤b∧b<g.N∧b≠a∧0≤a∧a<g.N:=by
 obtain ⟨_,_,_,h4,_⟩:=Z0b h
 rcases (mem_nearL h).1 hb with he | he
 ·have:=h4 _ he;dsimp only at this;omega
 ·have:=h4 _ he;dsimp only at this;omega
theorem Z9b (l m:List Int) (hl:l.length≤1000000):Zba l m=some (decide (l=m)):=by
 simp only [Zba,ln_dec]
 by_cases h:l.length=m.length
 ·simp only [h,decide_true,Bool.not_true,Zf6]
  rw [Zqa l m _ (fun x y=>decide (x=y)) h (by omega) (fun k x y hx hy=>by
   simp only [Zaa,Zj6 hx,Ze6,Zh6 hx,Zh6 hy,Option.bind_some,Zm6 hx (show l.length≤4000000000000000000 by omega),ifb_not,Option.map_some]
   cases decide (x=y)<;>rfl) (by simp only [Zaa,Zk6,Zf6,Z9a,Option.map_some]),Zra l m h]
 ·simp [h,len_ne h]
theorem s_Own03 (g:Graph) (hl:g.Edges.length≤1000000):Z3a g=some g:=by
 simp only [Z3a]
 rw [Zi6 _ _ (by omega) (by simp;omega)]
 rfl
set_option maxRecDepth 100000
set_option maxHeartbeats 4000000
@[go_sem] def e209:EC:=.seq (.reg [(Qa 4 (.mv (.c .nl)))]) (.seq (.seq (.reg [(Qm 5 1),(Qa 6 (.bin .lss (.t 5) (.c (.iv 0))))]) (.ite (.t 6) (.reg [(Qa 7 .bad),(Qb .bad)]) (.skip))) (.seq (.seq (.reg [(Qm 8 1),(Qm 9 0),(Qa 10 (.cap (.t 9))),(Qm 11 0),(Qa 12 (.len (.t 11))),(Qa 13 (.bin .sub (.t 10) (.t 12))),(Qa 14 (.bin .sub (.t 8) (.t 13))),(Qm 1 14)]) (.seq (.reg [(Qm 15 1),(Qa 16 (.bin .gtr (.t 15) (.c (.iv 0))))]) (.ite (.t 16) (.reg [(Qm 17 0),(Qm 18 0),(Qa 19 (.cap (.t 18))),(Qa 20 (.slice 1 (.t 17) none (some (.t 19)))),(Qm 21 1),(Qa 22 (.apz 3 1 8 [.iv 0] (.t 20) (.t 21))),(Qm 23 0),(Qa 24 (.len (.t 23))),(Qa 25 (.slice 1 (.t 22) none (some (.t 24)))),(Qm 0 25)]) (.skip)))) (.seq (.reg [(Qm 26 0),(Qm 4 26)]) (.ret))))
theorem ok209:FnOK Tryz.prog 209 Tryz.f209 e209 [.t 4] 2 25:=⟨by kernel_rfl,⟨_,rfl,by kernel_rfl⟩,by kernel_rfl,by kernel_rfl⟩
set_option maxRecDepth 100000
set_option maxHeartbeats 4000000
@[go_sem] def e156_L1:EC:=.seq (.reg [(Qa 28 (.bin .lss (.t 27) (.t 26)))]) (.seq (.ite (.t 28) (.skip) (.exit 2)) (.seq (.blk 3 (.seq (.reg [(Qk 29 1 25 27),(Ql 30 29),(Qm 8 30)]) (.reg [(Qm 31 6),(Qm 32 8),(Qa 33 (.app 3 1 8 (.t 31) (.t 32))),(Qm 6 33)]))) (.reg [(Qv 34 27 1),(Qm 27 34)])))
@[go_sem] def e156_L0:EC:=.seq (.reg [(Qa 12 (.bin .lss (.t 11) (.t 10)))]) (.seq (.ite (.t 12) (.skip) (.exit 0)) (.seq (.blk 1 (.seq (.reg [(Qk 13 1 9 11),(Ql 14 13),(Qm 5 14)]) (.seq (.reg [(Qm 15 3),(Qm 16 5),(Qa 17 (.len (.t 16))),(Qa 18 (.bin .add (.t 15) (.t 17))),(Qm 3 18)]) (.seq (.reg [(Qm 19 3),(Qa 20 (.bin .lss (.t 19) (.c (.iv 0))))]) (.ite (.t 20) (.reg [(Qa 21 .bad),(Qb .bad)]) (.skip)))))) (.reg [(Qv 22 11 1),(Qm 11 22)])))
@[go_sem] def e156:EC:=.seq (.reg [(Qa 2 (.mv (.c .nl)))]) (.seq (.reg [(Qi 3 0)]) (.seq (.seq (.reg [(Qm 9 0),(Qa 10 (.len (.t 9))),(Qi 11 0)]) (.blk 0 (.loop e156_L0))) (.seq (.reg [(Qm 23 3),(Qa 24 (.call 209 [(.c .nl),(.t 23)])),(Qm 6 24)]) (.seq (.seq (.reg [(Qm 25 0),(Qa 26 (.len (.t 25))),(Qi 27 0)]) (.blk 2 (.loop e156_L1))) (.seq (.reg [(Qm 35 6),(Qm 2 35)]) (.ret))))))
theorem ok156:FnOK Tryz.prog 156 Tryz.f156 e156 [.t 2] 1 35:=⟨by kernel_rfl,⟨_,rfl,by kernel_rfl⟩,by kernel_rfl,by kernel_rfl⟩
noncomputable def Zab:(List Int)→Option (List Int)
| x4=>
 some x4
noncomputable def Zbb (x1:Int):Unit→Option (List Int)
| ()=>
 ifb (decide (0<(wr (x1-(wr (0-0)))))) (
 (apz_ 8 (wr (x1-(wr (0-0)))) 0).bind fun x2=>
 (Zi4 x2 0 0).bind fun x3=>
 Zab x3) (
 Zab (([]:List Int)))
noncomputable def Zcb (x1:Int):Option (List Int):=
 ifb (decide (x1<0)) (
 none) (
 (Zbb x1) ())
theorem Zdb (x1:Int) (r:(List Int)) (h:Zcb x1=some r):FunT Tryz.prog 209 [.nl,.iv x1] [] [] (.osl 0) [] [some ⟨3,1,List.map Zb5 r⟩]:=by
 refine Z46 ok209 rfl rfl rfl (by first | rfl | simp [go_sem]) fun w0 M0=>?_
 rw [Zcb] at h
 dsimp only [lun,List.cons_append,List.nil_append]
 refine Zt2 10 ?_;dsimp only [go_sem];refine An ?_;refine Zu4 (fun (_:Unit)=>(⟨(.nl :: .iv x1::an 25 []),[],[]⟩:St)) (Zbb x1) r ?_ fun J1=>?_
 ·rintro ⟨⟩ h;rw [Zbb] at h;(try dsimp only);refine Zt2 5 ?_;dsimp only [go_sem];refine An ?_;refine V_capN trivial rfl ?_;refine Zt2 11 ?_;dsimp only [go_sem];refine An ?_;refine Zu4 (fun (x4:(List Int))=>(⟨(.osl 0::an 26 []),[],[some ⟨3,1,List.map Zb5 x4⟩]⟩:St)) Zab r ?_ fun J2=>?_
  ·intro x4 h;rw [Zab] at h;(try dsimp only);refine Zt2 5 ?_;dsimp only [go_sem];refine An ?_;obtain rfl:=Option.some.inj h;exact Z56 ok209 rfl (by simp [go_sem])
  ·refine Zw4 h rfl (fun _ h=>?_) fun _ h=>?_
   ·refine Zt2 3 ?_;dsimp only [go_sem];refine An ?_;refine V_capN trivial rfl ?_;refine V_sliceN trivial rfl rfl rfl ?_;refine Zt2 1 ?_;dsimp only [go_sem];refine An ?_;obtain ⟨x2,ex2,h⟩:=Bs h;refine V_apzM Zb5 ex2 trivial rfl rfl rfl rfl ?_;refine Zt2 2 ?_;dsimp only [go_sem];refine An ?_;obtain ⟨x3,ex3,h⟩:=Bs h;refine V_cutM Zb5 ex3 trivial rfl rfl rfl rfl ?_;refine Zt2 2 ?_;dsimp only [go_sem];refine An ?_;refine Zd4 1 0 rfl rfl rfl ?_;dsimp only [go_sem];exact Z65 J2 (s:=x3) h
   ·refine Zt2 1 ?_;dsimp only [go_sem];refine An ?_;refine Ze4 0 3 1 rfl rfl ?_;dsimp only [go_sem];exact Z65 J2 (s:=([]:List Int)) h
 ·refine Zw4 h rfl (fun _ h=>?_) fun _ h=>?_
  ·cases h
  ·refine Zt2 1 ?_;dsimp only [go_sem];refine An ?_;exact Z65 J1 (s:=()) h
def Zeb (_F:Nat):(List Int)→Option (List Int)
| x4=>
 some x4
theorem Zfb {F:Nat}:∀s,ole (Zeb F s) (Zab s):=by
 intro x4
 unfold Zeb Zab
 try dsimp only
 with_reducible repeat' first | exact Zn4 _ | assumption | intro _ | refine Zo4 ?_ ?_ | refine Zp4 ?_ ?_ | refine Zq4 ?_ | refine Zs4 ?_
def Zgb (F:Nat) (x1:Int):Unit→Option (List Int)
| ()=>
 ifb (decide (0<(wr (x1-(wr (0-0)))))) (
 (apz_ 8 (wr (x1-(wr (0-0)))) 0).bind fun x2=>
 (Zi4 x2 0 0).bind fun x3=>
 Zeb F x3) (
 Zeb F (([]:List Int)))
theorem Zhb {F:Nat} {x1:Int}:∀s,ole (Zgb F x1 s) (Zbb x1 s):=by
 rintro ⟨⟩
 unfold Zgb Zbb
 try dsimp only
 with_reducible repeat' first | exact Zn4 _ | assumption | intro _ | refine Zo4 ?_ ?_ | refine Zp4 ?_ ?_ | refine Zq4 ?_ | refine Zs4 ?_ | apply Zfb
def Zib (F:Nat) (x1:Int):Option (List Int):=
 ifb (decide (x1<0)) (
 none) (
 (Zgb F x1) ())
theorem Zjb {F:Nat} {x1:Int}:ole (Zib F x1) (Zcb x1):=by
 unfold Zib Zcb
 with_reducible repeat' first | exact Zn4 _ | assumption | intro _ | refine Zo4 ?_ ?_ | refine Zp4 ?_ ?_ | refine Zq4 ?_ | refine Zs4 ?_ | apply Zfb | apply Zhb
noncomputable def Zkb:(List Int)→Option (List Int)
| x31=>
 some x31
noncomputable def Zlb (x1:(List (List Int))):(Int×(List Int))→Option ((Int×(List Int)) ⊕ (List Int))
| (x21,x22)=>
 ifb (decide (x21<(ln (Zc5 1 Zb5) x1))) (
 (at_ x1 x21).bind fun x23=>
 (Zh4 8 x22 x23).bind fun x24=>
 some (.inl (wr (x21+1),x24))) (
 Option.map Sum.inr (Zkb x22))
noncomputable def Zmb (x1:(List (List Int))):Int→Option (List Int)
| x15=>
 (Zcb x15).bind fun x16=>
 loop (Zlb x1) (0,x16)
noncomputable def Znb (x5:Int) (x6:Int) (x7:(List Int)):Unit→Option ((Int×Int) ⊕ (List Int))
| ()=>
 some (.inl (wr (x5+(ln Zb5 x7)),wr (x6+1)))
noncomputable def Zob (x1:(List (List Int))):(Int×Int)→Option ((Int×Int) ⊕ (List Int))
| (x5,x6)=>
 ifb (decide (x6<(ln (Zc5 1 Zb5) x1))) (
 (at_ x1 x6).bind fun x7=>
 ifb (decide ((wr (x5+(ln Zb5 x7)))<0)) (
 none) (
 (Znb x5 x6 x7) ())) (
 Option.map Sum.inr ((Zmb x1) x5))
noncomputable def Zpb (x1:(List (List Int))):Option (List Int):=
 loop (Zob x1) (0,0)
theorem Zqb (x1:(List (List Int))) (r:(List Int)) (h:Zpb x1=some r):FunO Tryz.prog 156 [.sl 1 (List.map (Zc5 1 Zb5) x1)] 3 1 (List.map Zb5 r):=by
 refine Zj5 ok156 rfl fun w0 H0=>?_
 rw [Zpb] at h
 refine Zt2 15 ?_;dsimp only [go_sem];refine An ?_;refine Zu4 (fun (x15:Int)=>(⟨(.sl 1 (List.map (Zc5 1 Zb5) x1) :: .any :: .any :: .iv x15::an 32 []),[],[]⟩:St)) (Zmb x1) r ?_ fun J1=>?_
 ·intro x15 h;rw [Zmb] at h;(try dsimp only);refine Zt2 3 ?_;dsimp only [go_sem];refine An ?_;obtain ⟨x16,ex16,h⟩:=Bs h;refine Z66 [] [] trivial (Zdb x15 _ ex16) (h:=?_);dsimp only [go_sem];refine Zt2 9 ?_;dsimp only [go_sem];refine An ?_;refine Zu4 (fun (x31:(List Int))=>(⟨(an 6 (.osl 0::an 29 [])),[],[some ⟨3,1,List.map Zb5 x31⟩]⟩:St)) Zkb r ?_ fun J3=>?_
  ·intro x31 h;rw [Zkb] at h;(try dsimp only);refine Zt2 5 ?_;dsimp only [go_sem];refine An ?_;exact Zr5 Zb5 ok156 h rfl rfl
  ·refine Zt2 1 ?_;dsimp only [go_sem];refine An ?_;refine Zv4 h (fun ((x21,x22):(Int×(List Int)))=>(⟨(an 6 (.osl 0::an 18 (.sl 1 (List.map (Zc5 1 Zb5) x1) :: .iv (ln (Zc5 1 Zb5) x1) :: .iv x21::an 8 []))),[],[some ⟨3,1,List.map Zb5 x22⟩]⟩:St)) (by simp [go_sem]) (by rintro ⟨x21,x22⟩;first | rfl | simp [go_sem]) ?_;rintro n1 ⟨x21,x22⟩ y1 h hin1 hout1;rw [Zlb] at h;(try dsimp only);refine Zt2 5 ?_;dsimp only [go_sem];refine An ?_;refine Zw4 h rfl (fun _ h=>?_) fun _ h=>?_
   ·refine Zt2 5 ?_;dsimp only [go_sem];refine An ?_;obtain ⟨x23,ex23,h⟩:=Bs h;refine Zz4 (Zc5 1 Zb5) ex23 trivial rfl rfl rfl ?_;refine Zt2 6 ?_;dsimp only [go_sem];refine An ?_;obtain ⟨x24,ex24,h⟩:=Bs h;refine Z15 Zb5 ex24 trivial rfl rfl rfl ?_;refine Zt2 7 ?_;dsimp only [go_sem];refine An ?_;refine Zd4 1 0 rfl rfl rfl ?_;dsimp only [go_sem];exact Z55 h hin1
   ·refine Zt2 1 ?_;dsimp only [go_sem];refine An ?_;exact Z65 J3 (s:=x22) (Zt4 h hout1)
 ·refine Zt2 1 ?_;dsimp only [go_sem];refine An ?_;refine Zv4 h (fun ((x5,x6):(Int×Int))=>(⟨(.sl 1 (List.map (Zc5 1 Zb5) x1) :: .any :: .any :: .iv x5::an 5 (.sl 1 (List.map (Zc5 1 Zb5) x1) :: .iv (ln (Zc5 1 Zb5) x1) :: .iv x6::an 24 [])),[],[]⟩:St)) (by simp [go_sem]) (by rintro ⟨x5,x6⟩;first | rfl | simp [go_sem]) ?_;rintro n1 ⟨x5,x6⟩ y1 h hin1 hout1;rw [Zob] at h;(try dsimp only);refine Zt2 5 ?_;dsimp only [go_sem];refine An ?_;refine Zw4 h rfl (fun _ h=>?_) fun _ h=>?_
  ·refine Zt2 5 ?_;dsimp only [go_sem];refine An ?_;obtain ⟨x7,ex7,h⟩:=Bs h;refine Zz4 (Zc5 1 Zb5) ex7 trivial rfl rfl rfl ?_;refine Zt2 16 ?_;dsimp only [go_sem];refine An ?_;refine Zu4 (fun (_:Unit)=>(⟨(.sl 1 (List.map (Zc5 1 Zb5) x1) :: .any :: .any :: .iv (wr (x5+(ln Zb5 x7)))::an 5 (.sl 1 (List.map (Zc5 1 Zb5) x1) :: .iv (ln (Zc5 1 Zb5) x1) :: .iv x6::an 24 [])),[],[]⟩:St)) (Znb x5 x6 x7) y1 ?_ fun J2=>?_
   ·rintro ⟨⟩ h;rw [Znb] at h;(try dsimp only);refine Zt2 5 ?_;dsimp only [go_sem];refine An ?_;exact Z55 h hin1
   ·refine Zw4 h rfl (fun _ h=>?_) fun _ h=>?_
    ·cases h
    ·refine Zt2 1 ?_;dsimp only [go_sem];refine An ?_;exact Z65 J2 (s:=()) h
  ·refine Zt2 1 ?_;dsimp only [go_sem];refine An ?_;exact Z65 J1 (s:=x5) (Zt4 h hout1)
def Zrb (_F:Nat):(List Int)→Option (List Int)
| x31=>
 some x31
theorem Zsb {F:Nat}:∀s,ole (Zrb F s) (Zkb s):=by
 intro x31
 unfold Zrb Zkb
 try dsimp only
 with_reducible repeat' first | exact Zn4 _ | assumption | intro _ | refine Zo4 ?_ ?_ | refine Zp4 ?_ ?_ | refine Zq4 ?_ | refine Zs4 ?_
def Ztb (F:Nat) (x1:(List (List Int))):(Int×(List Int))→Option ((Int×(List Int)) ⊕ (List Int))
| (x21,x22)=>
 ifb (decide (x21<(ln (Zc5 1 Zb5) x1))) (
 (at_ x1 x21).bind fun x23=>
 (Zh4 8 x22 x23).bind fun x24=>
 some (.inl (wr (x21+1),x24))) (
 Option.map Sum.inr (Zrb F x22))
theorem Zub {F:Nat} {x1:(List (List Int))}:∀s,ole (Ztb F x1 s) (Zlb x1 s):=by
 rintro ⟨x21,x22⟩
 unfold Ztb Zlb
 try dsimp only
 with_reducible repeat' first | exact Zn4 _ | assumption | intro _ | refine Zo4 ?_ ?_ | refine Zp4 ?_ ?_ | refine Zq4 ?_ | refine Zs4 ?_ | apply Zsb
def Zvb (F:Nat) (x1:(List (List Int))):Int→Option (List Int)
| x15=>
 (Zib F x15).bind fun x16=>
 Zr4 F (Ztb F x1) (0,x16)
theorem Zwb {F:Nat} {x1:(List (List Int))}:∀s,ole (Zvb F x1 s) (Zmb x1 s):=by
 intro x15
 unfold Zvb Zmb
 try dsimp only
 with_reducible repeat' first | exact Zn4 _ | assumption | intro _ | refine Zo4 ?_ ?_ | refine Zp4 ?_ ?_ | refine Zq4 ?_ | refine Zs4 ?_ | apply Zsb | apply Zub | apply Zjb
def Zxb (_F:Nat) (x5:Int) (x6:Int) (x7:(List Int)):Unit→Option ((Int×Int) ⊕ (List Int))
| ()=>
 some (.inl (wr (x5+(ln Zb5 x7)),wr (x6+1)))
theorem Zyb {F:Nat} {x5:Int} {x6:Int} {x7:(List Int)}:∀s,ole (Zxb F x5 x6 x7 s) (Znb x5 x6 x7 s):=by
 rintro ⟨⟩
 unfold Zxb Znb
 try dsimp only
 with_reducible repeat' first | exact Zn4 _ | assumption | intro _ | refine Zo4 ?_ ?_ | refine Zp4 ?_ ?_ | refine Zq4 ?_ | refine Zs4 ?_ | apply Zsb | apply Zub | apply Zjb | apply Zwb
def Zzb (F:Nat) (x1:(List (List Int))):(Int×Int)→Option ((Int×Int) ⊕ (List Int))
| (x5,x6)=>
 ifb (decide (x6<(ln (Zc5 1 Zb5) x1))) (
 (at_ x1 x6).bind fun x7=>
 ifb (decide ((wr (x5+(ln Zb5 x7)))<0)) (
 none) (
 (Zxb F x5 x6 x7) ())) (
 Option.map Sum.inr ((Zvb F x1) x5))
theorem Z0c {F:Nat} {x1:(List (List Int))}:∀s,ole (Zzb F x1 s) (Zob x1 s):=by
 rintro ⟨x5,x6⟩
 unfold Zzb Zob
 try dsimp only
 with_reducible repeat' first | exact Zn4 _ | assumption | intro _ | refine Zo4 ?_ ?_ | refine Zp4 ?_ ?_ | refine Zq4 ?_ | refine Zs4 ?_ | apply Zsb | apply Zub | apply Zjb | apply Zwb | apply Zyb
def Z1c (F:Nat) (x1:(List (List Int))):Option (List Int):=
 Zr4 F (Zzb F x1) (0,0)
theorem Z2c {F:Nat} {x1:(List (List Int))}:ole (Z1c F x1) (Zpb x1):=by
 unfold Z1c Zpb
 with_reducible repeat' first | exact Zn4 _ | assumption | intro _ | refine Zo4 ?_ ?_ | refine Zp4 ?_ ?_ | refine Zq4 ?_ | refine Zs4 ?_ | apply Zsb | apply Zub | apply Zjb | apply Zwb | apply Zyb | apply Z0c
set_option maxRecDepth 100000
set_option maxHeartbeats 4000000
@[go_sem] def e116:EC:=.seq (.reg [(Qa 4 (.mv (.c .nl)))]) (.seq (.reg [(Qm 5 0),(Qm 6 1),(Qa 7 (.bsl 40 1 2 [.nl] [(0,(.t 5)),(1,(.t 6))])),(Qa 8 (.call 156 [(.t 7)])),(Qa 9 (.call 71 [(.t 8)])),(Qm 4 9)]) (.ret))
theorem ok116:FnOK Tryz.prog 116 Tryz.f116 e116 [.t 4] 2 8:=⟨by kernel_rfl,⟨_,rfl,by kernel_rfl⟩,by kernel_rfl,by kernel_rfl⟩
noncomputable def Z3c (x1:(List Int)) (x2:(List Int)):Option (List Int):=
 (Zpb ([x1,x2])).bind fun x3=>
 (Zm9 x3).bind fun x4=>
 some x4
theorem o_set_Union (x1:(List Int)) (x2:(List Int)) (r:(List Int)) (h:Z3c x1 x2=some r):FunO Tryz.prog 116 [.sl 1 (List.map Zb5 x1),.sl 1 (List.map Zb5 x2)] 3 1 (List.map Zb5 r):=by
 refine Zj5 ok116 rfl fun w0 H0=>?_
 rw [Z3c] at h
 refine Zt2 9 ?_;dsimp only [go_sem];refine An ?_;refine Zk3 0 rfl ?_;dsimp only [go_sem];obtain ⟨x3,ex3,h⟩:=Bs h;refine Zk5 trivial (Zqb ([x1,x2]) _ ex3) (h:=?_);refine Zk3 1 rfl ?_;dsimp only [go_sem];obtain ⟨x4,ex4,h⟩:=Bs h;refine Zk5 trivial (Zn9 x3 _ ex4) (h:=?_);refine Zt2 2 ?_;dsimp only [go_sem];refine An ?_;exact Zr5 Zb5 ok116 h rfl rfl
theorem k_set_Union (x1:(List Int)) (x2:(List Int)) (r:(List Int)) (h:Z3c x1 x2=some r):Zy2 Tryz.prog 116 [.sl 1 (List.map Zb5 x1),.sl 1 (List.map Zb5 x2)] (.sl 1 (List.map Zb5 r)):=(o_set_Union x1 x2 r h).sealed
def Z4c (F:Nat) (x1:(List Int)) (x2:(List Int)):Option (List Int):=
 (Z1c F ([x1,x2])).bind fun x3=>
 (Zo9 F x3).bind fun x4=>
 some x4
theorem le_set_Union {F:Nat} {x1:(List Int)} {x2:(List Int)}:ole (Z4c F x1 x2) (Z3c x1 x2):=by
 unfold Z4c Z3c
 with_reducible repeat' first | exact Zn4 _ | assumption | intro _ | refine Zo4 ?_ ?_ | refine Zp4 ?_ ?_ | refine Zq4 ?_ | refine Zs4 ?_ | apply Z2c | apply Zp9
set_option maxRecDepth 100000
set_option maxHeartbeats 4000000
@[go_sem] def e81:EC:=.seq (.reg [(Qa 4 (.mv (.c .nl)))]) (.seq (.reg [(Qm 5 0),(Qm 6 1),(Qa 7 (.bsl 3 1 1 [.iv 0] [(0,(.t 6))])),(Qa 8 (.call 116 [(.t 5),(.t 7)])),(Qm 4 8)]) (.ret))
theorem ok81:FnOK Tryz.prog 81 Tryz.f81 e81 [.t 4] 2 7:=⟨by kernel_rfl,⟨_,rfl,by kernel_rfl⟩,by kernel_rfl,by kernel_rfl⟩
noncomputable def Z5c (x1:(List Int)) (x2:Int):Option (List Int):=
 (Z3c x1 ([x2])).bind fun x3=>
 some x3
theorem k_set_Add (x1:(List Int)) (x2:Int) (r:(List Int)) (h:Z5c x1 x2=some r):Zy2 Tryz.prog 81 [.sl 1 (List.map Zb5 x1),.iv x2] (.sl 1 (List.map Zb5 r)):=by
 refine Z23 ok81 rfl rfl fun w0 H0=>?_
 rw [Z5c] at h
 refine Zt2 9 ?_;dsimp only [go_sem];refine An ?_;refine Zk3 0 rfl ?_;dsimp only [go_sem];obtain ⟨x3,ex3,h⟩:=Bs h;refine Z73 trivial (k_set_Union x1 ([x2]) _ ex3) (h:=?_);refine Zt2 2 ?_;dsimp only [go_sem];refine An ?_;exact Z45 (res:=fun (r:(List Int))=>.sl 1 (List.map Zb5 r)) ok81 h
def Z6c (F:Nat) (x1:(List Int)) (x2:Int):Option (List Int):=
 (Z4c F x1 ([x2])).bind fun x3=>
 some x3
theorem Z7c {F:Nat} {x1:(List Int)} {x2:Int}:ole (Z6c F x1 x2) (Z5c x1 x2):=by
 unfold Z6c Z5c
 with_reducible repeat' first | exact Zn4 _ | assumption | intro _ | refine Zo4 ?_ ?_ | refine Zp4 ?_ ?_ | refine Zq4 ?_ | refine Zs4 ?_ | apply le_set_Union
set_option maxRecDepth 100000
set_option maxHeartbeats 4000000
@[go_sem] def e160_L0:EC:=.seq (.reg [(Qa 9 (.bin .lss (.t 8) (.t 7)))]) (.seq (.ite (.t 9) (.skip) (.exit 0)) (.seq (.blk 1 (.seq (.reg [(Qm 10 8),(Qm 5 10)]) (.seq (.reg [(Qm 11 1),(Qm 12 0),(Qm 13 5),(Qk 14 1 12 13),(Ql 15 14),(Qa 16 (.bin .eql (.t 11) (.t 15)))]) (.ite (.t 16) (.seq (.reg [(Qm 17 5),(Qm 4 17)]) (.ret)) (.skip))))) (.reg [(Qv 18 8 1),(Qm 8 18)])))
@[go_sem] def e160:EC:=.seq (.reg [(Qi 4 0)]) (.seq (.seq (.reg [(Qm 6 0),(Qa 7 (.len (.t 6))),(Qi 8 0)]) (.blk 0 (.loop e160_L0))) (.seq (.reg [(Qa 4 (.mv (.c (.iv (-1)))))]) (.ret)))
theorem ok160:FnOK Tryz.prog 160 Tryz.f160 e160 [.t 4] 2 17:=⟨by kernel_rfl,⟨_,rfl,by kernel_rfl⟩,by kernel_rfl,by kernel_rfl⟩
noncomputable def Z8c:Unit→Option Int
| ()=>
 some (-1)
noncomputable def Z9c (x1:(List Int)) (x2:Int):Int→Option (Int ⊕ Int)
| x5=>
 ifb (decide (x5<(ln Zb5 x1))) (
 (at_ x1 x5).bind fun x6=>
 ifb (decide (x2=x6)) (
 Option.map Sum.inr (some x5)) (
 some (.inl (wr (x5+1))))) (
 Option.map Sum.inr (Z8c ()))
noncomputable def Zac (x1:(List Int)) (x2:Int):Option Int:=
 loop (Z9c x1 x2) 0
theorem Zbc (x1:(List Int)) (x2:Int) (r:Int) (h:Zac x1 x2=some r):Zy2 Tryz.prog 160 [.sl 1 (List.map Zb5 x1),.iv x2] (.iv r):=by
 refine Z23 ok160 rfl rfl fun w0 H0=>?_
 rw [Zac] at h
 refine Zt2 11 ?_;dsimp only [go_sem];refine An ?_;refine Zu4 (fun (_:Unit)=>(⟨(an 19 []),[],[]⟩:St)) Z8c r ?_ fun J1=>?_
 ·rintro ⟨⟩ h;rw [Z8c] at h;(try dsimp only);refine Zt2 4 ?_;dsimp only [go_sem];refine An ?_;exact Z45 (res:=fun (r:Int)=>.iv r) ok160 h
 ·refine Zt2 1 ?_;dsimp only [go_sem];refine An ?_;refine Zv4 h (fun (x5:Int)=>(⟨(.sl 1 (List.map Zb5 x1) :: .iv x2::an 5 (.iv (ln Zb5 x1) :: .iv x5::an 10 [])),[],[]⟩:St)) (by simp [go_sem]) (by intro x5;first | rfl | simp [go_sem]) ?_;rintro n1 x5 y1 h hin1 hout1;rw [Z9c] at h;(try dsimp only);refine Zt2 5 ?_;dsimp only [go_sem];refine An ?_;refine Zw4 h rfl (fun _ h=>?_) fun _ h=>?_
  ·refine Zt2 13 ?_;dsimp only [go_sem];refine An ?_;obtain ⟨x6,ex6,h⟩:=Bs h;refine Zz4 Zb5 ex6 trivial rfl rfl rfl ?_;refine Zt2 3 ?_;dsimp only [go_sem];refine An ?_;refine Zw4 h rfl (fun _ h=>?_) fun _ h=>?_
   ·refine Zt2 5 ?_;dsimp only [go_sem];refine An ?_;exact Z45 (res:=fun (r:Int)=>.iv r) ok160 (Zt4 h hout1)
   ·refine Zt2 6 ?_;dsimp only [go_sem];refine An ?_;exact Z55 h hin1
  ·refine Zt2 1 ?_;dsimp only [go_sem];refine An ?_;exact Z65 J1 (s:=()) (Zt4 h hout1)
def Zcc (_F:Nat):Unit→Option Int
| ()=>
 some (-1)
theorem Zdc {F:Nat}:∀s,ole (Zcc F s) (Z8c s):=by
 rintro ⟨⟩
 unfold Zcc Z8c
 try dsimp only
 with_reducible repeat' first | exact Zn4 _ | assumption | intro _ | refine Zo4 ?_ ?_ | refine Zp4 ?_ ?_ | refine Zq4 ?_ | refine Zs4 ?_
def Zec (F:Nat) (x1:(List Int)) (x2:Int):Int→Option (Int ⊕ Int)
| x5=>
 ifb (decide (x5<(ln Zb5 x1))) (
 (at_ x1 x5).bind fun x6=>
 ifb (decide (x2=x6)) (
 Option.map Sum.inr (some x5)) (
 some (.inl (wr (x5+1))))) (
 Option.map Sum.inr (Zcc F ()))
theorem Zfc {F:Nat} {x1:(List Int)} {x2:Int}:∀s,ole (Zec F x1 x2 s) (Z9c x1 x2 s):=by
 intro x5
 unfold Zec Z9c
 try dsimp only
 with_reducible repeat' first | exact Zn4 _ | assumption | intro _ | refine Zo4 ?_ ?_ | refine Zp4 ?_ ?_ | refine Zq4 ?_ | refine Zs4 ?_ | apply Zdc
def Zgc (F:Nat) (x1:(List Int)) (x2:Int):Option Int:=
 Zr4 F (Zec F x1 x2) 0
theorem Zhc {F:Nat} {x1:(List Int)} {x2:Int}:ole (Zgc F x1 x2) (Zac x1 x2):=by
 unfold Zgc Zac
 with_reducible repeat' first | exact Zn4 _ | assumption | intro _ | refine Zo4 ?_ ?_ | refine Zp4 ?_ ?_ | refine Zq4 ?_ | refine Zs4 ?_ | apply Zdc | apply Zfc
set_option maxRecDepth 100000
set_option maxHeartbeats 4000000
@[go_sem] def e121:EC:=.seq (.reg [(Qa 4 (.mv (.c .ff)))]) (.seq (.reg [(Qm 5 0),(Qm 6 1),(Qa 7 (.call 160 [(.t 5),(.t 6)])),(Qa 8 (.bin .geq (.t 7) (.c (.iv 0)))),(Qm 4 8)]) (.ret))
theorem ok121:FnOK Tryz.prog 121 Tryz.f121 e121 [.t 4] 2 7:=⟨by kernel_rfl,⟨_,rfl,by kernel_rfl⟩,by kernel_rfl,by kernel_rfl⟩
noncomputable def Zic (x1:(List Int)) (x2:Int):Option Bool:=
 (Zac x1 x2).bind fun x3=>
 some (decide (0≤x3))
theorem Zjc (x1:(List Int)) (x2:Int) (r:Bool) (h:Zic x1 x2=some r):Zy2 Tryz.prog 121 [.sl 1 (List.map Zb5 x1),.iv x2] (.bv r):=by
 refine Z23 ok121 rfl rfl fun w0 H0=>?_
 rw [Zic] at h
 refine Zt2 8 ?_;dsimp only [go_sem];refine An ?_;obtain ⟨x3,ex3,h⟩:=Bs h;refine Z73 trivial (Zbc x1 x2 _ ex3) (h:=?_);refine Zt2 3 ?_;dsimp only [go_sem];refine An ?_;exact Z45 (res:=fun (r:Bool)=>.bv r) ok121 h
def Zkc (F:Nat) (x1:(List Int)) (x2:Int):Option Bool:=
 (Zgc F x1 x2).bind fun x3=>
 some (decide (0≤x3))
theorem Zlc {F:Nat} {x1:(List Int)} {x2:Int}:ole (Zkc F x1 x2) (Zic x1 x2):=by
 unfold Zkc Zic
 with_reducible repeat' first | exact Zn4 _ | assumption | intro _ | refine Zo4 ?_ ?_ | refine Zp4 ?_ ?_ | refine Zq4 ?_ | refine Zs4 ?_ | apply Zhc
set_option maxRecDepth 100000
set_option maxHeartbeats 4000000
@[go_sem] def e86:EC:=.seq (.reg [(Qa 4 (.mv (.c .ff)))]) (.seq (.reg [(Qm 5 0),(Qm 6 1),(Qa 7 (.call 121 [(.t 5),(.t 6)])),(Qm 4 7)]) (.ret))
theorem ok86:FnOK Tryz.prog 86 Tryz.f86 e86 [.t 4] 2 6:=⟨by kernel_rfl,⟨_,rfl,by kernel_rfl⟩,by kernel_rfl,by kernel_rfl⟩
noncomputable def Zmc (x1:(List Int)) (x2:Int):Option Bool:=
 (Zic x1 x2).bind fun x3=>
 some x3
theorem Znc (x1:(List Int)) (x2:Int) (r:Bool) (h:Zmc x1 x2=some r):Zy2 Tryz.prog 86 [.sl 1 (List.map Zb5 x1),.iv x2] (.bv r):=by
 refine Z23 ok86 rfl rfl fun w0 H0=>?_
 rw [Zmc] at h
 refine Zt2 8 ?_;dsimp only [go_sem];refine An ?_;obtain ⟨x3,ex3,h⟩:=Bs h;refine Z73 trivial (Zjc x1 x2 _ ex3) (h:=?_);refine Zt2 2 ?_;dsimp only [go_sem];refine An ?_;exact Z45 (res:=fun (r:Bool)=>.bv r) ok86 h
def Zoc (F:Nat) (x1:(List Int)) (x2:Int):Option Bool:=
 (Zkc F x1 x2).bind fun x3=>
 some x3
theorem Zpc {F:Nat} {x1:(List Int)} {x2:Int}:ole (Zoc F x1 x2) (Zmc x1 x2):=by
 unfold Zoc Zmc
 with_reducible repeat' first | exact Zn4 _ | assumption | intro _ | refine Zo4 ?_ ?_ | refine Zp4 ?_ ?_ | refine Zq4 ?_ | refine Zs4 ?_ | apply Zlc
set_option maxRecDepth 100000
set_option maxHeartbeats 4000000
@[go_sem] def e123:EC:=.seq (.reg [(Qa 3 (.mv (.c .ff)))]) (.seq (.reg [(Ql 4 1),(Qm 5 0),(Qa 6 (.call 86 [(.t 4),(.t 5)])),(Qa 7 (.not (.t 6))),(Qm 3 7)]) (.ret))
theorem ok123:FnOK Tryz.prog 123 Tryz.f123 e123 [.t 3] 2 6:=⟨by kernel_rfl,⟨_,rfl,by kernel_rfl⟩,by kernel_rfl,by kernel_rfl⟩
noncomputable def Zqc (x1:Int) (x2:(List Int)):Option Bool:=
 (Zmc x2 x1).bind fun x3=>
 some (!x3)
theorem k_set_Minus_1 (x1:Int) (x2:(List Int)) (r:Bool) (h:Zqc x1 x2=some r):Zy2 Tryz.prog 123 [.iv x1,.elt ((Zc5 1 Zb5) x2) 0] (.bv r):=by
 refine Z23 ok123 rfl rfl fun w0 H0=>?_
 rw [Zqc] at h
 refine Zt2 8 ?_;dsimp only [go_sem];refine An ?_;obtain ⟨x3,ex3,h⟩:=Bs h;refine Z73 trivial (Znc x2 x1 _ ex3) (h:=?_);refine Zt2 3 ?_;dsimp only [go_sem];refine An ?_;exact Z45 (res:=fun (r:Bool)=>.bv r) ok123 h
def Zrc (F:Nat) (x1:Int) (x2:(List Int)):Option Bool:=
 (Zoc F x2 x1).bind fun x3=>
 some (!x3)
theorem Zsc {F:Nat} {x1:Int} {x2:(List Int)}:ole (Zrc F x1 x2) (Zqc x1 x2):=by
 unfold Zrc Zqc
 with_reducible repeat' first | exact Zn4 _ | assumption | intro _ | refine Zo4 ?_ ?_ | refine Zp4 ?_ ?_ | refine Zq4 ?_ | refine Zs4 ?_ | apply Zpc
set_option maxRecDepth 100000
set_option maxHeartbeats 4000000
@[go_sem] def e162:EC:=.seq (.reg [(Qa 3 (.mv (.c .ff)))]) (.seq (.reg [(Ql 4 1),(Qm 5 0),(Qa 6 (.callv (.t 4) [(.t 5)])),(Qa 7 (.not (.t 6))),(Qm 3 7)]) (.ret))
theorem ok162:FnOK Tryz.prog 162 Tryz.f162 e162 [.t 3] 2 6:=⟨by kernel_rfl,⟨_,rfl,by kernel_rfl⟩,by kernel_rfl,by kernel_rfl⟩
noncomputable def Ztc (x1:Int) (pc0:(Int→Option Bool)):Option Bool:=
 (pc0 x1).bind fun x2=>
 some (!x2)
theorem k_set_keep_1 (x1:Int) (gc0:Nat) (capsc0:List AV) (pc0:(Int→Option Bool)) (hcc0:CloOK Tryz.prog gc0 capsc0 (fun z=>[.iv z]) pc0 (fun z=>.bv z)) (r:Bool) (h:Ztc x1 pc0=some r):Zy2 Tryz.prog 162 [.iv x1,.elt [.clo gc0 capsc0] 0] (.bv r):=by
 refine Z23 ok162 rfl rfl fun w0 H0=>?_
 rw [Ztc] at h
 refine Zt2 8 ?_;dsimp only [go_sem];refine An ?_;obtain ⟨x2,ex2,h⟩:=Bs h;refine Za5 trivial rfl hcc0 (x:=x1) ex2 (by first | exact Zg4 _ | simp [go_sem]) (by first | rfl | simp [go_sem,hcc0.pu]) ?_;refine Zt2 3 ?_;dsimp only [go_sem];refine An ?_;exact Z45 (res:=fun (r:Bool)=>.bv r) ok162 h
def Zuc (_F:Nat) (x1:Int) (pc0:(Int→Option Bool)):Option Bool:=
 (pc0 x1).bind fun x2=>
 some (!x2)
theorem le_set_keep_1 {F:Nat} {x1:Int} {pc0 qc0:(Int→Option Bool)} (h_pc0:∀z,ole (pc0 z) (qc0 z)):ole (Zuc F x1 pc0) (Ztc x1 qc0):=by
 unfold Zuc Ztc
 with_reducible repeat' first | exact Zn4 _ | assumption | intro _ | refine Zo4 ?_ ?_ | refine Zp4 ?_ ?_ | refine Zq4 ?_ | refine Zs4 ?_ | apply h_pc0
set_option maxRecDepth 100000
set_option maxHeartbeats 4000000
@[go_sem] def e161_L0:EC:=.seq (.seq (.reg [(Qm 16 6),(Qm 17 0),(Qa 18 (.len (.t 17))),(Qa 19 (.bin .lss (.t 16) (.t 18)))]) (.ite (.t 19) (.skip) (.exit 0))) (.seq (.blk 1 (.seq (.reg [(Qm 22 0),(Qm 23 6),(Qk 24 1 22 23),(Ql 25 24),(Qm 7 25)]) (.seq (.reg [(Qm 26 1),(Qm 27 7),(Qa 28 (.callv (.t 26) [(.t 27)])),(Qa 29 (.not (.t 28)))]) (.ite (.t 29) (.seq (.reg [(Qm 30 0),(Qm 31 5),(Qm 32 7),(Qk 33 1 30 31),(Qs 1 33 32)]) (.reg [(Qm 34 5),(Qv 35 34 1),(Qm 5 35)])) (.skip))))) (.reg [(Qm 20 6),(Qv 21 20 1),(Qm 6 21)]))
@[go_sem] def e161:EC:=.seq (.reg [(Qa 4 (.mv (.c .nl)))]) (.seq (.reg [(Qm 8 0),(Qm 9 1),(Qa 10 (.call 92 [(.t 8),(.t 9)])),(Qm 5 10)]) (.seq (.seq (.reg [(Qm 11 5),(Qa 12 (.bin .eql (.t 11) (.c (.iv (-1)))))]) (.ite (.t 12) (.seq (.reg [(Qm 13 0),(Qm 4 13)]) (.ret)) (.skip))) (.seq (.seq (.reg [(Qm 14 5),(Qv 15 14 1),(Qm 6 15)]) (.blk 0 (.loop e161_L0))) (.seq (.reg [(Qm 36 0),(Qm 37 5),(Qa 38 (.slice 1 (.t 36) (some (.t 37)) none)),(Qb (.clr [.iv 0] (.t 38)))]) (.seq (.reg [(Qm 39 0),(Qm 40 5),(Qa 41 (.slice 1 (.t 39) none (some (.t 40)))),(Qm 4 41)]) (.ret))))))
theorem ok161:FnOK Tryz.prog 161 Tryz.f161 e161 [.t 4] 2 40:=⟨by kernel_rfl,⟨_,rfl,by kernel_rfl⟩,by kernel_rfl,by kernel_rfl⟩
set_option maxRecDepth 100000
set_option maxHeartbeats 4000000
@[go_sem] def e122:EC:=.seq (.reg [(Qx 3 117 1 1),(Qa 4 (.mv (.c .nl)))]) (.seq (.reg [(Qm 5 0),(Qa 6 (.call 71 [(.t 5)])),(Qa 7 (.mkf 162 [(.t 3)])),(Qa 8 (.call 161 [(.t 6),(.t 7)])),(Qm 4 8)]) (.ret))
theorem ok122:FnOK Tryz.prog 122 Tryz.f122 e122 [.t 4] 2 7:=⟨by kernel_rfl,⟨_,rfl,by kernel_rfl⟩,by kernel_rfl,by kernel_rfl⟩
noncomputable def Zvc:(Int×(List Int))→Option (List Int)
| (x25,x26)=>
 (vw_ (ln Zb5 x26) x25 (ln Zb5 x26)).bind fun _=>
 (clr_ x26 ((Int.toNat (x25))) (Int.toNat (ln Zb5 x26)-Int.toNat (x25)) 0).bind fun x28=>
 (Zi4 x28 0 x25).bind fun x29=>
 some x29
noncomputable def Zwc (x12:Int):(Int×(List Int))→Option ((Int×Int×(List Int)) ⊕ (List Int))
| (x17,x18)=>
 some (.inl (x17,wr (x12+1),x18))
noncomputable def Zxc (p0:(Int→Option Bool)):(Int×Int×(List Int))→Option ((Int×Int×(List Int)) ⊕ (List Int))
| (x11,x12,x13)=>
 ifb (decide (x12<(ln Zb5 x13))) (
 (at_ x13 x12).bind fun x14=>
 (p0 x14).bind fun x15=>
 ifb (!x15) (
 (at_ x13 x11).bind fun _=>
 (Zwc x12) (wr (x11+1),x13.set (Int.toNat (x11)) x14)) (
 (Zwc x12) (x11,x13))) (
 Option.map Sum.inr (Zvc (x11,x13)))
noncomputable def Zyc (x1:(List Int)) (p0:(Int→Option Bool)):Option (List Int):=
 (Zx7 x1 p0).bind fun x2=>
 ifb (decide (x2=((-1)))) (
 some x1) (
 loop (Zxc p0) (x2,wr (x2+1),x1))
theorem Zzc (x1:(List Int)) (g0:Nat) (caps0:List AV) (p0:(Int→Option Bool)) (hc0:CloOK Tryz.prog g0 caps0 (fun z=>[.iv z]) p0 (fun z=>.bv z)) (r:(List Int)) (h:Zyc x1 p0=some r):FunT Tryz.prog 161 [.osl 0,.clo g0 caps0] [none] [some ⟨3,1,List.map Zb5 x1⟩] (.osl 1) [none] [none,some ⟨3,1,List.map Zb5 r⟩]:=by
 refine Z46 ok161 rfl rfl rfl (by first | rfl | simp [go_sem]) fun w0 M0=>?_
 rw [Zyc] at h
 dsimp only [lun,List.cons_append,List.nil_append]
 refine Zt2 8 ?_;dsimp only [go_sem];refine An ?_;obtain ⟨x2,ex2,h⟩:=Bs h;refine Z85 trivial ((Z75.refl _).slice 0 rfl) (Zy7 x1 _ _ p0 hc0 _ ex2) (hp:=(by first | rfl | simp [go_sem,hc0.pu])) (ha:=(by first | exact Zg4 _ | simp [go_sem,subOL_pu _ _ _ hc0.pu])) (h:=?_);refine Zt2 8 ?_;dsimp only [go_sem];refine An ?_;refine Zw4 h rfl (fun _ h=>?_) fun _ h=>?_
 ·refine Zt2 5 ?_;dsimp only [go_sem];refine An ?_;refine V_new 3 1 rfl ?_;dsimp only [go_sem];refine Zd4 0 1 rfl rfl rfl ?_;dsimp only [go_sem];obtain rfl:=Option.some.inj h;exact Z56 ok161 rfl (by simp [go_sem])
 ·refine Zt2 8 ?_;dsimp only [go_sem];refine An ?_;refine Zu4 (fun ((x25,x26):(Int×(List Int)))=>(⟨(.osl 0::an 4 (.iv x25::an 36 [])),[none],[some ⟨3,1,List.map Zb5 x26⟩]⟩:St)) Zvc r ?_ fun J1=>?_
  ·rintro ⟨x25,x26⟩ h;rw [Zvc] at h;(try dsimp only);refine Zt2 4 ?_;dsimp only [go_sem];refine An ?_;obtain ⟨x27,ex27,h⟩:=Bs h;refine V_viewM Zb5 ex27 trivial rfl rfl rfl rfl ?_;obtain ⟨x28,ex28,h⟩:=Bs h;refine V_clrM Zb5 ex28 trivial rfl rfl (by first | exact Zg4 _ | simp [go_sem]) (by first | rfl | simp [go_sem]) rfl rfl ?_;refine Zt2 5 ?_;dsimp only [go_sem];refine An ?_;obtain ⟨x29,ex29,h⟩:=Bs h;refine V_cutM Zb5 ex29 trivial rfl rfl rfl rfl ?_;refine Zt2 2 ?_;dsimp only [go_sem];refine An ?_
   obtain rfl:=Option.some.inj h;exact Z56 ok161 rfl (by simp [go_sem])
  ·refine Zt2 1 ?_;dsimp only [go_sem];refine An ?_;refine Zv4 h (fun ((x11,x12,x13):(Int×Int×(List Int)))=>(⟨(.osl 0 :: .clo g0 caps0::an 3 (.iv x11 :: .iv x12::an 35 [])),[none],[some ⟨3,1,List.map Zb5 x13⟩]⟩:St)) (by simp [go_sem]) (by rintro ⟨x11,x12,x13⟩;first | rfl | simp [go_sem,Zf4 _ hc0.pu]) ?_;rintro n1 ⟨x11,x12,x13⟩ y1 h hin1 hout1;rw [Zxc] at h;(try dsimp only);refine Zt2 8 ?_;dsimp only [go_sem];refine An ?_;refine Zw4 h rfl (fun _ h=>?_) fun _ h=>?_
   ·refine Zt2 7 ?_;dsimp only [go_sem];refine An ?_;obtain ⟨x14,ex14,h⟩:=Bs h;refine Zs5 Zb5 ex14 trivial rfl rfl rfl ?_;refine V_loadO Zb5 ex14 trivial rfl rfl rfl ?_;refine Zt2 6 ?_;dsimp only [go_sem];refine An ?_;obtain ⟨x15,ex15,h⟩:=Bs h;refine Za5 trivial rfl hc0 (x:=x14) ex15 (by first | exact Zg4 _ | simp [go_sem]) (by first | rfl | simp [go_sem,hc0.pu]) ?_;refine Zt2 2 ?_;dsimp only [go_sem];refine An ?_
    refine Zu4 (fun ((x17,x18):(Int×(List Int)))=>(⟨(.osl 0 :: .clo g0 caps0::an 3 (.iv x17 :: .iv x12::an 35 [])),[none],[some ⟨3,1,List.map Zb5 x18⟩]⟩:St)) (Zwc x12) y1 ?_ fun J2=>?_
    ·rintro ⟨x17,x18⟩ h;rw [Zwc] at h;(try dsimp only);refine Zt2 6 ?_;dsimp only [go_sem];refine An ?_;exact Z55 h hin1 (hok:=by first | rfl | simp [go_sem,Zf4 _ hc0.pu])
    ·refine Zw4 h rfl (fun _ h=>?_) fun _ h=>?_
     ·refine Zt2 5 ?_;dsimp only [go_sem];refine An ?_;obtain ⟨x16,ex16,h⟩:=Bs h;refine Zs5 Zb5 ex16 trivial rfl rfl rfl ?_;refine Zz5 [.iv x14] Zb5 (y':=x14) ex16 trivial rfl rfl rfl (by first | exact Zg4 _ | simp [go_sem]) rfl rfl rfl rfl ?_;refine Zt2 6 ?_;dsimp only [go_sem];refine An ?_;exact Z65 J2 (s:=(wr (x11+1),x13.set (Int.toNat (x11)) x14)) h (hok:=by first | rfl | simp [go_sem,Zf4 _ hc0.pu])
     ·refine Zt2 1 ?_;dsimp only [go_sem];refine An ?_;exact Z65 J2 (s:=(x11,x13)) h (hok:=by first | rfl | simp [go_sem,Zf4 _ hc0.pu])
   ·refine Zt2 1 ?_;dsimp only [go_sem];refine An ?_;exact Z65 J1 (s:=(x11,x13)) (Zt4 h hout1) (hok:=by first | rfl | simp [go_sem,Zf4 _ hc0.pu])
def Z0d (_F:Nat):(Int×(List Int))→Option (List Int)
| (x25,x26)=>
 (vw_ (ln Zb5 x26) x25 (ln Zb5 x26)).bind fun _=>
 (clr_ x26 ((Int.toNat (x25))) (Int.toNat (ln Zb5 x26)-Int.toNat (x25)) 0).bind fun x28=>
 (Zi4 x28 0 x25).bind fun x29=>
 some x29
theorem Z1d {F:Nat}:∀s,ole (Z0d F s) (Zvc s):=by
 rintro ⟨x25,x26⟩
 unfold Z0d Zvc
 try dsimp only
 with_reducible repeat' first | exact Zn4 _ | assumption | intro _ | refine Zo4 ?_ ?_ | refine Zp4 ?_ ?_ | refine Zq4 ?_ | refine Zs4 ?_ | apply h_p0
def Z2d (_F:Nat) (x12:Int):(Int×(List Int))→Option ((Int×Int×(List Int)) ⊕ (List Int))
| (x17,x18)=>
 some (.inl (x17,wr (x12+1),x18))
theorem Z3d {F:Nat} {x12:Int}:∀s,ole (Z2d F x12 s) (Zwc x12 s):=by
 rintro ⟨x17,x18⟩
 unfold Z2d Zwc
 try dsimp only
 with_reducible repeat' first | exact Zn4 _ | assumption | intro _ | refine Zo4 ?_ ?_ | refine Zp4 ?_ ?_ | refine Zq4 ?_ | refine Zs4 ?_ | apply Z1d | apply h_p0
def Z4d (F:Nat) (p0:(Int→Option Bool)):(Int×Int×(List Int))→Option ((Int×Int×(List Int)) ⊕ (List Int))
| (x11,x12,x13)=>
 ifb (decide (x12<(ln Zb5 x13))) (
 (at_ x13 x12).bind fun x14=>
 (p0 x14).bind fun x15=>
 ifb (!x15) (
 (at_ x13 x11).bind fun _=>
 (Z2d F x12) (wr (x11+1),x13.set (Int.toNat (x11)) x14)) (
 (Z2d F x12) (x11,x13))) (
 Option.map Sum.inr (Z0d F (x11,x13)))
theorem Z5d {F:Nat} {p0 q0:(Int→Option Bool)} (h_p0:∀z,ole (p0 z) (q0 z)):∀s,ole (Z4d F p0 s) (Zxc q0 s):=by
 rintro ⟨x11,x12,x13⟩
 unfold Z4d Zxc
 try dsimp only
 with_reducible repeat' first | exact Zn4 _ | assumption | intro _ | refine Zo4 ?_ ?_ | refine Zp4 ?_ ?_ | refine Zq4 ?_ | refine Zs4 ?_ | apply Z1d | apply Z3d | apply h_p0
def Z6d (F:Nat) (x1:(List Int)) (p0:(Int→Option Bool)):Option (List Int):=
 (Z38 F x1 p0).bind fun x2=>
 ifb (decide (x2=((-1)))) (
 some x1) (
 Zr4 F (Z4d F p0) (x2,wr (x2+1),x1))
theorem Z7d {F:Nat} {x1:(List Int)} {p0 q0:(Int→Option Bool)} (h_p0:∀z,ole (p0 z) (q0 z)):ole (Z6d F x1 p0) (Zyc x1 q0):=by
 unfold Z6d Zyc
 with_reducible repeat' first | exact Zn4 _ | assumption | intro _ | refine Zo4 ?_ ?_ | refine Zp4 ?_ ?_ | refine Zq4 ?_ | refine Zs4 ?_ | apply Z1d | apply Z3d | apply Z5d | apply Z48 | apply h_p0
noncomputable def Z8d (x1:(List Int)) (p1:(Int→Option Bool)):Option (List Int):=
 (Zm9 x1).bind fun x2=>
 (Zyc x2 ((fun z=>Ztc z p1))).bind fun x3=>
 some x3
theorem k_set_keep (x1:(List Int)) (g1:Nat) (caps1:List AV) (p1:(Int→Option Bool)) (hc1:CloOK Tryz.prog g1 caps1 (fun z=>[.iv z]) p1 (fun z=>.bv z)) (r:(List Int)) (h:Z8d x1 p1=some r):Zy2 Tryz.prog 122 [.sl 1 (List.map Zb5 x1),.clo g1 caps1] (.sl 1 (List.map Zb5 r)):=by
 refine Z23 ok122 rfl rfl fun w0 H0=>?_
 rw [Z8d] at h
 refine Zt2 8 ?_;dsimp only [go_sem];refine An ?_;obtain ⟨x2,ex2,h⟩:=Bs h;refine Zk5 trivial (Zn9 x1 _ ex2) (hp:=(by first | rfl | simp [go_sem,hc1.pu])) (h:=?_);refine Zt2 1 ?_;dsimp only [go_sem];refine An ?_;refine V_sealB 0 rfl (by first | rfl | simp [go_sem,hc1.pu]) ?_;dsimp only [go_sem];obtain ⟨x3,ex3,h⟩:=Bs h;refine Z66 [false] [true] trivial (Zzc x2 _ _ ((fun z=>Ztc z p1)) ⟨by kernel_rfl,rfl,fun z r hz=>k_set_keep_1 z _ _ p1 hc1 r hz⟩ _ ex3) (h:=?_);dsimp only [go_sem];refine Zt2 2 ?_
 dsimp only [go_sem];refine An ?_;refine Zk3 1 rfl ?_;dsimp only [go_sem];exact Z45 (res:=fun (r:(List Int))=>.sl 1 (List.map Zb5 r)) ok122 h
def Z9d (F:Nat) (x1:(List Int)) (p1:(Int→Option Bool)):Option (List Int):=
 (Zo9 F x1).bind fun x2=>
 (Z6d F x2 ((fun z=>Zuc F z p1))).bind fun x3=>
 some x3
theorem le_set_keep {F:Nat} {x1:(List Int)} {p1 q1:(Int→Option Bool)} (h_p1:∀z,ole (p1 z) (q1 z)):ole (Z9d F x1 p1) (Z8d x1 q1):=by
 unfold Z9d Z8d
 with_reducible repeat' first | exact Zn4 _ | assumption | intro _ | refine Zo4 ?_ ?_ | refine Zp4 ?_ ?_ | refine Zq4 ?_ | refine Zs4 ?_ | apply Zp9 | apply Z7d | apply le_set_keep_1 | apply h_p1
set_option maxRecDepth 100000
set_option maxHeartbeats 4000000
@[go_sem] def e88:EC:=.seq (.reg [(Qx 3 40 1 1),(Qa 4 (.mv (.c .nl)))]) (.seq (.reg [(Qm 5 0),(Qa 6 (.mkf 123 [(.t 3)])),(Qa 7 (.call 122 [(.t 5),(.t 6)])),(Qm 4 7)]) (.ret))
theorem ok88:FnOK Tryz.prog 88 Tryz.f88 e88 [.t 4] 2 6:=⟨by kernel_rfl,⟨_,rfl,by kernel_rfl⟩,by kernel_rfl,by kernel_rfl⟩
noncomputable def Zad (x1:(List Int)) (x2:(List Int)):Option (List Int):=
 (Z8d x1 ((fun z=>Zqc z x2))).bind fun x3=>
 some x3
theorem Zbd (x1:(List Int)) (x2:(List Int)) (r:(List Int)) (h:Zad x1 x2=some r):Zy2 Tryz.prog 88 [.sl 1 (List.map Zb5 x1),.sl 1 (List.map Zb5 x2)] (.sl 1 (List.map Zb5 r)):=by
 refine Z23 ok88 rfl rfl fun w0 H0=>?_
 rw [Zad] at h
 refine Zt2 9 ?_;dsimp only [go_sem];refine An ?_;refine V_sealB 0 rfl rfl ?_;dsimp only [go_sem];obtain ⟨x3,ex3,h⟩:=Bs h;refine Z73 trivial (k_set_keep x1 _ _ ((fun z=>Zqc z x2)) ⟨by kernel_rfl,rfl,fun z r hz=>k_set_Minus_1 z x2 r hz⟩ _ ex3) (h:=?_);refine Zt2 2 ?_;dsimp only [go_sem];refine An ?_;exact Z45 (res:=fun (r:(List Int))=>.sl 1 (List.map Zb5 r)) ok88 h
def Zcd (F:Nat) (x1:(List Int)) (x2:(List Int)):Option (List Int):=
 (Z9d F x1 ((fun z=>Zrc F z x2))).bind fun x3=>
 some x3
theorem Zdd {F:Nat} {x1:(List Int)} {x2:(List Int)}:ole (Zcd F x1 x2) (Zad x1 x2):=by
 unfold Zcd Zad
 with_reducible repeat' first | exact Zn4 _ | assumption | intro _ | refine Zo4 ?_ ?_ | refine Zp4 ?_ ?_ | refine Zq4 ?_ | refine Zs4 ?_ | apply le_set_keep | apply Zsc
set_option maxRecDepth 100000
set_option maxHeartbeats 4000000
@[go_sem] def e82:EC:=.seq (.reg [(Qa 4 (.mv (.c .nl)))]) (.seq (.reg [(Qm 5 0),(Qm 6 1),(Qa 7 (.bsl 3 1 1 [.iv 0] [(0,(.t 6))])),(Qa 8 (.call 88 [(.t 5),(.t 7)])),(Qm 4 8)]) (.ret))
theorem ok82:FnOK Tryz.prog 82 Tryz.f82 e82 [.t 4] 2 7:=⟨by kernel_rfl,⟨_,rfl,by kernel_rfl⟩,by kernel_rfl,by kernel_rfl⟩
noncomputable def Zed (x1:(List Int)) (x2:Int):Option (List Int):=
 (Zad x1 ([x2])).bind fun x3=>
 some x3
theorem k_set_Del (x1:(List Int)) (x2:Int) (r:(List Int)) (h:Zed x1 x2=some r):Zy2 Tryz.prog 82 [.sl 1 (List.map Zb5 x1),.iv x2] (.sl 1 (List.map Zb5 r)):=by
 refine Z23 ok82 rfl rfl fun w0 H0=>?_
 rw [Zed] at h
 refine Zt2 9 ?_;dsimp only [go_sem];refine An ?_;refine Zk3 0 rfl ?_;dsimp only [go_sem];obtain ⟨x3,ex3,h⟩:=Bs h;refine Z73 trivial (Zbd x1 ([x2]) _ ex3) (h:=?_);refine Zt2 2 ?_;dsimp only [go_sem];refine An ?_;exact Z45 (res:=fun (r:(List Int))=>.sl 1 (List.map Zb5 r)) ok82 h
def Zfd (F:Nat) (x1:(List Int)) (x2:Int):Option (List Int):=
 (Zcd F x1 ([x2])).bind fun x3=>
 some x3
theorem Zgd {F:Nat} {x1:(List Int)} {x2:Int}:ole (Zfd F x1 x2) (Zed x1 x2):=by
 unfold Zfd Zed
 with_reducible repeat' first | exact Zn4 _ | assumption | intro _ | refine Zo4 ?_ ?_ | refine Zp4 ?_ ?_ | refine Zq4 ?_ | refine Zs4 ?_ | apply Zdd
set_option maxRecDepth 100000
set_option maxHeartbeats 4000000
@[go_sem] def e52:EC:=.seq (.reg [(Qa 4 (.mv (.c .ff)))]) (.seq (.reg [(Qm 5 0),(Qm 6 1),(Qa 7 (.call 88 [(.t 5),(.t 6)])),(Qa 8 (.len (.t 7))),(Qa 9 (.bin .eql (.t 8) (.c (.iv 0)))),(Qm 4 9)]) (.ret))
theorem ok52:FnOK Tryz.prog 52 Tryz.f52 e52 [.t 4] 2 8:=⟨by kernel_rfl,⟨_,rfl,by kernel_rfl⟩,by kernel_rfl,by kernel_rfl⟩
noncomputable def Zhd (x1:(List Int)) (x2:(List Int)):Option Bool:=
 (Zad x1 x2).bind fun x3=>
 some (decide ((ln Zb5 x3)=0))
theorem Zid (x1:(List Int)) (x2:(List Int)) (r:Bool) (h:Zhd x1 x2=some r):Zy2 Tryz.prog 52 [.sl 1 (List.map Zb5 x1),.sl 1 (List.map Zb5 x2)] (.bv r):=by
 refine Z23 ok52 rfl rfl fun w0 H0=>?_
 rw [Zhd] at h
 refine Zt2 8 ?_;dsimp only [go_sem];refine An ?_;obtain ⟨x3,ex3,h⟩:=Bs h;refine Z73 trivial (Zbd x1 x2 _ ex3) (h:=?_);refine Zt2 4 ?_;dsimp only [go_sem];refine An ?_;exact Z45 (res:=fun (r:Bool)=>.bv r) ok52 h
def Zjd (F:Nat) (x1:(List Int)) (x2:(List Int)):Option Bool:=
 (Zcd F x1 x2).bind fun x3=>
 some (decide ((ln Zb5 x3)=0))
theorem Zkd {F:Nat} {x1:(List Int)} {x2:(List Int)}:ole (Zjd F x1 x2) (Zhd x1 x2):=by
 unfold Zjd Zhd
 with_reducible repeat' first | exact Zn4 _ | assumption | intro _ | refine Zo4 ?_ ?_ | refine Zp4 ?_ ?_ | refine Zq4 ?_ | refine Zs4 ?_ | apply Zdd
set_option maxRecDepth 100000
set_option maxHeartbeats 4000000
@[go_sem] def e56_L0:EC:=.seq (.reg [(Qa 7 (.bin .lss (.t 6) (.t 5)))]) (.seq (.ite (.t 7) (.skip) (.exit 0)) (.seq (.blk 1 (.seq (.reg [(Qm 8 6),(Qm 3 8)]) (.seq (.drw [(Qm 9 3),(Qa 10 (.bin .gtr (.t 9) (.c (.iv 0)))),(Qm 11 10),(Qg 12 11 true (.mv (.t 0))),(Qg 13 11 true (.mv (.t 3))),(Qg 14 11 true (.bin .sub (.t 13) (.c (.iv 1)))),(Qg 15 11 true (.idx 1 (.t 12) (.t 14))),(Qn 16 11 true 15),(Qg 17 11 true (.mv (.t 0))),(Qg 18 11 true (.mv (.t 3))),(Qg 19 11 true (.idx 1 (.t 17) (.t 18))),(Qn 20 11 true 19),(Qg 21 11 true (.bin .geq (.t 16) (.t 20))),(Qp 22 11 21)] [[],[0],[1],[2],[2],[4,2],[3,5,2],[6,2],[2],[2],[8,9,2],[10,2],[7,11,2],[2,12]] [[1],[0,2],[1,3,4,5,6,7,8,9,10,11,12,13],[2,6],[2,5],[2,4,6],[2,3,5,7],[2,6,12],[2,10],[2,10],[2,8,9,11],[2,10,12],[2,7,11,13],[2,12]]) (.ite (.t 22) (.seq (.reg [(Qa 2 (.mv (.c .ff)))]) (.ret)) (.skip))))) (.reg [(Qv 23 6 1),(Qm 6 23)])))
@[go_sem] def e56:EC:=.seq (.reg [(Qa 2 (.mv (.c .ff)))]) (.seq (.seq (.reg [(Qm 4 0),(Qa 5 (.len (.t 4))),(Qi 6 0)]) (.blk 0 (.loop e56_L0))) (.seq (.reg [(Qa 2 (.mv (.c .tt)))]) (.ret)))
theorem ok56:FnOK Tryz.prog 56 Tryz.f56 e56 [.t 2] 1 23:=⟨by kernel_rfl,⟨_,rfl,by kernel_rfl⟩,by kernel_rfl,by kernel_rfl⟩
noncomputable def Zld:Unit→Option Bool
| ()=>
 some true
noncomputable def Zmd (x6:Int):Bool→Option (Int ⊕ Bool)
| x9=>
 ifb x9 (
 Option.map Sum.inr (some false)) (
 some (.inl (wr (x6+1))))
noncomputable def Znd (x1:(List Int)):Int→Option (Int ⊕ Bool)
| x6=>
 ifb (decide (x6<(ln Zb5 x1))) (
 ifb (decide (0<x6)) (
 (at_ x1 (wr (x6-1))).bind fun x7=>
 (at_ x1 x6).bind fun x8=>
 (Zmd x6) (decide (x8≤x7))) (
 (Zmd x6) false)) (
 Option.map Sum.inr (Zld ()))
noncomputable def Zod (x1:(List Int)):Option Bool:=
 loop (Znd x1) 0
theorem Zpd (x1:(List Int)) (r:Bool) (h:Zod x1=some r):Zy2 Tryz.prog 56 [.sl 1 (List.map Zb5 x1)] (.bv r):=by
 refine Z23 ok56 rfl rfl fun w0 H0=>?_
 rw [Zod] at h
 refine Zt2 11 ?_;dsimp only [go_sem];refine An ?_;refine Zu4 (fun (_:Unit)=>(⟨(an 24 []),[],[]⟩:St)) Zld r ?_ fun J1=>?_
 ·rintro ⟨⟩ h;rw [Zld] at h;(try dsimp only);refine Zt2 4 ?_;dsimp only [go_sem];refine An ?_;exact Z45 (res:=fun (r:Bool)=>.bv r) ok56 h
 ·refine Zt2 1 ?_;dsimp only [go_sem];refine An ?_;refine Zv4 h (fun (x6:Int)=>(⟨(.sl 1 (List.map Zb5 x1)::an 4 (.iv (ln Zb5 x1) :: .iv x6::an 17 [])),[],[]⟩:St)) (by simp [go_sem]) (by intro x6;first | rfl | simp [go_sem]) ?_;rintro n1 x6 y1 h hin1 hout1;rw [Znd] at h;(try dsimp only);refine Zt2 5 ?_;dsimp only [go_sem];refine An ?_;refine Zw4 h rfl (fun _ h=>?_) fun _ h=>?_
  ·refine Zt2 9 ?_;dsimp only [go_sem];refine An ?_;refine Zu4 (fun (x9:Bool)=>(⟨(.sl 1 (List.map Zb5 x1)::an 4 (.iv (ln Zb5 x1) :: .iv x6::an 15 [.bv x9,.any])),[],[]⟩:St)) (Zmd x6) y1 ?_ fun J2=>?_
   ·intro x9 h;rw [Zmd] at h;(try dsimp only);refine Zw4 h rfl (fun _ h=>?_) fun _ h=>?_
    ·refine Zt2 4 ?_;dsimp only [go_sem];refine An ?_;exact Z45 (res:=fun (r:Bool)=>.bv r) ok56 (Zt4 h hout1)
    ·refine Zt2 6 ?_;dsimp only [go_sem];refine An ?_;exact Z55 h hin1
   ·refine Zs3 (by kernel_rfl) fun all hall hs hnap haf=>?_;dsimp only [go_sem];refine Zp5 hall hs haf hnap 3 11 ?_;dsimp only [go_sem];refine An ?_;refine Ze5 11 h rfl (fun _ h=>?_) fun _ h=>?_
    ·dsimp only [go_sem];refine Zq5 hall hs haf hnap 5 6 [6,2,2,4] [(12,[.sl 1 (List.map Zb5 x1),.iv x6,.iv (wr (x6-1))]),(2,[.sl 1 (List.map Zb5 x1),.iv x6])] (by kernel_rfl) ?_;dsimp only [go_sem];obtain ⟨x7,ex7,h⟩:=Bs h;refine Z05 hall hs haf hnap 6 Zb5 ex7 rfl rfl trivial rfl rfl rfl rfl ?_;refine Zp5 hall hs haf hnap 1 4 ?_;dsimp only [go_sem];refine An ?_;obtain ⟨x8,ex8,h⟩:=Bs h;refine Z05 hall hs haf hnap 10 Zb5 ex8 rfl rfl trivial rfl rfl rfl rfl ?_;refine Zp5 hall hs haf hnap 3 0 ?_;dsimp only [go_sem];refine An ?_
     refine Z24 rfl ?_ _;exact Z65 J2 (s:=decide (x8≤x7)) h
    ·dsimp only [go_sem];refine Zq5 hall hs haf hnap 11 0 [14] [(12,[.un,.un,.un,.un,.un,.un,.un,.un,.un,.un,.ff])] (by kernel_rfl) ?_;dsimp only [go_sem];refine Z24 rfl ?_ _;exact Z65 J2 (s:=false) h
  ·refine Zt2 1 ?_;dsimp only [go_sem];refine An ?_;exact Z65 J1 (s:=()) (Zt4 h hout1)
def Zqd (_F:Nat):Unit→Option Bool
| ()=>
 some true
theorem Zrd {F:Nat}:∀s,ole (Zqd F s) (Zld s):=by
 rintro ⟨⟩
 unfold Zqd Zld
 try dsimp only
 with_reducible repeat' first | exact Zn4 _ | assumption | intro _ | refine Zo4 ?_ ?_ | refine Zp4 ?_ ?_ | refine Zq4 ?_ | refine Zs4 ?_
def Zsd (_F:Nat) (x6:Int):Bool→Option (Int ⊕ Bool)
| x9=>
 ifb x9 (
 Option.map Sum.inr (some false)) (
 some (.inl (wr (x6+1))))
theorem Ztd {F:Nat} {x6:Int}:∀s,ole (Zsd F x6 s) (Zmd x6 s):=by
 intro x9
 unfold Zsd Zmd
 try dsimp only
 with_reducible repeat' first | exact Zn4 _ | assumption | intro _ | refine Zo4 ?_ ?_ | refine Zp4 ?_ ?_ | refine Zq4 ?_ | refine Zs4 ?_ | apply Zrd
def Zud (F:Nat) (x1:(List Int)):Int→Option (Int ⊕ Bool)
| x6=>
 ifb (decide (x6<(ln Zb5 x1))) (
 ifb (decide (0<x6)) (
 (at_ x1 (wr (x6-1))).bind fun x7=>
 (at_ x1 x6).bind fun x8=>
 (Zsd F x6) (decide (x8≤x7))) (
 (Zsd F x6) false)) (
 Option.map Sum.inr (Zqd F ()))
theorem Zvd {F:Nat} {x1:(List Int)}:∀s,ole (Zud F x1 s) (Znd x1 s):=by
 intro x6
 unfold Zud Znd
 try dsimp only
 with_reducible repeat' first | exact Zn4 _ | assumption | intro _ | refine Zo4 ?_ ?_ | refine Zp4 ?_ ?_ | refine Zq4 ?_ | refine Zs4 ?_ | apply Zrd | apply Ztd
def Zwd (F:Nat) (x1:(List Int)):Option Bool:=
 Zr4 F (Zud F x1) 0
theorem Zxd {F:Nat} {x1:(List Int)}:ole (Zwd F x1) (Zod x1):=by
 unfold Zwd Zod
 with_reducible repeat' first | exact Zn4 _ | assumption | intro _ | refine Zo4 ?_ ?_ | refine Zp4 ?_ ?_ | refine Zq4 ?_ | refine Zs4 ?_ | apply Zrd | apply Ztd | apply Zvd
theorem s_Grow (n:Nat) (hn:n≤3000000):Zcb n=some []:=by
 have e0:wr (0-0)=0:=Zg6 (by omega) (by omega)
 have e1:wr ((n:Int)-0)=n:=by rw [Zg6 (by omega) (by omega)];omega
 simp only [Zcb,Zbb,Zab,e0,e1]
 rw [decide_eq_false (by omega),Zf6]
 by_cases h:0<n
 ·rw [decide_eq_true (by omega),Ze6]
  unfold apz_
  rw [if_pos ⟨by omega,by omega,by omega⟩,Option.bind_some]
  unfold Zi4
  rw [if_pos ⟨by omega,by omega,by omega⟩]
  simp
 ·rw [decide_eq_false (by omega),Zf6]
theorem s_Concat (a b:List Int) (ha:a.length≤1000000) (hb:b.length≤1000000):Zpb [a,b]=some (a++b):=by
 have g0:at_ [a,b] 0=some a:=rfl
 have g1:at_ [a,b] (wr (0+1))=some b:=by rw [Zg6 (by omega) (by omega)];rfl
 have l0:ln (Zc5 1 Zb5) [a,b]=2:=by rw [Zd5];rfl
 have w1:wr (0+1)=1:=Zg6 (by omega) (by omega)
 have w2:wr (1+1)=2:=Zg6 (by omega) (by omega)
 have s1:wr (0+ln Zb5 a)=(a.length:Int):=by rw [Zd5,Zg6 (by omega) (by omega)];omega
 have s2:wr ((a.length:Int)+ln Zb5 b)=((a.length+b.length:Nat):Int):=by rw [Zd5,Zg6 (by omega) (by omega)];omega
 unfold Zpb
 rw [Zm4]
 dsimp only [Zob]
 rw [l0,show decide ((0:Int)<2)=true from rfl,Ze6,g0,Option.bind_some,s1,decide_eq_false (by omega),Zf6]
 dsimp only [Znb]
 rw [s1,w1,Zm4]
 dsimp only [Zob]
 rw [l0,show decide ((1:Int)<2)=true from rfl,Ze6,←w1,g1,Option.bind_some,s2,decide_eq_false (by omega),Zf6]
 dsimp only [Znb]
 rw [s2,w1,w2,Zm4]
 dsimp only [Zob]
 rw [l0,show decide ((2:Int)<2)=false from rfl,Zf6]
 dsimp only [Zmb]
 rw [s_Grow _ (by omega),Option.bind_some]
 have k:loop (Zlb [a,b]) (0,[])=some (a++b):=by
  rw [Zm4]
  dsimp only [Zlb]
  rw [l0,show decide ((0:Int)<2)=true from rfl,Ze6,g0,Option.bind_some,Zi6 _ _ (by omega) (by simp;omega),Option.bind_some,List.nil_append,w1]
  dsimp only
  rw [Zm4]
  dsimp only [Zlb]
  rw [l0,show decide ((1:Int)<2)=true from rfl,Ze6,←w1,g1,Option.bind_some,Zi6 _ _ (by omega) (by omega),Option.bind_some,w1,w2]
  dsimp only
  rw [Zm4]
  dsimp only [Zlb]
  rw [l0,show decide ((2:Int)<2)=false from rfl,Zf6]
  rfl
 rw [k];rfl
theorem s_ContainsInt (l:List Int) (x:Int) (hl:l.length≤1000000):Zic l x=some (decide (x∈l)):=by
 have h1:Zac l x=some (plc (l.findIdx? fun y=>decide (x=y))):=by
  unfold Zac
  refine Zq6 l _ (fun y=>decide (x=y)) (by omega) (fun k y hy=>?_) ?_
  ·simp only [Z9c,Zj6 hy,Ze6,Zh6 hy,Option.bind_some,Zm6 hy (show l.length≤4000000000000000000 by omega)]
   cases decide (x=y)<;>rfl
  ·simp only [Z9c,Zk6,Zf6,Z8c,Option.map_some]
 simp only [Zic,h1,Option.bind_some,Zo6,Zr6]
 congr 1
 rw [Bool.eq_iff_iff,List.any_eq_true,decide_eq_true_iff]
 constructor
 ·rintro ⟨y,hy,h⟩
  have:x=y:=by simpa using h
  exact this ▸ hy
 ·intro h;exact ⟨x,h,by simp⟩
theorem Zyd (l:List Int) (x:Int) (hl:l.length≤1000000):Zmc l x=some (decide (x∈l)):=by
 simp only [Zmc,s_ContainsInt l x hl,Option.bind_some]
theorem Zzd {zs:List Int} (h:zs.Pairwise (· ≤ ·)):(Lib.compact zs).Pairwise (· < ·)∧∀x,x∈Lib.compact zs↔x∈zs:=by
 have get:∀j,j<zs.length→∃hj:j<zs.length,zs.toArray[j]! = zs[j]:=fun j hj=>⟨hj,by rw [getElem!_pos _ _ (by simpa using hj)];simp⟩
 have mono:∀i j,i≤j→j<zs.length→zs.toArray[i]!≤zs.toArray[j]!:=fun i j hij hj=>by
  obtain ⟨_,e1⟩:=get i (by omega)
  obtain ⟨_,e2⟩:=get j hj
  rw [e1,e2]
  by_cases e:i=j
  ·subst e;exact Int.le_refl _
  ·rw [List.pairwise_iff_getElem] at h
   exact h i j (by omega) hj (by omega)
 have key:∀m,m≤zs.length→(Lib.compactUpTo zs.toArray m).Pairwise (· < ·)∧(∀x,x∈Lib.compactUpTo zs.toArray m↔∃j,j<m∧x=zs.toArray[j]!):=by
  intro m
  induction m with
  | zero=>intro _;exact ⟨by simp [Lib.compactUpTo],fun x=>by simp [Lib.compactUpTo]⟩
  | succ m ih=>
    intro hm
    obtain ⟨h1,h2⟩:=ih (by omega)
    rw [Lib.compactUpTo_succ]
    cases hk:Lib.keeps zs.toArray m with
    | true=>
      rw [if_pos rfl]
      refine ⟨?_,fun x=>?_⟩
      ·rw [List.pairwise_append]
       refine ⟨h1,by simp,fun x hx y hy=>?_⟩
       rw [List.mem_singleton] at hy
       subst hy
       obtain ⟨j,hj,rfl⟩:=(h2 x).1 hx
       unfold Lib.keeps at hk
       simp only [decide_eq_true_eq] at hk
       have a1:=mono j (m-1) (by omega) (by omega)
       have a2:=mono (m-1) m (by omega) (by omega)
       rcases hk with e | e
       ·omega
       ·have:zs.toArray[m]!≠zs.toArray[m-1]!:=e
        omega
      ·rw [List.mem_append,h2]
       constructor
       ·rintro (⟨j,hj,e⟩ | e)
        ·exact ⟨j,by omega,e⟩
        ·simp at e;exact ⟨m,by omega,by simpa using e⟩
       ·rintro ⟨j,hj,e⟩
        by_cases hjm:j=m
        ·subst hjm;right;simp [e]
        ·exact .inl ⟨j,by omega,e⟩
    | false=>
      rw [if_neg (by simp),List.append_nil]
      refine ⟨h1,fun x=>?_⟩
      rw [h2]
      constructor
      ·rintro ⟨j,hj,e⟩;exact ⟨j,by omega,e⟩
      ·rintro ⟨j,hj,e⟩
       by_cases hjm:j=m
       ·subst hjm
        unfold Lib.keeps at hk
        simp only [decide_eq_false_iff_not,not_or,Classical.not_not] at hk
        exact ⟨j-1,by omega,by rw [e,hk.2]⟩
       ·exact ⟨j,by omega,e⟩
 obtain ⟨k1,k2⟩:=key zs.length (Nat.le_refl _)
 refine ⟨k1,fun x=>?_⟩
 have:=k2 x
 unfold Lib.compact
 rw [this]
 constructor
 ·rintro ⟨j,hj,e⟩
  obtain ⟨_,e1⟩:=get j hj
  rw [e,e1];exact List.getElem_mem hj
 ·intro hx
  obtain ⟨j,hj,e⟩:=List.mem_iff_getElem.1 hx
  obtain ⟨_,e1⟩:=get j hj
  exact ⟨j,hj,by rw [e1,e]⟩
theorem Z0e (l:List Int):(Z7b l).Pairwise (· < ·)∧∀x,x∈Z7b l↔x∈l:=by
 have hs:(l.mergeSort fun x y=>decide (x≤y)).Pairwise (· ≤ ·):=by
  have:=List.pairwise_mergeSort (le:=fun x y:Int=>decide (x≤y)) (by intro a b c;simp;omega) (by intro a b;simp;omega) l
  exact this.imp fun h=>by simpa using h
 obtain ⟨h1,h2⟩:=Zzd hs
 refine ⟨h1,fun x=>?_⟩
 unfold Z7b
 rw [h2]
 exact (List.mergeSort_perm l _).mem_iff
theorem pw_len:∀(l:List Int) (q n:Int),l.Pairwise (· < ·)→(∀x∈l,q≤x∧x<n)→l=[]∨(l.length:Int)≤n-q
 | [],_,_,_,_=>.inl rfl
 | x::l,q,n,h,hb=>by
   rw [List.pairwise_cons] at h
   have h1:=hb x (by simp)
   right
   rcases pw_len l (x+1) n h.2 (fun y hy=>⟨by have:=h.1 y hy;omega,(hb y (by simp [hy])).2⟩) with rfl | h2
   ·simp only [List.length_cons,List.length_nil];omega
   ·simp only [List.length_cons];omega
theorem pw2 {x y:Int} {r:List Int}:(x::y::r).Pairwise (· < ·)↔x<y∧(y::r).Pairwise (· < ·):=by
 constructor
 ·intro h
  rw [List.pairwise_cons] at h
  exact ⟨h.1 y (by simp),h.2⟩
 ·rintro ⟨h,k⟩
  rw [List.pairwise_cons]
  refine ⟨fun z hz=>?_,k⟩
  rw [List.pairwise_cons] at k
  rcases List.mem_cons.1 hz with rfl | hz
  ·exact h
  ·have:=k.1 z hz;omega
theorem s_Valid (l:List Int) (hl:l.length≤1000000):Zod l=some (decide (l.Pairwise (· < ·))):=by
 unfold Zod
 have key:=loop_natI l.length (Znd l) (fun k=>(k:Int)) (fun k=>some (decide ((l.drop (k-1)).Pairwise (· < ·)))) (fun k hk=>?_) ?_
 ·simpa using key
 ·obtain ⟨y,hy⟩:∃y,l[k]?=some y:=⟨_,List.getElem?_eq_getElem hk⟩
  dsimp only [Znd]
  rw [Zj6 hy,Ze6]
  cases k with
  | zero=>
    left
    rw [decide_eq_false (by omega),Zf6]
    dsimp only [Zmd]
    rw [Zf6,Zl6 (by omega)]
    exact ⟨rfl,rfl⟩
  | succ k=>
    obtain ⟨x,hx⟩:∃x,l[k]?=some x:=⟨_,List.getElem?_eq_getElem (by omega)⟩
    have e1:l.drop k=x::l.drop (k+1):=by
     obtain ⟨h1,rfl⟩:=List.getElem?_eq_some_iff.1 hx
     exact List.drop_eq_getElem_cons h1
    have e2:l.drop (k+1)=y::l.drop (k+2):=by
     obtain ⟨h1,rfl⟩:=List.getElem?_eq_some_iff.1 hy
     exact List.drop_eq_getElem_cons h1
    rw [decide_eq_true (by omega),Ze6,Zza (by omega),Zh6 hx,Option.bind_some,Zh6 hy,Option.bind_some]
    dsimp only [Zmd]
    rw [show k+1-1=k from rfl,show k+1+1-1=k+1 from rfl,e1,e2,decide_eq_decide.2 (pw2 (x:=x) (y:=y) (r:=l.drop (k+2)))]
    by_cases h:y≤x
    ·right
     refine ⟨false,by rw [decide_eq_true h,Ze6];rfl,?_⟩
     rw [decide_eq_false (by rintro ⟨h1,_⟩;omega)]
    ·left
     refine ⟨by rw [decide_eq_false h,Zf6,Zl6 (by omega)],?_⟩
     have:x<y:=by omega
     simp [this]
 ·dsimp only [Znd]
  rw [Zk6,Zf6]
  have:(l.drop (l.length-1)).Pairwise (· < ·):=by
   have h1:(l.drop (l.length-1)).length≤1:=by rw [List.length_drop];omega
   generalize l.drop (l.length-1)=q at h1
   match q,h1 with
   | [],_=>exact .nil
   | [x],_=>exact List.pairwise_singleton _ _
  rw [decide_eq_true this];rfl
theorem filt_drop {α:Type} (f:α→Bool) (pre post:List α) (x:α):∃d,(pre++x::post).drop (pre.filter f).length=d::(pre++x::post).drop ((pre.filter f).length+1):=by
 have h1:(pre.filter f).length≤pre.length:=List.length_filter_le _ _
 have h2:(pre.filter f).length<(pre++x::post).length:=by simp;omega
 exact ⟨_,List.drop_eq_getElem_cons h2⟩
theorem s_DeleteFunc (l:List Int) (p:Int→Option Bool) (q:Int→Bool) (hl:l.length≤1000000) (hp:∀x∈l,p x=some (q x)):Zyc l p=some (l.filter fun x=>!q x):=by
 simp only [Zyc,Zta l p q (by omega) hp,Option.bind_some]
 cases hf:l.findIdx? q with
 | none=>
   rw [List.findIdx?_eq_none_iff] at hf
   rw [show plc none = -1 from rfl,decide_eq_true rfl,Ze6,List.filter_eq_self.2 (fun x hx=>by rw [hf x hx];rfl)]
 | some i=>
   obtain ⟨hi,hq,hmin⟩:=List.findIdx?_eq_some_iff_getElem.1 hf
   rw [show plc (some i)=(i:Int) from rfl,decide_eq_false (by omega),Zf6,Zl6 (by omega)]
   let F:List Int→List Int:=fun pre=>pre.filter fun x=>!q x
   have hF:∀pre post,l=pre++post→(F pre).length≤pre.length:=fun pre post _=>List.length_filter_le _ _
   have key:=loop_pp l (Zxc p) (fun pre=>(((F pre).length:Int),(pre.length:Int),F pre++l.drop (F pre).length)) (fun _ _=>some (F l)) (fun pre x post h=>?_) ?_ (l.drop (i+1)) (l.take (i+1)) (by simp)
   ·have e1:F (l.take (i+1))=l.take i:=by
     show (l.take (i+1)).filter _=_
     rw [List.take_succ_eq_append_getElem hi,List.filter_append]
     have a1:(l.take i).filter (fun x=>!q x)=l.take i:=by
      rw [List.filter_eq_self]
      intro x hx
      obtain ⟨j,hj,rfl⟩:=List.mem_iff_getElem.1 hx
      rw [List.getElem_take]
      have:=hmin j (by simp at hj;omega)
      simpa using this
     have a2: [l[i]].filter (fun x=>!q x)=[]:=by simp [hq]
     rw [a1,a2,List.append_nil]
    rw [e1] at key
    have e2:(l.take i).length=i:=by simp;omega
    have e3:(l.take (i+1)).length=i+1:=by simp;omega
    rw [e2,e3,List.take_append_drop] at key
    exact key
   ·left
    refine ⟨?_,rfl⟩
    have hx:=Zma h
    have hm:=Zna h
    have hFl:=hF pre (x::post) h
    have hlen:(F pre++l.drop (F pre).length).length=l.length:=by simp;omega
    have hx2:(F pre++l.drop (F pre).length)[pre.length]?=some x:=by
     rw [List.getElem?_append_right hFl,List.getElem?_drop,show (F pre).length+(pre.length-(F pre).length)=pre.length by omega];exact hx
    dsimp only [Zxc]
    rw [Zj6 hx2,Ze6,Zh6 hx2,Option.bind_some,hp x (Zoa h),Option.bind_some]
    have hsn:F (pre++[x])=F pre++(if q x then [] else [x]):=by
     show (pre++[x]).filter _=_
     rw [List.filter_append]
     congr 1
     cases hqq:q x<;>simp [hqq]
    cases hqx:q x with
    | true=>
      rw [Bool.not_true,Zf6]
      dsimp only [Zwc]
      rw [Zl6 (by omega),hsn,hqx,if_pos rfl,List.append_nil,Zpa]
    | false=>
      rw [Bool.not_false,Ze6]
      obtain ⟨d,hd⟩:=filt_drop (fun x=>!q x) pre post x
      rw [←h] at hd
      have hd':l.drop (F pre).length=d::l.drop ((F pre).length+1):=hd
      have hi2:(F pre++l.drop (F pre).length)[(F pre).length]?=some d:=by rw [hd'];simp
      rw [Zh6 hi2,Option.bind_some]
      dsimp only [Zwc]
      rw [Zl6 (by omega),Zl6 (by omega),hsn,hqx,if_neg (by simp),Zpa,hd',Int.toNat_natCast,Zpa]
      simp
   ·dsimp only [Zxc]
    have hFl:=hF l [] (by simp)
    have hlen:(F l++l.drop (F l).length).length=l.length:=by simp;omega
    rw [show ((l.length:Int))=((F l++l.drop (F l).length).length:Int) by rw [hlen],Zk6,Zf6]
    dsimp only [Zvc]
    unfold vw_
    rw [Zd5,hlen,if_pos ⟨by omega,by omega,by omega,by omega⟩,Option.bind_some]
    unfold clr_
    rw [hlen,if_pos ⟨by omega,by simp;omega⟩,Option.bind_some]
    unfold Zi4
    rw [if_pos ⟨by omega,by omega,by simp;omega⟩,Option.bind_some]
    simp [Int.toNat_natCast,List.append_assoc]
theorem setL_len (l:List Int):(Z7b l).length≤l.length:=by
 have:=Lib.compact_length_le (l.mergeSort fun x y=>decide (x≤y))
 rw [List.length_mergeSort] at this
 exact this
theorem setL_pw {l:List Int} (h:l.Pairwise (· < ·)):Z7b l=l:=by
 unfold Z7b
 rw [List.mergeSort_of_pairwise (h.imp fun hxy=>decide_eq_true (by omega)),Z6b h]
theorem s_keep (l:List Int) (p:Int→Option Bool) (q:Int→Bool) (hl:l.length≤1000000) (hp:∀x∈l,p x=some (q x)):Z8d l p=some ((Z7b l).filter q):=by
 have h1:=setL_len l
 simp only [Z8d,s_setL l hl,Option.bind_some]
 rw [s_DeleteFunc (Z7b l) _ (fun x=>!q x) (by omega) (fun x hx=>by simp only [Ztc,hp x (((Z0e l).2 x).1 hx),Option.bind_some]),Option.bind_some]
 simp
theorem s_Minus (a b:List Int) (ha:a.length≤1000000) (hb:b.length≤1000000):Zad a b=some ((Z7b a).filter fun z=>!decide (z∈b)):=by
 simp only [Zad]
 rw [s_keep a _ (fun z=>!decide (z∈b)) ha (fun x _=>by simp only [Zqc,Zyd b x hb,Option.bind_some]),Option.bind_some]
theorem s_Within (a b:List Int) (ha:a.length≤1000000) (hb:b.length≤1000000):Zhd a b=some (a.all fun z=>decide (z∈b)):=by
 simp only [Zhd,s_Minus a b ha hb,Option.bind_some,Zd5]
 congr 1
 rw [Bool.eq_iff_iff,decide_eq_true_eq,List.all_eq_true]
 have:((((Z7b a).filter fun z=>!decide (z∈b)).length:Nat):Int)=0↔((Z7b a).filter fun z=>!decide (z∈b))=[]:=by rw [←List.length_eq_zero_iff];omega
 rw [this,List.filter_eq_nil_iff]
 constructor
 ·intro h x hx
  have:=h x (((Z0e a).2 x).2 hx)
  simpa using this
 ·intro h x hx
  have:=h x (((Z0e a).2 x).1 hx)
  simpa using this
theorem s_Del (l:List Int) (x:Int) (hl:l.length≤1000000):Zed l x=some ((Z7b l).filter fun z=>!decide (z∈ [x])):=by
 simp only [Zed,s_Minus l [x] hl (by simp),Option.bind_some]
theorem s_Add (l:List Int) (x:Int) (hl:l.length≤900000):Z5c l x=some (Z7b (l++[x])):=by
 simp only [Z5c,Z3c,s_Concat l [x] (by omega) (by simp),Option.bind_some,s_setL (l++[x]) (by simp;omega)]
set_option maxRecDepth 100000
set_option maxHeartbeats 4000000
@[go_sem] def e125:EC:=.seq (.reg [(Qa 2 (.mv (.c .ff)))]) (.seq (.reg [(Qm 3 0),(Qa 4 (.bin .lss (.t 3) (.c (.iv 0)))),(Qm 2 4)]) (.ret))
theorem ok125:FnOK Tryz.prog 125 Tryz.f125 e125 [.t 2] 1 4:=⟨by kernel_rfl,⟨_,rfl,by kernel_rfl⟩,by kernel_rfl,by kernel_rfl⟩
noncomputable def Z1e (x1:Int):Option Bool:=
 some (decide (x1<0))
theorem k_sess_odd_1 (x1:Int) (r:Bool) (h:Z1e x1=some r):Zy2 Tryz.prog 125 [.iv x1] (.bv r):=by
 refine Z23 ok125 rfl rfl fun w0 H0=>?_
 rw [Z1e] at h
 refine Zt2 10 ?_;dsimp only [go_sem];refine An ?_;exact Z45 (res:=fun (r:Bool)=>.bv r) ok125 h
def Z2e (_F:Nat) (x1:Int):Option Bool:=
 some (decide (x1<0))
theorem le_sess_odd_1 {F:Nat} {x1:Int}:ole (Z2e F x1) (Z1e x1):=by
 unfold Z2e Z1e
 with_reducible repeat' first | exact Zn4 _ | assumption | intro _ | refine Zo4 ?_ ?_ | refine Zp4 ?_ ?_ | refine Zq4 ?_ | refine Zs4 ?_
set_option maxRecDepth 100000
set_option maxHeartbeats 4000000
@[go_sem] def e91:EC:=.seq (.reg [(Qa 2 (.mv (.c .ff)))]) (.seq (.reg [(Qm 3 0),(Qa 4 (.len (.t 3))),(Qa 5 (.bin .gtr (.t 4) (.c (.iv 64)))),(Qm 6 5),(Qg 7 6 false (.mv (.t 0))),(Qg 8 6 false (.call 57 [(.t 7),(.c (.clo 125 []))])),(Qq 9 6 8),(Qm 2 9)]) (.ret))
theorem ok91:FnOK Tryz.prog 91 Tryz.f91 e91 [.t 2] 1 9:=⟨by kernel_rfl,⟨_,rfl,by kernel_rfl⟩,by kernel_rfl,by kernel_rfl⟩
noncomputable def Z3e:Bool→Option Bool
| x3=>
 some x3
noncomputable def Z4e (x1:(List Int)):Option Bool:=
 ifb (decide (64<(ln Zb5 x1))) (
 Z3e true) (
 (Z58 x1 ((fun z=>Z1e z))).bind fun x2=>
 Z3e x2)
theorem Z5e (x1:(List Int)) (r:Bool) (h:Z4e x1=some r):Zy2 Tryz.prog 91 [.sl 1 (List.map Zb5 x1)] (.bv r):=by
 refine Z23 ok91 rfl rfl fun w0 H0=>?_
 rw [Z4e] at h
 refine Zt2 10 ?_;dsimp only [go_sem];refine An ?_;refine Zu4 (fun (x3:Bool)=>(⟨(.any :: .any :: .bv x3::an 7 []),[],[]⟩:St)) Z3e r ?_ fun J1=>?_
 ·intro x3 h;rw [Z3e] at h;(try dsimp only);exact Z45 (res:=fun (r:Bool)=>.bv r) ok91 h
 ·refine Z35 6 h rfl (fun _ h=>?_) fun _ h=>?_
  ·dsimp only [go_sem];refine Zt2 5 ?_;dsimp only [go_sem];refine An ?_;exact Z65 J1 (s:=true) h
  ·dsimp only [go_sem];refine Zt2 1 ?_;dsimp only [go_sem];refine An ?_;obtain ⟨x2,ex2,h⟩:=Bs h;refine Z73 trivial (Z68 x1 _ _ ((fun z=>Z1e z)) ⟨by kernel_rfl,rfl,fun z r hz=>k_sess_odd_1 z r hz⟩ _ ex2) (h:=?_);refine Zt2 3 ?_;dsimp only [go_sem];refine An ?_;exact Z65 J1 (s:=x2) h
def Z6e (_F:Nat):Bool→Option Bool
| x3=>
 some x3
theorem Z7e {F:Nat}:∀s,ole (Z6e F s) (Z3e s):=by
 intro x3
 unfold Z6e Z3e
 try dsimp only
 with_reducible repeat' first | exact Zn4 _ | assumption | intro _ | refine Zo4 ?_ ?_ | refine Zp4 ?_ ?_ | refine Zq4 ?_ | refine Zs4 ?_
def Z8e (F:Nat) (x1:(List Int)):Option Bool:=
 ifb (decide (64<(ln Zb5 x1))) (
 Z6e F true) (
 (Z78 F x1 ((fun z=>Z2e F z))).bind fun x2=>
 Z6e F x2)
theorem Z9e {F:Nat} {x1:(List Int)}:ole (Z8e F x1) (Z4e x1):=by
 unfold Z8e Z4e
 with_reducible repeat' first | exact Zn4 _ | assumption | intro _ | refine Zo4 ?_ ?_ | refine Zp4 ?_ ?_ | refine Zq4 ?_ | refine Zs4 ?_ | apply Z7e | apply Z88 | apply le_sess_odd_1
set_option maxRecDepth 100000
set_option maxHeartbeats 4000000
@[go_sem] def e55_L0:EC:=.seq (.reg [(Qa 20 (.bin .lss (.t 19) (.t 18)))]) (.seq (.ite (.t 20) (.skip) (.exit 0)) (.seq (.blk 1 (.seq (.reg [(Qm 21 19),(Qk 22 4 17 19),(Qe 23 4 22),(Qa 5 (.alloc 74 [.iv 0,.nl,.iv 0,.iv 0])),(Qm 4 21),(Qs 4 5 23)]) (.seq (.reg [(Qf 24 2 5),(Ql 25 24),(Qa 26 (.bin .eql (.t 25) (.c (.iv 1)))),(Qm 27 26),(Qg 28 27 true (.mv (.t 4))),(Qg 29 27 true (.bin .eql (.t 28) (.c (.iv 0)))),(Qp 30 27 29),(Qm 6 30)]) (.seq (.blk 2 (.seq (.seq (.reg [(Qf 32 0 5),(Ql 33 32),(Qm 34 3),(Qa 35 (.bin .leq (.t 33) (.t 34))),(Qm 31 35)]) (.ite (.t 31) (.skip) (.seq (.reg [(Qf 36 0 5),(Ql 37 36),(Qf 38 0 1),(Ql 39 38),(Qa 40 (.bin .gtr (.t 37) (.t 39))),(Qm 31 40)]) (.ite (.t 31) (.skip) (.seq (.reg [(Qf 41 1 5),(Ql 42 41),(Qa 43 (.call 91 [(.t 42)])),(Qm 31 43)]) (.ite (.t 31) (.skip) (.seq (.reg [(Qf 44 1 5),(Ql 45 44),(Qa 46 (.call 56 [(.t 45)])),(Qa 47 (.not (.t 46))),(Qm 31 47)]) (.ite (.t 31) (.skip) (.reg [(Qf 48 3 5),(Ql 49 48),(Qa 50 (.bin .lss (.t 49) (.c (.iv 0)))),(Qm 31 50)]))))))))) (.ite (.t 31) (.seq (.reg [(Qi 2 170)]) (.ret)) (.seq (.reg [(Qm 52 6),(Qa 53 (.not (.t 52))),(Qm 54 53),(Qh 55 54 true 2 5),(Qn 56 54 true 55),(Qg 57 54 true (.bin .neq (.t 56) (.c (.iv 0)))),(Qg 58 54 true (.mv (.t 57))),(Qh 59 58 false 3 5),(Qn 60 58 false 59),(Qg 61 58 false (.bin .neq (.t 60) (.c (.iv 0)))),(Qg 62 54 true (.pick (.t 58) (.c .tt) (.t 61))),(Qp 63 54 62),(Qm 51 63)]) (.ite (.t 51) (.seq (.reg [(Qi 2 170)]) (.ret)) (.skip)))))) (.reg [(Qf 64 0 5),(Ql 65 64),(Qm 3 65)]))))) (.reg [(Qv 66 19 1),(Qm 19 66)])))
@[go_sem] def e55:EC:=.seq (.reg [(Qx 1 64 2 0),(Qi 2 0)]) (.seq (.seq (.reg [(Qf 7 0 1),(Ql 8 7),(Qa 9 (.bin .lss (.t 8) (.c (.iv 0)))),(Qm 10 9),(Qh 11 10 false 1 1),(Qn 12 10 false 11),(Qg 13 10 false (.len (.t 12))),(Qg 14 10 false (.bin .gtr (.t 13) (.c (.iv 8)))),(Qq 15 10 14)]) (.ite (.t 15) (.seq (.reg [(Qi 2 170)]) (.ret)) (.skip))) (.seq (.reg [(Qi 3 0)]) (.seq (.seq (.reg [(Qf 16 1 1),(Ql 17 16),(Qa 18 (.len (.t 17))),(Qi 19 0)]) (.blk 0 (.loop e55_L0))) (.seq (.reg [(Qi 2 0)]) (.ret)))))
theorem ok55:FnOK Tryz.prog 55 Tryz.f55 e55 [.t 2] 1 66:=⟨by kernel_rfl,⟨_,rfl,by kernel_rfl⟩,by kernel_rfl,by kernel_rfl⟩
noncomputable def Zae:Unit→Option Int
| ()=>
 some 0
noncomputable def Zbe (x12:Int) (x13:Sess):Bool→Option ((Int×Int) ⊕ Int)
| x18=>
 ifb x18 (
 Option.map Sum.inr (some 170)) (
 some (.inl (x13.ID,wr (x12+1))))
noncomputable def Zce (x12:Int) (x13:Sess) (x14:Bool):Bool→Option ((Int×Int) ⊕ Int)
| x17=>
 ifb x17 (
 Option.map Sum.inr (some 170)) (
 ifb (!x14) (
 ifb (!decide (x13.State=0)) (
 (Zbe x12 x13) true) (
 (Zbe x12 x13) (!decide (x13.Age=0)))) (
 (Zbe x12 x13) false))
noncomputable def Zde (x1:Book) (x11:Int) (x12:Int) (x13:Sess):Bool→Option ((Int×Int) ⊕ Int)
| x14=>
 ifb (decide (x13.ID≤x11)) (
 (Zce x12 x13 x14) (decide (x13.ID≤x11))) (
 ifb (decide (x1.Last<x13.ID)) (
 (Zce x12 x13 x14) (decide (x1.Last<x13.ID))) (
 (Z4e x13.Need).bind fun x15=>
 ifb x15 (
 (Zce x12 x13 x14) x15) (
 (Zod x13.Need).bind fun x16=>
 ifb (!x16) (
 (Zce x12 x13 x14) (!x16)) (
 (Zce x12 x13 x14) (decide (x13.Age<0))))))
noncomputable def Zee (x1:Book):(Int×Int)→Option ((Int×Int) ⊕ Int)
| (x11,x12)=>
 ifb (decide (x12<(ln Sess.row x1.Sess))) (
 (at_ x1.Sess x12).bind fun x13=>
 ifb (decide (x13.State=1)) (
 (Zde x1 x11 x12 x13) (decide (x12=0))) (
 (Zde x1 x11 x12 x13) false)) (
 Option.map Sum.inr (Zae ()))
noncomputable def Zfe (x1:Book):Bool→Option Int
| x2=>
 ifb x2 (
 some 170) (
 loop (Zee x1) (0,0))
noncomputable def Zge (x1:Book):Option Int:=
 ifb (decide (x1.Last<0)) (
 (Zfe x1) true) (
 (Zfe x1) (decide (8<(ln Sess.row x1.Sess))))
theorem Zhe (x1:Book) (r:Int) (h:Zge x1=some r):Zy2 Tryz.prog 55 [.agg (Book.row x1)] (.iv r):=by
 refine Z23 ok55 rfl rfl fun w0 H0=>?_
 rw [Zge] at h
 refine Zt2 12 ?_;dsimp only [go_sem];refine An ?_;refine Zu4 (fun (x2:Bool)=>(⟨(.any :: .ptr 0 0::an 13 (.bv x2::an 51 [])),[some ⟨64,[.iv x1.Last,.sl 4 (List.map Sess.row x1.Sess)]⟩],[]⟩:St)) (Zfe x1) r ?_ fun J1=>?_
 ·intro x2 h;rw [Zfe] at h;(try dsimp only);refine Zw4 h rfl (fun _ h=>?_) fun _ h=>?_
  ·refine Zt2 4 ?_;dsimp only [go_sem];refine An ?_;exact Z45 (res:=fun (r:Int)=>.iv r) ok55 h
  ·refine Zt2 13 ?_;dsimp only [go_sem];refine An ?_;refine Zu4 (fun (_:Unit)=>(⟨(an 67 []),[],[]⟩:St)) Zae r ?_ fun J2=>?_
   ·rintro ⟨⟩ h;rw [Zae] at h;(try dsimp only);refine Zt2 4 ?_;dsimp only [go_sem];refine An ?_;exact Z45 (res:=fun (r:Int)=>.iv r) ok55 h
   ·refine Zt2 1 ?_;dsimp only [go_sem];refine An ?_;refine Zv4 h (fun ((x11,x12):(Int×Int))=>(⟨(.any :: .ptr 0 0 :: .any :: .iv x11::an 13 (.sl 4 (List.map Sess.row x1.Sess) :: .iv (ln Sess.row x1.Sess) :: .iv x12::an 47 [])),[some ⟨64,[.iv x1.Last,.sl 4 (List.map Sess.row x1.Sess)]⟩],[]⟩:St)) (by simp [go_sem]) (by rintro ⟨x11,x12⟩;first | rfl | simp [go_sem]) ?_;rintro n1 ⟨x11,x12⟩ y1 h hin1 hout1;rw [Zee] at h;(try dsimp only);refine Zt2 5 ?_;dsimp only [go_sem];refine An ?_;refine Zw4 h rfl (fun _ h=>?_) fun _ h=>?_
    ·refine Zt2 6 ?_;dsimp only [go_sem];refine An ?_;obtain ⟨x13,ex13,h⟩:=Bs h;refine Zz4 Sess.row ex13 trivial rfl rfl rfl ?_;refine Zt2 11 ?_;dsimp only [go_sem];refine An ?_
     refine Zu4 (fun (x14:Bool)=>(⟨(.any :: .ptr 0 0 :: .any :: .iv x11 :: .any :: .ptr 1 0 :: .bv x14::an 10 (.sl 4 (List.map Sess.row x1.Sess) :: .iv (ln Sess.row x1.Sess) :: .iv x12::an 47 [])),[some ⟨64,[.iv x1.Last,.sl 4 (List.map Sess.row x1.Sess)]⟩,some ⟨74,[.iv x13.ID,.sl 1 (List.map Zb5 x13.Need),.iv x13.State,.iv x13.Age]⟩],[]⟩:St)) (Zde x1 x11 x12 x13) y1 ?_ fun J3=>?_
     ·intro x14 h;rw [Zde] at h;(try dsimp only);refine Zt2 11 ?_;dsimp only [go_sem];refine An ?_;refine Zu4 (fun (x17:Bool)=>(⟨(.any :: .ptr 0 0::an 3 (.ptr 1 0 :: .bv x14::an 10 (.sl 4 (List.map Sess.row x1.Sess) :: .iv (ln Sess.row x1.Sess) :: .iv x12::an 11 (.bv x17::an 35 [])))),[some ⟨64,[.iv x1.Last,.sl 4 (List.map Sess.row x1.Sess)]⟩,some ⟨74,[.iv x13.ID,.sl 1 (List.map Zb5 x13.Need),.iv x13.State,.iv x13.Age]⟩],[]⟩:St)) (Zce x12 x13 x14) y1 ?_ fun J4=>?_
      ·intro x17 h;rw [Zce] at h;(try dsimp only);refine Zw4 h rfl (fun _ h=>?_) fun _ h=>?_
       ·refine Zt2 4 ?_;dsimp only [go_sem];refine An ?_;exact Z45 (res:=fun (r:Int)=>.iv r) ok55 (Zt4 h hout1)
       ·refine Zt2 5 ?_;dsimp only [go_sem];refine An ?_;refine Zu4 (fun (x18:Bool)=>(⟨(.any :: .ptr 0 0::an 3 (.ptr 1 0::an 11 (.sl 4 (List.map Sess.row x1.Sess) :: .iv (ln Sess.row x1.Sess) :: .iv x12::an 31 (.bv x18::an 15 [])))),[some ⟨64,[.iv x1.Last,.sl 4 (List.map Sess.row x1.Sess)]⟩,some ⟨74,[.iv x13.ID,.sl 1 (List.map Zb5 x13.Need),.iv x13.State,.iv x13.Age]⟩],[]⟩:St)) (Zbe x12 x13) y1 ?_ fun J5=>?_
        ·intro x18 h;rw [Zbe] at h;(try dsimp only);refine Zw4 h rfl (fun _ h=>?_) fun _ h=>?_
         ·refine Zt2 4 ?_;dsimp only [go_sem];refine An ?_;exact Z45 (res:=fun (r:Int)=>.iv r) ok55 (Zt4 h hout1)
         ·refine Zt2 12 ?_;dsimp only [go_sem];refine An ?_;exact Z55 h hin1
        ·refine Z35 54 h rfl (fun _ h=>?_) fun _ h=>?_
         ·dsimp only [go_sem];refine Zt2 4 ?_;dsimp only [go_sem];refine An ?_;refine Z35 58 h rfl (fun _ h=>?_) fun _ h=>?_
          ·dsimp only [go_sem];refine Zt2 7 ?_;dsimp only [go_sem];refine An ?_;exact Z65 J5 (s:=true) h
          ·dsimp only [go_sem];refine Zt2 7 ?_;dsimp only [go_sem];refine An ?_;exact Z65 J5 (s:=!decide (x13.Age=0)) h
         ·dsimp only [go_sem];refine Zt2 11 ?_;dsimp only [go_sem];refine An ?_;exact Z65 J5 (s:=false) h
      ·refine Zw4 h rfl (fun _ h=>?_) fun _ h=>?_
       ·refine Zt2 1 ?_;dsimp only [go_sem];refine An ?_;exact Z65 J4 (s:=decide (x13.ID≤x11)) h
       ·refine Zt2 9 ?_;dsimp only [go_sem];refine An ?_;refine Zw4 h rfl (fun _ h=>?_) fun _ h=>?_
        ·refine Zt2 1 ?_;dsimp only [go_sem];refine An ?_;exact Z65 J4 (s:=decide (x1.Last<x13.ID)) h
        ·refine Zt2 4 ?_;dsimp only [go_sem];refine An ?_;obtain ⟨x15,ex15,h⟩:=Bs h;refine Z73 trivial (Z5e x13.Need _ ex15) (h:=?_);refine Zt2 2 ?_;dsimp only [go_sem];refine An ?_;refine Zw4 h rfl (fun _ h=>?_) fun _ h=>?_
         ·refine Zt2 1 ?_;dsimp only [go_sem];refine An ?_;exact Z65 J4 (s:=x15) h
         ·refine Zt2 4 ?_;dsimp only [go_sem];refine An ?_;obtain ⟨x16,ex16,h⟩:=Bs h;refine Z73 trivial (Zpd x13.Need _ ex16) (h:=?_);refine Zt2 3 ?_;dsimp only [go_sem];refine An ?_;refine Zw4 h rfl (fun _ h=>?_) fun _ h=>?_
          ·refine Zt2 1 ?_;dsimp only [go_sem];refine An ?_;exact Z65 J4 (s:=!x16) h
          ·refine Zt2 6 ?_;dsimp only [go_sem];refine An ?_;exact Z65 J4 (s:=decide (x13.Age<0)) h
     ·refine Z35 27 h rfl (fun _ h=>?_) fun _ h=>?_
      ·dsimp only [go_sem];refine Zt2 5 ?_;dsimp only [go_sem];refine An ?_;exact Z65 J3 (s:=decide (x12=0)) h
      ·dsimp only [go_sem];refine Zt2 5 ?_;dsimp only [go_sem];refine An ?_;exact Z65 J3 (s:=false) h
    ·refine Zt2 1 ?_;dsimp only [go_sem];refine An ?_;exact Z65 J2 (s:=()) (Zt4 h hout1)
 ·refine Z35 10 h rfl (fun _ h=>?_) fun _ h=>?_
  ·dsimp only [go_sem];refine Zt2 6 ?_;dsimp only [go_sem];refine An ?_;exact Z65 J1 (s:=true) h
  ·dsimp only [go_sem];refine Zt2 6 ?_;dsimp only [go_sem];refine An ?_;exact Z65 J1 (s:=decide (8<(ln Sess.row x1.Sess))) h
def Zie (_F:Nat):Unit→Option Int
| ()=>
 some 0
theorem Zje {F:Nat}:∀s,ole (Zie F s) (Zae s):=by
 rintro ⟨⟩
 unfold Zie Zae
 try dsimp only
 with_reducible repeat' first | exact Zn4 _ | assumption | intro _ | refine Zo4 ?_ ?_ | refine Zp4 ?_ ?_ | refine Zq4 ?_ | refine Zs4 ?_
def Zke (_F:Nat) (x12:Int) (x13:Sess):Bool→Option ((Int×Int) ⊕ Int)
| x18=>
 ifb x18 (
 Option.map Sum.inr (some 170)) (
 some (.inl (x13.ID,wr (x12+1))))
theorem Zle {F:Nat} {x12:Int} {x13:Sess}:∀s,ole (Zke F x12 x13 s) (Zbe x12 x13 s):=by
 intro x18
 unfold Zke Zbe
 try dsimp only
 with_reducible repeat' first | exact Zn4 _ | assumption | intro _ | refine Zo4 ?_ ?_ | refine Zp4 ?_ ?_ | refine Zq4 ?_ | refine Zs4 ?_ | apply Zje
def Zme (F:Nat) (x12:Int) (x13:Sess) (x14:Bool):Bool→Option ((Int×Int) ⊕ Int)
| x17=>
 ifb x17 (
 Option.map Sum.inr (some 170)) (
 ifb (!x14) (
 ifb (!decide (x13.State=0)) (
 (Zke F x12 x13) true) (
 (Zke F x12 x13) (!decide (x13.Age=0)))) (
 (Zke F x12 x13) false))
theorem Zne {F:Nat} {x12:Int} {x13:Sess} {x14:Bool}:∀s,ole (Zme F x12 x13 x14 s) (Zce x12 x13 x14 s):=by
 intro x17
 unfold Zme Zce
 try dsimp only
 with_reducible repeat' first | exact Zn4 _ | assumption | intro _ | refine Zo4 ?_ ?_ | refine Zp4 ?_ ?_ | refine Zq4 ?_ | refine Zs4 ?_ | apply Zje | apply Zle
def Zoe (F:Nat) (x1:Book) (x11:Int) (x12:Int) (x13:Sess):Bool→Option ((Int×Int) ⊕ Int)
| x14=>
 ifb (decide (x13.ID≤x11)) (
 (Zme F x12 x13 x14) (decide (x13.ID≤x11))) (
 ifb (decide (x1.Last<x13.ID)) (
 (Zme F x12 x13 x14) (decide (x1.Last<x13.ID))) (
 (Z8e F x13.Need).bind fun x15=>
 ifb x15 (
 (Zme F x12 x13 x14) x15) (
 (Zwd F x13.Need).bind fun x16=>
 ifb (!x16) (
 (Zme F x12 x13 x14) (!x16)) (
 (Zme F x12 x13 x14) (decide (x13.Age<0))))))
theorem Zpe {F:Nat} {x1:Book} {x11:Int} {x12:Int} {x13:Sess}:∀s,ole (Zoe F x1 x11 x12 x13 s) (Zde x1 x11 x12 x13 s):=by
 intro x14
 unfold Zoe Zde
 try dsimp only
 with_reducible repeat' first | exact Zn4 _ | assumption | intro _ | refine Zo4 ?_ ?_ | refine Zp4 ?_ ?_ | refine Zq4 ?_ | refine Zs4 ?_ | apply Zje | apply Zle | apply Zne | apply Z9e | apply Zxd
def Zqe (F:Nat) (x1:Book):(Int×Int)→Option ((Int×Int) ⊕ Int)
| (x11,x12)=>
 ifb (decide (x12<(ln Sess.row x1.Sess))) (
 (at_ x1.Sess x12).bind fun x13=>
 ifb (decide (x13.State=1)) (
 (Zoe F x1 x11 x12 x13) (decide (x12=0))) (
 (Zoe F x1 x11 x12 x13) false)) (
 Option.map Sum.inr (Zie F ()))
theorem Zre {F:Nat} {x1:Book}:∀s,ole (Zqe F x1 s) (Zee x1 s):=by
 rintro ⟨x11,x12⟩
 unfold Zqe Zee
 try dsimp only
 with_reducible repeat' first | exact Zn4 _ | assumption | intro _ | refine Zo4 ?_ ?_ | refine Zp4 ?_ ?_ | refine Zq4 ?_ | refine Zs4 ?_ | apply Zje | apply Zle | apply Zne | apply Z9e | apply Zxd | apply Zpe
def Zse (F:Nat) (x1:Book):Bool→Option Int
| x2=>
 ifb x2 (
 some 170) (
 Zr4 F (Zqe F x1) (0,0))
theorem Zte {F:Nat} {x1:Book}:∀s,ole (Zse F x1 s) (Zfe x1 s):=by
 intro x2
 unfold Zse Zfe
 try dsimp only
 with_reducible repeat' first | exact Zn4 _ | assumption | intro _ | refine Zo4 ?_ ?_ | refine Zp4 ?_ ?_ | refine Zq4 ?_ | refine Zs4 ?_ | apply Zje | apply Zle | apply Zne | apply Z9e | apply Zxd | apply Zpe | apply Zre
def Zue (F:Nat) (x1:Book):Option Int:=
 ifb (decide (x1.Last<0)) (
 (Zse F x1) true) (
 (Zse F x1) (decide (8<(ln Sess.row x1.Sess))))
theorem Zve {F:Nat} {x1:Book}:ole (Zue F x1) (Zge x1):=by
 unfold Zue Zge
 with_reducible repeat' first | exact Zn4 _ | assumption | intro _ | refine Zo4 ?_ ?_ | refine Zp4 ?_ ?_ | refine Zq4 ?_ | refine Zs4 ?_ | apply Zje | apply Zle | apply Zne | apply Z9e | apply Zxd | apply Zpe | apply Zre | apply Zte
set_option maxRecDepth 100000
set_option maxHeartbeats 4000000
@[go_sem] def e79:EC:=.seq (.reg [(Qa 2 (.mv (.c .nl)))]) (.seq (.seq (.reg [(Qm 3 0),(Qa 4 (.isnil false (.t 3)))]) (.ite (.t 4) (.seq (.reg [(Qa 2 (.mv (.c .nl)))]) (.ret)) (.skip))) (.seq (.reg [(Qa 5 (.bsl 74 4 0 [.iv 0,.nl,.iv 0,.iv 0] [])),(Qm 6 0),(Qa 7 (.app 74 4 48 (.t 5) (.t 6))),(Qm 2 7)]) (.ret)))
theorem ok79:FnOK Tryz.prog 79 Tryz.f79 e79 [.t 2] 1 7:=⟨by kernel_rfl,⟨_,rfl,by kernel_rfl⟩,by kernel_rfl,by kernel_rfl⟩
noncomputable def Zwe (x1:(List Sess)):Option (List Sess):=Zh4 48 [] x1
theorem Zxe (x1:(List Sess)) (r:(List Sess)) (h:Zwe x1=some r):FunO Tryz.prog 79 [.sl 4 (List.map Sess.row x1)] 74 4 (List.map Sess.row r):=by
 refine Zj5 ok79 rfl fun w0 H0=>?_
 rw [Zwe] at h
 refine Zt2 100 ?_
 dsimp only [e79,go_sem]
 refine ⟨by simp,?_⟩
 refine V_isnil trivial rfl (fun hn=>?_) ?_
 ·refine Zt2 100 ?_
  dsimp only [go_sem]
  refine ⟨by simp,?_⟩
  refine Ze4 2 74 4 rfl rfl ?_
  dsimp only [go_sem]
  have hn:x1=[]:=by simpa using hn
  subst hn
  exact Zr5 Sess.row (e:=[]) ok79 (by simpa [Zh4] using h) rfl rfl
 ·refine Zt2 100 ?_
  dsimp only [go_sem]
  refine ⟨by simp,?_⟩
  refine Z15 Sess.row h trivial rfl rfl rfl ?_
  refine Zt2 100 ?_
  dsimp only [go_sem]
  refine ⟨by simp,?_⟩
  exact Zr5 Sess.row ok79 (rfl:some r=some r) rfl rfl
def Zye (_F:Nat) (x1:(List Sess)):Option (List Sess):=Zh4 48 [] x1
theorem Zze {F:Nat} {x1:(List Sess)}:ole (Zye F x1) (Zwe x1):=Zn4 _
set_option maxRecDepth 100000
set_option maxHeartbeats 4000000
@[go_sem] def e117_L0:EC:=.seq (.reg [(Qa 12 (.bin .lss (.t 11) (.t 10)))]) (.seq (.ite (.t 12) (.skip) (.exit 0)) (.seq (.blk 1 (.seq (.reg [(Qm 13 11),(Qm 3 13)]) (.drw [(Qf 14 1 1),(Ql 15 14),(Qm 16 3),(Qf 17 1 1),(Ql 18 17),(Qm 19 3),(Qk 20 4 18 19),(Qf 21 1 20),(Ql 22 21),(Qa 23 (.call 78 [(.t 22)])),(Qk 24 4 15 16),(Qf 25 1 24),(Qs 1 25 23)] [[],[0],[],[],[3],[],[4,5],[6],[7],[8],[1,2,0,1,2,3,4,5,6,7,8,9],[10,0,1,2,3,4,5,6,7,8,9],[11,9,9,0,1,2,3,4,5,6,7,8,9]] [[1],[0,10],[10],[4],[3,6],[6],[4,5,7],[6,8],[7,9],[8,12],[1,2,11],[10,12],[9,11]]))) (.reg [(Qv 26 11 1),(Qm 11 26)])))
@[go_sem] def e117:EC:=.seq (.reg [(Qx 1 64 2 0),(Qa 2 (.alloc 64 [.iv 0,.nl]))]) (.seq (.reg [(Qf 4 1 1),(Ql 5 4),(Qa 6 (.call 79 [(.t 5)])),(Qf 7 1 1),(Qs 1 7 6)]) (.seq (.seq (.reg [(Qf 8 1 1),(Ql 9 8),(Qa 10 (.len (.t 9))),(Qi 11 0)]) (.blk 0 (.loop e117_L0))) (.seq (.reg [(Qe 27 2 1),(Qs 2 2 27)]) (.ret))))
theorem ok117:FnOK Tryz.prog 117 Tryz.f117 e117 [.c 2 (some 2)] 1 27:=⟨by kernel_rfl,⟨_,rfl,by kernel_rfl⟩,by kernel_rfl,by kernel_rfl⟩
set_option maxRecDepth 100000
set_option maxHeartbeats 4000000
@[go_sem] def e83:EC:=.seq (.reg [(Qx 3 64 2 0),(Qa 6 (.alloc 64 [.iv 0,.nl])),(Qi 7 0)]) (.seq (.reg [(Qm 10 2),(Qa 11 (.call 71 [(.t 10)])),(Qm 8 11)]) (.seq (.reg [(Qe 12 2 3),(Qa 13 (.call 55 [(.t 12)])),(Qm 9 13)]) (.seq (.blk 0 (.seq (.reg [(Qm 15 9),(Qa 16 (.bin .neq (.t 15) (.c (.iv 0)))),(Qm 14 16)]) (.ite (.t 14) (.skip) (.seq (.reg [(Qm 18 1),(Qf 19 0 3),(Ql 20 19),(Qa 21 (.bin .leq (.t 18) (.t 20))),(Qm 17 21)]) (.ite (.t 17) (.reg [(Qi 9 171)]) (.seq (.reg [(Qm 23 8),(Qa 24 (.call 91 [(.t 23)])),(Qm 22 24)]) (.ite (.t 22) (.reg [(Qi 9 172)]) (.seq (.reg [(Qf 26 1 3),(Ql 27 26),(Qa 28 (.len (.t 27))),(Qa 29 (.bin .eql (.t 28) (.c (.iv 8)))),(Qm 25 29)]) (.ite (.t 25) (.reg [(Qi 9 173)]) (.skip)))))))))) (.seq (.seq (.reg [(Qm 30 9),(Qa 31 (.bin .neq (.t 30) (.c (.iv 0))))]) (.ite (.t 31) (.seq (.reg [(Qa 32 (.build [.iv 0,.nl] [])),(Qm 33 9),(Qs 2 6 32),(Qm 7 33)]) (.ret)) (.skip))) (.seq (.reg [(Qe 34 2 3),(Qa 35 (.call 117 [(.t 34)])),(Qs 2 3 35)]) (.seq (.reg [(Qm 36 1),(Qf 37 0 3),(Qs 1 37 36)]) (.seq (.reg [(Qf 38 1 3),(Ql 39 38),(Qm 40 1),(Qm 41 8),(Qa 42 (.build [.iv 0,.nl,.iv 0,.iv 0] [(0,1,(.t 40)),(1,1,(.t 41))])),(Qa 43 (.bsl 74 4 1 [.iv 0,.nl,.iv 0,.iv 0] [(0,(.t 42))])),(Qa 44 (.app 74 4 48 (.t 39) (.t 43))),(Qf 45 1 3),(Qs 1 45 44)]) (.seq (.reg [(Qe 46 2 3),(Qs 2 6 46),(Qi 7 0)]) (.ret)))))))))
theorem ok83:FnOK Tryz.prog 83 Tryz.f83 e83 [.c 6 (some 2),.t 7] 3 44:=⟨by kernel_rfl,⟨_,rfl,by kernel_rfl⟩,by kernel_rfl,by kernel_rfl⟩
noncomputable def Z0f:(List Sess)→Option (List Sess)
| x35=>
 some x35
noncomputable def Z1f (x2:(List Sess)):(Int×(List Sess))→Option ((Int×(List Sess)) ⊕ (List Sess))
| (x8,x9)=>
 ifb (decide (x8<(ln Sess.row x2))) (
 (at_ x9 x8).bind fun x10=>
 (Zg9 x10.Need).bind fun x11=>
 some (.inl (wr (x8+1),x9.set (Int.toNat (x8)) ((Sess.mk x10.ID x11 x10.State x10.Age))))) (
 Option.map Sum.inr (Z0f x9))
noncomputable def Z2f (x1:Book):Option (List Sess):=
 (Zwe x1.Sess).bind fun x2=>
 loop (Z1f x2) (0,x2)
theorem Z3f (x1:Book) (r:(List Sess)) (h:Z2f x1=some r):FunT Tryz.prog 117 [.agg [.iv x1.Last,.sl 4 (List.map Sess.row x1.Sess)]] [none,none] [none] (.agg [.iv x1.Last,.osl 1]) [none,none] [none,some ⟨74,4,List.map Sess.row r⟩]:=by
 refine Z46 ok117 rfl rfl rfl (by first | rfl | simp [go_sem]) fun w0 M0=>?_
 rw [Z2f] at h
 dsimp only [lun,List.cons_append,List.nil_append]
 refine Zt2 9 ?_;dsimp only [go_sem];refine An ?_;obtain ⟨x2,ex2,h⟩:=Bs h;refine Zk5 trivial (Zxe x1.Sess _ ex2) (h:=?_);refine Zt2 11 ?_;dsimp only [go_sem];refine An ?_;refine Zu4 (fun (x35:(List Sess))=>(⟨(.any :: .ptr 2 0 :: .ptr 3 0::an 25 []),[none,none,some ⟨64,[.iv x1.Last,.osl 1]⟩,some ⟨64,[.iv 0,.nl]⟩],[none,some ⟨74,4,List.map Sess.row x35⟩]⟩:St)) Z0f r ?_ fun J1=>?_
 ·intro x35 h;rw [Z0f] at h;(try dsimp only);refine Zt2 5 ?_;dsimp only [go_sem];refine An ?_;obtain rfl:=Option.some.inj h;exact Z56 ok117 rfl (by simp [go_sem])
 ·refine Zt2 1 ?_;dsimp only [go_sem];refine An ?_;refine Zv4 h (fun ((x8,x9):(Int×(List Sess)))=>(⟨(.any :: .ptr 2 0 :: .ptr 3 0::an 7 (.iv (ln Sess.row x2) :: .iv x8::an 16 [])),[none,none,some ⟨64,[.iv x1.Last,.osl 1]⟩,some ⟨64,[.iv 0,.nl]⟩],[none,some ⟨74,4,List.map Sess.row x9⟩]⟩:St)) (by simp [go_sem]) (by rintro ⟨x8,x9⟩;first | rfl | simp [go_sem]) ?_;rintro n1 ⟨x8,x9⟩ y1 h hin1 hout1;rw [Z1f] at h;(try dsimp only);refine Zt2 5 ?_;dsimp only [go_sem];refine An ?_;refine Zw4 h rfl (fun _ h=>?_) fun _ h=>?_
  ·refine Zt2 8 ?_;dsimp only [go_sem];refine An ?_;refine Zs3 (by kernel_rfl) fun all hall hs hnap haf=>?_;dsimp only [go_sem];refine Zp5 hall hs haf hnap 4 9 ?_;dsimp only [go_sem];refine An ?_;refine Z44 1 4 rfl ?_ ?_
   ·refine Z74 hall rfl trivial ?_;dsimp only [go_sem];refine Z34 4 rfl ?_;refine Z74 hall rfl trivial ?_;dsimp only [go_sem];obtain ⟨x10,ex10,h⟩:=Bs h;refine Z34 6 rfl ?_;refine Z76 hall Sess.row ex10 rfl trivial rfl rfl rfl ?_;dsimp only [go_sem];refine Zp5 hall hs haf hnap 1 5 ?_;dsimp only [go_sem];refine An ?_;refine Z34 8 rfl ?_;refine Z86 hall Sess.row ex10 rfl trivial rfl rfl rfl ?_;dsimp only [go_sem];refine Z34 9 rfl ?_;obtain ⟨x11,ex11,h⟩:=Bs h;refine Z84 hall rfl trivial (Zi9 x10.Need _ ex11) (h:=?_)
    dsimp only [go_sem];refine Z34 10 rfl ?_;refine Z76 hall Sess.row ex10 rfl trivial rfl rfl rfl ?_;dsimp only [go_sem];refine Zp5 hall hs haf hnap 1 1 ?_;dsimp only [go_sem];refine An ?_;refine Z34 12 rfl ?_;refine Za6 hall [.sl 1 (List.map Zb5 x11)] Sess.row (y':=(Sess.mk x10.ID x11 x10.State x10.Age)) ex10 rfl trivial rfl rfl rfl (by first | exact Zg4 _ | simp [go_sem]) rfl rfl rfl rfl ?_;dsimp only [go_sem];refine Z24 rfl ?_ _;refine Zt2 5 ?_;dsimp only [go_sem];refine An ?_;exact Z55 h hin1
   ·refine Z74 hall rfl trivial ?_;dsimp only [go_sem];obtain ⟨x10,ex10,h⟩:=Bs h;refine Z44 1 6 rfl ?_ ?_
    ·refine Z74 hall rfl trivial ?_;dsimp only [go_sem];refine Z34 6 rfl ?_;refine Z76 hall Sess.row ex10 rfl trivial rfl rfl rfl ?_;dsimp only [go_sem];refine Zp5 hall hs haf hnap 1 5 ?_;dsimp only [go_sem];refine An ?_;refine Z34 8 rfl ?_;refine Z86 hall Sess.row ex10 rfl trivial rfl rfl rfl ?_;dsimp only [go_sem];refine Z34 9 rfl ?_;obtain ⟨x11,ex11,h⟩:=Bs h;refine Z84 hall rfl trivial (Zi9 x10.Need _ ex11) (h:=?_);dsimp only [go_sem];refine Z34 10 rfl ?_;refine Z76 hall Sess.row ex10 rfl trivial rfl rfl rfl ?_
     dsimp only [go_sem];refine Zp5 hall hs haf hnap 1 1 ?_;dsimp only [go_sem];refine An ?_;refine Z34 12 rfl ?_;refine Za6 hall [.sl 1 (List.map Zb5 x11)] Sess.row (y':=(Sess.mk x10.ID x11 x10.State x10.Age)) ex10 rfl trivial rfl rfl rfl (by first | exact Zg4 _ | simp [go_sem]) rfl rfl rfl rfl ?_;dsimp only [go_sem];refine Z24 rfl ?_ _;refine Zt2 5 ?_;dsimp only [go_sem];refine An ?_;exact Z55 h hin1
    ·refine Z76 hall Sess.row ex10 rfl trivial rfl rfl rfl ?_;dsimp only [go_sem];refine Zp5 hall hs haf hnap 1 6 ?_;dsimp only [go_sem];refine An ?_;refine Z44 1 8 rfl ?_ ?_
     ·refine Z74 hall rfl trivial ?_;dsimp only [go_sem];refine Z34 8 rfl ?_;refine Z86 hall Sess.row ex10 rfl trivial rfl rfl rfl ?_;dsimp only [go_sem];refine Z34 9 rfl ?_;obtain ⟨x11,ex11,h⟩:=Bs h;refine Z84 hall rfl trivial (Zi9 x10.Need _ ex11) (h:=?_);dsimp only [go_sem];refine Z34 10 rfl ?_;refine Z76 hall Sess.row ex10 rfl trivial rfl rfl rfl ?_;dsimp only [go_sem];refine Zp5 hall hs haf hnap 1 1 ?_;dsimp only [go_sem];refine An ?_;refine Z34 12 rfl ?_
      refine Za6 hall [.sl 1 (List.map Zb5 x11)] Sess.row (y':=(Sess.mk x10.ID x11 x10.State x10.Age)) ex10 rfl trivial rfl rfl rfl (by first | exact Zg4 _ | simp [go_sem]) rfl rfl rfl rfl ?_;dsimp only [go_sem];refine Z24 rfl ?_ _;refine Zt2 5 ?_;dsimp only [go_sem];refine An ?_;exact Z55 h hin1
     ·refine Z86 hall Sess.row ex10 rfl trivial rfl rfl rfl ?_;dsimp only [go_sem];obtain ⟨x11,ex11,h⟩:=Bs h;refine Z44 1 9 rfl ?_ ?_
      ·refine Z74 hall rfl trivial ?_;dsimp only [go_sem];refine Z34 9 rfl ?_;refine Z84 hall rfl trivial (Zi9 x10.Need _ ex11) (h:=?_);dsimp only [go_sem];refine Z34 10 rfl ?_;refine Z76 hall Sess.row ex10 rfl trivial rfl rfl rfl ?_;dsimp only [go_sem];refine Zp5 hall hs haf hnap 1 1 ?_;dsimp only [go_sem];refine An ?_;refine Z34 12 rfl ?_;refine Za6 hall [.sl 1 (List.map Zb5 x11)] Sess.row (y':=(Sess.mk x10.ID x11 x10.State x10.Age)) ex10 rfl trivial rfl rfl rfl (by first | exact Zg4 _ | simp [go_sem]) rfl rfl rfl rfl ?_
       dsimp only [go_sem];refine Z24 rfl ?_ _;refine Zt2 5 ?_;dsimp only [go_sem];refine An ?_;exact Z55 h hin1
      ·refine Z84 hall rfl trivial (Zi9 x10.Need _ ex11) (h:=?_);dsimp only [go_sem];refine Z34 1 rfl ?_;refine Z74 hall rfl trivial ?_;dsimp only [go_sem];refine Z34 10 rfl ?_;refine Z76 hall Sess.row ex10 rfl trivial rfl rfl rfl ?_;dsimp only [go_sem];refine Zp5 hall hs haf hnap 1 1 ?_;dsimp only [go_sem];refine An ?_;refine Z34 12 rfl ?_;refine Za6 hall [.sl 1 (List.map Zb5 x11)] Sess.row (y':=(Sess.mk x10.ID x11 x10.State x10.Age)) ex10 rfl trivial rfl rfl rfl (by first | exact Zg4 _ | simp [go_sem]) rfl rfl rfl rfl ?_
       dsimp only [go_sem];refine Z24 rfl ?_ _;refine Zt2 5 ?_;dsimp only [go_sem];refine An ?_;exact Z55 h hin1
  ·refine Zt2 1 ?_;dsimp only [go_sem];refine An ?_;exact Z65 J1 (s:=x9) (Zt4 h hout1)
def Z4f (_F:Nat):(List Sess)→Option (List Sess)
| x35=>
 some x35
theorem Z5f {F:Nat}:∀s,ole (Z4f F s) (Z0f s):=by
 intro x35
 unfold Z4f Z0f
 try dsimp only
 with_reducible repeat' first | exact Zn4 _ | assumption | intro _ | refine Zo4 ?_ ?_ | refine Zp4 ?_ ?_ | refine Zq4 ?_ | refine Zs4 ?_
def Z6f (F:Nat) (x2:(List Sess)):(Int×(List Sess))→Option ((Int×(List Sess)) ⊕ (List Sess))
| (x8,x9)=>
 ifb (decide (x8<(ln Sess.row x2))) (
 (at_ x9 x8).bind fun x10=>
 (Zj9 F x10.Need).bind fun x11=>
 some (.inl (wr (x8+1),x9.set (Int.toNat (x8)) ((Sess.mk x10.ID x11 x10.State x10.Age))))) (
 Option.map Sum.inr (Z4f F x9))
theorem Z7f {F:Nat} {x2:(List Sess)}:∀s,ole (Z6f F x2 s) (Z1f x2 s):=by
 rintro ⟨x8,x9⟩
 unfold Z6f Z1f
 try dsimp only
 with_reducible repeat' first | exact Zn4 _ | assumption | intro _ | refine Zo4 ?_ ?_ | refine Zp4 ?_ ?_ | refine Zq4 ?_ | refine Zs4 ?_ | apply Z5f | apply Zk9
def Z8f (F:Nat) (x1:Book):Option (List Sess):=
 (Zye F x1.Sess).bind fun x2=>
 Zr4 F (Z6f F x2) (0,x2)
theorem Z9f {F:Nat} {x1:Book}:ole (Z8f F x1) (Z2f x1):=by
 unfold Z8f Z2f
 with_reducible repeat' first | exact Zn4 _ | assumption | intro _ | refine Zo4 ?_ ?_ | refine Zp4 ?_ ?_ | refine Zq4 ?_ | refine Zs4 ?_ | apply Z5f | apply Zk9 | apply Z7f | apply Zze
noncomputable def Zaf (x1:Book) (x2:Int) (x4:(List Int)):Int→Option (Book×Int)
| x7=>
 ifb (!decide (x7=0)) (
 some ((Book.mk 0 (([]:(List Sess)))),x7)) (
 (Z2f x1).bind fun x8=>
 (Zh4 48 x8 ([(Sess.mk x2 x4 0 0)])).bind fun x9=>
 some ((Book.mk x2 x9),0))
noncomputable def Zbf (x1:Book) (x2:Int) (x3:(List Int)):Option (Book×Int):=
 (Zm9 x3).bind fun x4=>
 (Zge x1).bind fun x5=>
 ifb (!decide (x5=0)) (
 (Zaf x1 x2 x4) x5) (
 ifb (decide (x2≤x1.Last)) (
 (Zaf x1 x2 x4) 171) (
 (Z4e x4).bind fun x6=>
 ifb x6 (
 (Zaf x1 x2 x4) 172) (
 ifb (decide ((ln Sess.row x1.Sess)=8)) (
 (Zaf x1 x2 x4) 173) (
 (Zaf x1 x2 x4) x5))))
theorem k_sess_Open (x1:Book) (x2:Int) (x3:(List Int)) (r:(Book×Int)) (h:Zbf x1 x2 x3=some r):Zy2 Tryz.prog 83 [.agg (Book.row x1),.iv x2,.sl 1 (List.map Zb5 x3)] (.tup [.agg (Book.row r.1),.iv r.2]):=by
 refine Z23 ok83 rfl rfl fun w0 H0=>?_
 rw [Zbf] at h
 refine Zt2 9 ?_;dsimp only [go_sem];refine An ?_;obtain ⟨x4,ex4,h⟩:=Bs h;refine Zk5 trivial (Zn9 x3 _ ex4) (h:=?_);refine Zt2 5 ?_;dsimp only [go_sem];refine An ?_;obtain ⟨x5,ex5,h⟩:=Bs h;refine Z73 trivial (Zhe x1 _ ex5) (h:=?_);refine Zt2 10 ?_;dsimp only [go_sem];refine An ?_
 refine Zu4 (fun (x7:Int)=>(⟨(.any :: .iv x2 :: .any :: .ptr 0 0 :: .any :: .any :: .ptr 1 0 :: .any :: .osl 0 :: .iv x7::an 37 []),[some ⟨64,[.iv x1.Last,.sl 4 (List.map Sess.row x1.Sess)]⟩,some ⟨64,[.iv 0,.nl]⟩],[some ⟨3,1,List.map Zb5 x4⟩]⟩:St)) (Zaf x1 x2 x4) r ?_ fun J1=>?_
 ·intro x7 h;rw [Zaf] at h;(try dsimp only);refine Zt2 7 ?_;dsimp only [go_sem];refine An ?_;refine Zw4 h rfl (fun _ h=>?_) fun _ h=>?_
  ·refine Zt2 7 ?_;dsimp only [go_sem];refine An ?_;exact Z45 (res:=fun (r:(Book×Int))=>.tup [.agg (Book.row r.1),.iv r.2]) ok83 h
  ·refine Zt2 4 ?_;dsimp only [go_sem];refine An ?_;obtain ⟨x8,ex8,h⟩:=Bs h;refine Z66 [false,false] [false] trivial (Z3f x1 _ ex8) (h:=?_);dsimp only [go_sem];refine Zt2 15 ?_;dsimp only [go_sem];refine An ?_;refine Zk3 0 rfl ?_;dsimp only [go_sem];refine Zt2 1 ?_;dsimp only [go_sem];refine An ?_;obtain ⟨x9,ex9,h⟩:=Bs h;refine Z15 Sess.row ex9 trivial rfl rfl rfl ?_;refine Zt2 9 ?_;dsimp only [go_sem];refine An ?_;refine Zk3 3 rfl ?_;dsimp only [go_sem]
   exact Z45 (res:=fun (r:(Book×Int))=>.tup [.agg (Book.row r.1),.iv r.2]) ok83 h
 ·refine Zw4 h rfl (fun _ h=>?_) fun _ h=>?_
  ·refine Zt2 1 ?_;dsimp only [go_sem];refine An ?_;exact Z65 J1 (s:=x5) h
  ·refine Zt2 8 ?_;dsimp only [go_sem];refine An ?_;refine Zw4 h rfl (fun _ h=>?_) fun _ h=>?_
   ·refine Zt2 3 ?_;dsimp only [go_sem];refine An ?_;exact Z65 J1 (s:=171) h
   ·refine Zt2 3 ?_;dsimp only [go_sem];refine An ?_;obtain ⟨x6,ex6,h⟩:=Bs h;refine Z85 trivial ((Z75.refl _).slice 0 rfl) (Z5e x4 _ ex6) (h:=?_);refine Zt2 2 ?_;dsimp only [go_sem];refine An ?_;refine Zw4 h rfl (fun _ h=>?_) fun _ h=>?_
    ·refine Zt2 3 ?_;dsimp only [go_sem];refine An ?_;exact Z65 J1 (s:=172) h
    ·refine Zt2 8 ?_;dsimp only [go_sem];refine An ?_;refine Zw4 h rfl (fun _ h=>?_) fun _ h=>?_
     ·refine Zt2 3 ?_;dsimp only [go_sem];refine An ?_;exact Z65 J1 (s:=173) h
     ·refine Zt2 1 ?_;dsimp only [go_sem];refine An ?_;exact Z65 J1 (s:=x5) h
def Zcf (F:Nat) (x1:Book) (x2:Int) (x4:(List Int)):Int→Option (Book×Int)
| x7=>
 ifb (!decide (x7=0)) (
 some ((Book.mk 0 (([]:(List Sess)))),x7)) (
 (Z8f F x1).bind fun x8=>
 (Zh4 48 x8 ([(Sess.mk x2 x4 0 0)])).bind fun x9=>
 some ((Book.mk x2 x9),0))
theorem Zdf {F:Nat} {x1:Book} {x2:Int} {x4:(List Int)}:∀s,ole (Zcf F x1 x2 x4 s) (Zaf x1 x2 x4 s):=by
 intro x7
 unfold Zcf Zaf
 try dsimp only
 with_reducible repeat' first | exact Zn4 _ | assumption | intro _ | refine Zo4 ?_ ?_ | refine Zp4 ?_ ?_ | refine Zq4 ?_ | refine Zs4 ?_ | apply Z9f
def Zef (F:Nat) (x1:Book) (x2:Int) (x3:(List Int)):Option (Book×Int):=
 (Zo9 F x3).bind fun x4=>
 (Zue F x1).bind fun x5=>
 ifb (!decide (x5=0)) (
 (Zcf F x1 x2 x4) x5) (
 ifb (decide (x2≤x1.Last)) (
 (Zcf F x1 x2 x4) 171) (
 (Z8e F x4).bind fun x6=>
 ifb x6 (
 (Zcf F x1 x2 x4) 172) (
 ifb (decide ((ln Sess.row x1.Sess)=8)) (
 (Zcf F x1 x2 x4) 173) (
 (Zcf F x1 x2 x4) x5))))
theorem Zff {F:Nat} {x1:Book} {x2:Int} {x3:(List Int)}:ole (Zef F x1 x2 x3) (Zbf x1 x2 x3):=by
 unfold Zef Zbf
 with_reducible repeat' first | exact Zn4 _ | assumption | intro _ | refine Zo4 ?_ ?_ | refine Zp4 ?_ ?_ | refine Zq4 ?_ | refine Zs4 ?_ | apply Z9f | apply Zdf | apply Zp9 | apply Zve | apply Z9e
end NX
end Go.Proofs.YthlodgjekbidcaaGreat
