/-
  The symbolic machine: an own slice of which one row has the name of another own slice. No statement of the seat is proved here.
-/
import Derived.Test.YtgamgemlekpepaaGreatK15
namespace Go.Proofs.YtgamgemlekpepaaGreat
namespace NX
open Go Go.RowKit
def Z4h (rows:List (List AV)) (z off k:Nat):List (List AV):=
 match rows[z]? with
 | none=>rows
 | some r=>match Zv r off [.osl k] with
   | none=>rows
   | some r'=>rows.set z r'
theorem Z5h {nb ns:Nat} {a:AV}:∀ {l r:List AV},Zu l [a]=some r→okL nb ns l=true→a.ok nb ns=true→okL nb ns r=true
 | [],_,h,_,_=>by simp [Zu] at h
 | x::l,r,h,hl,ha=>by simp only [Zu,Option.map_some,Option.some.injEq] at h;subst h;simp only [okL,Zz1] at hl ⊢;exact ⟨ha,hl.2⟩
theorem Z6h {nb ns:Nat} {a:AV}:∀ {o:Nat} {l r:List AV},Zv l o [a]=some r→okL nb ns l=true→a.ok nb ns=true→okL nb ns r=true
 | 0,l,r,h,hl,ha=>Z5h (l:=l) (by simpa [Zv] using h) hl ha
 | o+1,[],_,h,_,_=>by simp [Zv] at h
 | o+1,x::l,r,h,hl,ha=>by simp only [Zv,Option.map_eq_some_iff] at h;obtain ⟨q,hq,rfl⟩:=h;simp only [okL,Zz1] at hl ⊢;exact ⟨hl.1,Z6h hq hl.2 ha⟩
theorem Z7h {ns:Nat}:∀ {l:List (List AV)} {i:Nat} {r:List AV},Zh1 ns l=true→l[i]?=some r→okL 0 ns r=true
 | [],_,_,_,h=>by simp at h
 | x::l,0,_,h,hi=>by simp only [Zh1,Zz1] at h;simp at hi;subst hi;exact h.1
 | x::l,i+1,_,h,hi=>by simp only [Zh1,Zz1] at h;exact Z7h h.2 (by simpa using hi)
theorem Z8h {ns:Nat} {rows:List (List AV)} {z off k:Nat} (h:Zh1 ns rows=true) (hk:Z5 (k+1) ns=true):Zh1 ns (Z4h rows z off k)=true:=by
 unfold Z4h;split
 ·exact h
 ·rename_i r hr;split
  ·exact h
  ·rename_i r' hr';exact Z48 (Z6h hr' (Z7h h hr) hk) h
@[go_sem] theorem Z9h {ns:Nat} {rows:List (List AV)} {z off k:Nat} (h:Z4 (Zh1 ns rows) (Z5 (k+1) ns)=true):Zh1 ns (Z4h rows z off k)=true:=by rw [Zz1] at h;exact Z8h h.1 h.2
@[go_sem] theorem Zah {ns:Nat} {l:List (List AV)} {r:List AV} {i z off k:Nat} (h:Z4 (Zh1 ns l) (Z4 (okL 0 ns r) (Z5 (k+1) ns))=true):Zh1 ns (Z4h (l.set i r) z off k)=true:=by rw [Zz1,Zz1] at h;exact Z8h (Z48 h.2.1 h.1) h.2.2
theorem Zbh {α:Type} {l:List α} {f:α→List AV} {z:Int} {y:α} {off k:Nat} {r:List AV} (hv:at_ l z=some y) (hl:Zv (f y) off [.osl k]=some r):Z4h (l.map f) z.toNat off k=(l.map f).set z.toNat r:=by unfold Z4h;rw [Zic (Zhc hv).2];simp only [hl]
theorem Zch {a:AV}:∀ {o:Nat} {l r:List AV},Zv l o [a]=some r→Zt r o 1=some [a]
 | 0,[],r,h=>by simp [Zv,Zu] at h
 | 0,x::l,r,h=>by simp only [Zv,Zu,Option.map_some,Option.some.injEq] at h;subst h;rfl
 | o+1,[],_,h=>by simp [Zv] at h
 | o+1,x::l,r,h=>by simp only [Zv,Option.map_eq_some_iff] at h;obtain ⟨q,hq,rfl⟩:=h;have:=Zch hq;exact this
theorem Zdh {M:Mem} {a b:AV} (h6:∀v,a.is M v→b.is M v):∀ {o:Nat} {l r r':List AV},Zv l o [a]=some r→Zv l o [b]=some r'→∀vs,AV.isL M r vs→AV.isL M r' vs
 | 0,[],r,_,h,_=>by simp [Zv,Zu] at h
 | 0,x::l,r,r',h,h'=>by simp only [Zv,Zu,Option.map_some,Option.some.injEq] at h h';subst h;subst h';rintro vs ⟨v,q,rfl,h1,h2⟩;exact ⟨v,q,rfl,h6 v h1,h2⟩
 | o+1,[],_,_,h,_=>by simp [Zv] at h
 | o+1,x::l,r,r',h,h'=>by simp only [Zv,Option.map_eq_some_iff] at h h';obtain ⟨q,hq,rfl⟩:=h;obtain ⟨q',hq',rfl⟩:=h';rintro vs ⟨v,u,rfl,h1,h2⟩;exact ⟨v,u,rfl,h1,Zdh h6 hq hq' u h2⟩
theorem Zeh {M:Mem} {n:Nat} {r':List AV}:∀ {rows:List (List AV)} {i:Nat} {r:List AV} {vss:List (List Value)},rows[i]?=some r→(∀vs,AV.isL M r vs→AV.isL M r' vs)→AV.isLL M n rows vss→AV.isLL M n (rows.set i r') vss
 | [],_,_,_,h,_,_=>by simp at h
 | x::l,0,r,vss,h,k,⟨v,q,h0,h1,h2,h3⟩=>by simp at h;subst h;exact ⟨v,q,h0,h1,k v h2,h3⟩
 | x::l,i+1,r,vss,h,k,⟨v,q,h0,h1,h2,h3⟩=>⟨v,q,h0,h1,h2,Zeh (by simpa using h) k h3⟩
section
variable {c:Ctx} {M:Mem} {S S':St} {a:Act} {w:World} {fn:Func} {K:AV→List (Option Blk)→List (Option Sl)→Prop} {k:List It}
theorem Zfh {bs:List (Option Blk)} {ss:List (Option Sl)} (U:RelS c M bs ss w) {j T n:Nat} {rows J:List (List AV)} (hj:Zp ss j=some ⟨T,n,rows⟩) (hl:J.length=rows.length) (h:∀vss,AV.isLL M.sl n rows vss→AV.isLL M.sl n J vss):
  RelS c M bs (Zq ss j (some ⟨T,n,J⟩)) w:=by
 have live:∀i N,Zp (Zq ss j (some ⟨T,n,J⟩)) i=some N→(i=j∧N=⟨T,n,J⟩)∨Zp ss i=some N:=by
  intro i N hi;rw [Z62] at hi;split at hi
  ·rename_i e;simp only [Option.some.injEq] at hi;exact .inl ⟨e.1,hi.symm⟩
  ·exact .inr hi
 have old:∀i N,Zp (Zq ss j (some ⟨T,n,J⟩)) i=some N→∃N',Zp ss i=some N':=by
  intro i N hi;rcases live i N hi with ⟨rfl,_⟩ | h
  ·exact ⟨_,hj⟩
  ·exact ⟨_,h⟩
 refine ⟨U.nb,by rw [Z72];exact U.ns,U.so,U.os,U.tape,U.output,U.size,U.block,U.hle,U.hold,U.blk,?_,U.d1,?_,?_,U.pin⟩
 ·intro i N hi;rcases live i N hi with ⟨rfl,rfl⟩ | h'
  ·obtain ⟨q0,us,q1,q2,q3,q4⟩:=U.slc i _ hj;exact ⟨q0,us,h _ q1,q2,by dsimp only at q3 ⊢;rw [hl];exact q3,q4⟩
  ·exact U.slc i N h'
 ·intro i t B N hi ht;obtain ⟨N',h'⟩:=old t N ht;exact U.d2 i t B N' hi h'
 ·intro i t N O g hi ht e1 e2;obtain ⟨N',h1⟩:=old i N hi;obtain ⟨O',h2⟩:=old t O ht;exact U.d3 i t N' O' g h1 h2 e1 e2
theorem Zgh (j k':Nat) {α:Type} {l:List α} {f:α→List AV} {z:Int} {y:α} (y':α) {T n off U J:Nat} {rows:List (List AV)} {q:List AV} (hv:at_ l z=some y) (hj:Zp S.ss j=some ⟨T,n,Z4h (l.map f) z.toNat off k'⟩) (hk:Zp S.ss k'=some ⟨U,J,rows⟩) (hne:(k'==j)=false)
  (hq:Zv (f y) off [.osl k']=some q) (hl:Zv (f y) off [.sl J rows]=some (f y'))
  (h:V c fn K k ⟨(S.sealS k' ⟨U,J,rows⟩).tm,(S.sealS k' ⟨U,J,rows⟩).bs,Zq (Zq S.ss k' none) j (some ⟨T,n,(l.set z.toNat y').map f⟩)⟩) (h8:Zj1 rows=true:=by first | rfl | simp [go_sem]):V c fn K k S:=by
 intro rk M a w hc hT;obtain ⟨M',hle,h1,h2⟩:=Zc8 k' hk h8 hT;refine h rk M' a w hc ⟨h1.len,h1.tm,h1.df,?_⟩;have hne':k'≠j:=by simpa using hne
 have h9:Zp (Zq S.ss k' none) j=some ⟨T,n,Z4h (l.map f) z.toNat off k'⟩:=by rw [Z62,if_neg (fun e=>hne' e.1.symm)];exact hj
 refine Zfh h1.st h9 (by rw [Zbh hv hq];simp) fun vss h6=>?_;rw [Zbh hv hq] at h6;have hd:z.toNat<(l.map f).length:=by have:=(List.getElem?_eq_some_iff.1 (Zhc hv).2).1;simpa using this
 have:=Zeh (i:=z.toNat) (r:=q) (r':=f y') (by rw [List.getElem?_set_self hd]) (Zdh (a:=.osl k') (b:=.sl J rows) (fun v hv=>?_) hq hl) h6
 ·rw [List.set_set,←List.map_set] at this;exact this
 ·simp only [AV.is] at hv;obtain ⟨_,rfl⟩:=hv;have e:M'.sl.σ k'=M.σ k':=by show M'.σ k'=M.σ k';exact hle.σ k' (by rw [hT.st.ns];exact Z82 hk)
  rw [e];exact h2
theorem Zhh {α:Type} {l':List α} {z:Int} {y:α} {j k' T n off:Nat} {x v:X} {q:List AV} (f:α→List AV) (hv:at_ l' z=some y) (hx:S.x x = .oel j (z.toNat*n) off) (hj:Zp S.ss j=some ⟨T,n,l'.map f⟩) (h6:S.x v = .osl k') (hq:Zv (f y) off [.osl k']=some q):
  Z77 c S (.store 1 x v) .un ⟨S.tm,S.bs,Zq S.ss j (some ⟨T,n,Z4h (l'.map f) z.toNat off k'⟩)⟩:=by
 rw [Zbh hv hq];exact Zue hx hj rfl (Zic (Zhc hv).2) (cs0:=[.osl k']) (by rw [h6];rfl) (Zrb _) rfl rfl rfl hq
theorem Zih {α:Type} {l':List α} {z:Int} {y:α} {j k' T n off:Nat} {x:X} {q:List AV} (f:α→List AV) (hv:at_ l' z=some y) (hx:S.x x = .oel j (z.toNat*n) off) (hj:Zp S.ss j=some ⟨T,n,Z4h (l'.map f) z.toNat off k'⟩) (hq:Zv (f y) off [.osl k']=some q):
  Z77 c S (.load x) (.osl k') S:=by
 rw [Zbh hv hq] at hj;have h6:z.toNat<(l'.map f).length:=by have:=(List.getElem?_eq_some_iff.1 (Zhc hv).2).1;simpa using this
 exact Zke hx hj rfl (by rw [List.getElem?_set_self h6]) (Zch hq)
theorem Zjh {α:Type} {l':List α} {z:Int} {y:α} {d:Option Nat} {g:Option (Nat×Bool)} {l:List EOp} {j k' T n off:Nat} {x v:X} {q:List AV} (f:α→List AV) (hv:at_ l' z=some y) (hg:gm S g) (hx:S.x x = .oel j (z.toNat*n) off) (hj:Zp S.ss j=some ⟨T,n,l'.map f⟩) (h6:S.x v = .osl k') (hq:Zv (f y) off [.osl k']=some q)
  (h:V c fn K (.ops l::k) ((⟨S.tm,S.bs,Zq S.ss j (some ⟨T,n,Z4h (l'.map f) z.toNat off k'⟩)⟩:St).put d .un)):V c fn K (.ops (⟨d,g,.store 1 x v⟩::l)::k) S:=
 Z87 hg (Zhh f hv hx hj h6 hq) rfl h
theorem Zkh {α:Type} {l':List α} {z:Int} {y:α} {d:Option Nat} {g:Option (Nat×Bool)} {l:List EOp} {j k' T n off:Nat} {x:X} {q:List AV} (f:α→List AV) (hv:at_ l' z=some y) (hg:gm S g) (hx:S.x x = .oel j (z.toNat*n) off) (hj:Zp S.ss j=some ⟨T,n,Z4h (l'.map f) z.toNat off k'⟩) (hq:Zv (f y) off [.osl k']=some q)
  (h:V c fn K (.ops l::k) (S.put d (.osl k'))):V c fn K (.ops (⟨d,g,.load x⟩::l)::k) S:=
 Z87 hg (Zih f hv hx hj hq) rfl h
section
variable {all:Array Oper} {ops:List EOp} {af:List (List Nat)} {Φ:St→Prop} {m:Nat} {ld:List Bool}
theorem Zlh (h6:all.toList.mapM (Ze c.P all)=some ops) {i:Nat} {α:Type} {l':List α} {z:Int} {y:α} {j k' T n off:Nat} {x:X} {q:List AV} (f:α→List AV) (hv:at_ l' z=some y) (J:(Zy1 ops i).o = .load x) (hg:gm S (Zy1 ops i).g) (hx:S.x x = .oel j (z.toNat*n) off) (hj:Zp S.ss j=some ⟨T,n,Z4h (l'.map f) z.toNat off k'⟩) (hq:Zv (f y) off [.osl k']=some q)
  (h:G c all ops af Φ m (Zu1 ld i) (S.put (Zy1 ops i).d (.osl k'))):GO c all ops af Φ m ld S i:=
 Zqa h6 hg (by rw [J];exact Zih f hv hx hj hq) rfl (Z8a _ _) h
end
end
end NX
end Go.Proofs.YtgamgemlekpepaaGreat
/-
  The symbolic machine: calls in drawn regions that are lent own blocks. No statement of the seat is proved here.
-/
namespace Go.Proofs.YtgamgemlekpepaaGreat
namespace NX
open Go Go.RowKit
mutual
theorem Zmh (p q:Nat):∀(x:AV),x.pu=true→AV.ren p q x=x:=by
 intro x h;cases x<;>simp_all [AV.pu,AV.ren]
 all_goals exact Znh p q _ h
theorem Znh (p q:Nat):∀(l:List AV),puL l=true→Zn1 p q l=l
 | [],_=>rfl
 | x::l,h=>by simp only [puL] at h;cases hx:x.pu<;>simp [hx,Z4] at h;simp [Zn1,Zmh p q x hx,Znh p q l h]
end
def Zoh (af:List (List Nat)) (i:Nat):List EOp→Nat→Bool
 | [],_=>true
 | o::l,k=>Z4 (match Zq8 o.o with | true=>orb (Zw1 k (Zx1 af i)) (Zw1 i (Zx1 af k)) | false=>true) (Zoh af i l (k+1))
theorem Zph {af:List (List Nat)} {i:Nat}:∀ {l:List EOp} {k:Nat},Zoh af i l k=true→∀j,Zq8 (Zy1 l j).o=true→k+j∈Zx1 af i∨i∈Zx1 af (k+j)
 | [],_,_,j,h=>by simp [Zy1,Zq8] at h
 | o::l,k,h,0,hl=>by simp only [Zoh,Zz1] at h;simp only [Zy1] at hl;rw [hl] at h;have:=h.1;simp only [Zj9,Zl8] at this;simpa using this
 | o::l,k,h,j+1,hl=>by simp only [Zoh,Zz1] at h;have:=Zph h.2 j (by simpa [Zy1] using hl);rw [show k+(j+1)=k+1+j by omega];exact this
theorem Zqh {ops:List EOp} {af:List (List Nat)} {i:Nat} (h:Zoh af i ops 0=true):Zr8 ops af i:=fun k hk=>by have:=Zph h k hk;rwa [Nat.zero_add] at this
section
variable {c:Ctx} {S:St} {all:Array Oper} {ops:List EOp} {af:List (List Nat)} {Φ:St→Prop} {m':Nat} {ld:List Bool}
theorem Zrh (h6:all.toList.mapM (Ze c.P all)=some ops) {i f:Nat} {xs:List X} {args:List AV} {v:AV} {bs bs':List (Option Blk)} {ss ss':List (Option Sl)} (h8:Zoh af i ops 0=true) (J U:List Bool) (Z:(Zy1 ops i).o = .call f xs) (hg:gm S (Zy1 ops i).g) (Y:Z1f c.P f args bs ss v bs' ss')
  (h9:msk J S.bs=bs:=by rfl) (hc:msk U S.ss=ss:=by rfl) (ha:AV.le.leL (Z71 S xs) args:=by first | exact Zrb _ | simp [go_sem])
  (h:G c all ops af Φ m' (Zu1 ld i) ((⟨S.tm,mrg J S.bs bs',mrg U S.ss ss'⟩:St).put (Zy1 ops i).d v)):GO c all ops af Φ m' ld S i:=
 Zra (S1:=⟨S.tm,mrg J S.bs bs',mrg U S.ss ss'⟩) h6 hg (by rw [Z];exact Z8f (c:=c) J U Y h9 hc ha) rfl (Zqh h8) h
end
end NX
end Go.Proofs.YtgamgemlekpepaaGreat
