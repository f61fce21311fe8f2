/-
  The symbolic machine: rules that walk the code and a model of it at once. No statement of the seat is proved here.
-/
import Derived.Test.YtgamgemlekpepaaGreatK8
namespace Go.Proofs.YtgamgemlekpepaaGreat
namespace NX
open Go Go.RowKit
def ifb {α:Type} (e:Bool) (a b:Option α):Option α:=match e with | true=>a | false=>b
def at_ {α:Type} (l:List α) (i:Int):Option α:=if 0≤i then l[i.toNat]? else none
def Z8c {α:Type} (bytes:Nat) (l m:List α):Option (List α):=if (l.length+m.length)*bytes≤140737488355328∧l.length+m.length≤9223372036854775807 then some (l++m) else none
def Z9c {α:Type} (l:List α) (lo hi:Int):Option (List α):=if 0≤lo∧lo≤hi∧hi≤l.length then some ((l.take hi.toNat).drop lo.toNat) else none
def Zac {σ β:Type} (body:σ→Option (σ ⊕ β)):Nat→σ→Option β
 | 0,_=>none
 | n+1,s=>match body s with
   | none=>none
   | some (.inl s')=>Zac body n s'
   | some (.inr r)=>some r
theorem Zbc {σ β:Type} {body:σ→Option (σ ⊕ β)}:∀ {n:Nat} {s:σ} {r:β},Zac body n s=some r→∀m,n≤m→Zac body m s=some r
 | 0,_,_,h,_,_=>by simp [Zac] at h
 | n+1,s,r,h,m,hm=>by
   obtain ⟨m,rfl⟩:∃k,m=k+1:=⟨m-1,by omega⟩
   simp only [Zac] at h ⊢;split at h<;>simp_all;exact Zbc h m (by omega)
open Classical in
noncomputable def loop {σ β:Type} (body:σ→Option (σ ⊕ β)) (s:σ):Option β:=if h:∃r n,Zac body n s=some r then some h.choose else none
theorem Zcc {σ β:Type} {body:σ→Option (σ ⊕ β)} {s:σ} {r:β}:loop body s=some r↔∃n,Zac body n s=some r:=by
 unfold loop;constructor
 ·intro h;split at h
  ·rename_i hx;simp at h;subst h;exact hx.choose_spec
  ·simp at h
 ·rintro ⟨n,h⟩;have hx:∃r n,Zac body n s=some r:=⟨r,n,h⟩
  rw [dif_pos hx];obtain ⟨m,hm⟩:=hx.choose_spec;have h1:=Zbc h (max n m) (Nat.le_max_left _ _);have h2:=Zbc hm (max n m) (Nat.le_max_right _ _);rw [h1] at h2;exact h2.symm
theorem Zdc {σ β:Type} (body:σ→Option (σ ⊕ β)) (s:σ):loop body s=match body s with | none=>none | some (.inl s')=>loop body s' | some (.inr r)=>some r:=by
 apply Option.ext;intro r;rw [Zcc];cases hb:body s with
 | none=>
   constructor
   ·rintro ⟨n,h⟩;cases n<;>simp [Zac,hb] at h
   ·intro h;simp at h
 | some y=>
   cases y with
   | inl s'=>
     dsimp only;rw [Zcc];constructor
     ·rintro ⟨n,h⟩;cases n with
      | zero=>simp [Zac] at h
      | succ n=>exact ⟨n,by simpa [Zac,hb] using h⟩
     ·rintro ⟨n,h⟩;exact ⟨n+1,by simpa [Zac,hb] using h⟩
   | inr r'=>
     constructor
     ·rintro ⟨n,h⟩;cases n with
      | zero=>simp [Zac] at h
      | succ n=>simpa [Zac,hb] using h
     ·intro h;exact ⟨1,by simpa [Zac,hb] using h⟩
structure ole {α:Type} (a b:Option α):Prop where
 h:∀r,a=some r→b=some r
theorem Zec {α β:Type} {m:Option β} {y:α ⊕ β} {r:β} (h:m.map Sum.inr=some y) (J:∀r',y = .inr r'→r'=r):m=some r:=by
 cases m with
 | none=>simp at h
 | some v=>simp at h;rw [J v h.symm]
section
variable {c:Ctx} {fn:Func} {K:AV→List (Option Blk)→List (Option Sl)→Prop} {k:List It} {S:St} {α β σ:Type} {b:Nat}
theorem Zfc {b:EC} {body:σ→Option (σ ⊕ β)} {s0:σ} {r:β} (h:loop body s0=some r) (Sx:σ→St) (h0:S.le (Sx s0)) (hok:∀s,(Sx s).ok=true)
  (hb:∀n s y,body s=some y→(∀s',y = .inl s'→V c fn K (.lp b n::k) (Sx s'))→(∀r',y = .inr r'→r'=r)→V c fn K (.code b :: .lp b n::k) (Sx s)) (h6:Z5 c.np (Zw (Sx s0).bs)=true:=by rfl) (hqn:Z5 c.nq (Zw (Sx s0).ss)=true:=by rfl):V c fn K (.code (.loop b)::k) S:=by
 obtain ⟨n,hn⟩:=Zcc.1 h;refine Zt6 (X:=Nat×σ) (fun x=>Zac body x.1 x.2=some r) (fun x=>Sx x.2) (fun x=>x.1) (n,s0) h0 (hok _) h6 hqn hn ?_;rintro m ⟨n,s⟩ hx ih;cases n with
 | zero=>simp [Zac] at hx
 | succ n=>
   simp only [Zac] at hx;cases hy:body s with
   | none=>simp [hy] at hx
   | some y=>
     refine hb m s y hy ?_ ?_
     ·rintro s' rfl;rw [hy] at hx;exact ih (n,s') hx (Nat.lt_succ_self _)
     ·rintro r' rfl;rw [hy] at hx;simpa using hx
theorem Zgc {o:X} {a b:EC} {e:Bool} {A B:Option β} {r:β} (h:ifb e A B=some r) (hx:S.x o = .bv e) (h1:e=true→A=some r→V c fn K (.code a::k) S) (h2:e=false→B=some r→V c fn K (.code b::k) S):V c fn K (.code (.ite o a b)::k) S:=Z44 hx (fun e1=>h1 e1 (by subst e1;exact h)) (fun e1=>h2 e1 (by subst e1;exact h))
theorem Zhc {l:List α} {i:Int} {v:α} (h:at_ l i=some v):0≤i∧l[i.toNat]?=some v:=by
 unfold at_ at h;split at h
 ·exact ⟨by assumption,h⟩
 ·simp at h
theorem Zic {f:α→List AV} {l:List α} {n:Nat} {v:α} (h:l[n]?=some v):(l.map f)[n]?=some (f v):=by rw [List.getElem?_map,h];rfl
theorem Zjc {l':List α} {i:Int} {v:α} {d:Option Nat} {g:Option (Nat×Bool)} {n m:Nat} {x y:X} {l:List EOp} (f:α→List AV) (hv:at_ l' i=some v) (hg:gm S g) (hx:S.x x = .sl m (l'.map f)) (hi:S.x y = .iv i) (h6:m=n)
  (h':V c fn K (.ops l::k) (S.put d (.elt (f v) 0))):V c fn K (.ops (⟨d,g,.idx n x y⟩::l)::k) S:=by
 obtain ⟨h0,hr⟩:=Zhc hv;exact Zm7 (f v) hg hx hi h6 h0 (Zic hr) h'
theorem Zkc {all:Array Oper} {ops:List EOp} {af:List (List Nat)} {Φ:St→Prop} {m:Nat} {ld:List Bool} {nap:List (List Nat)} (h6:all.toList.mapM (Ze c.P all)=some ops) (h8:Region.noSelect all=true) (hc:af=Zl all) (h9:nap=Zm all) (i:Nat) {l':List α} {j:Int} {v:α} {n k:Nat} {x y:X} (f:α→List AV) (hv:at_ l' j=some v)
  (hi:Zw1 i (rdy ld af 0)=true) (U:(Zy1 ops i).o = .idx n x y) (hg:gm S (Zy1 ops i).g) (hx:S.x x = .sl k (l'.map f)) (hy:S.x y = .iv j) (hd:k=n)
  (J:frB ld af i (Zx1 nap i)=true) (h:G c all ops af Φ m (Zu1 ld i) (S.put (Zy1 ops i).d (.elt (f v) 0))):G c all ops af Φ (m+1) ld S:=by
 obtain ⟨h0,hr⟩:=Zhc hv;exact Zxa h6 h8 hc h9 i (f v) hi U hg hx hy hd h0 (Zic hr) J h
theorem Zlc {b:Nat} {l m v:List α} (h:Z8c b l m=some v):v=l++m∧(l.length+m.length)*b≤140737488355328∧l.length+m.length≤9223372036854775807:=by
 unfold Z8c at h;split at h
 ·rename_i h1;simp at h;exact ⟨h.symm,h1⟩
 ·simp at h
theorem Zmc {l' m' v:List α} {d:Option Nat} {g:Option (Nat×Bool)} {l:List EOp} {e n b j:Nat} {x y:X} (f:α→List AV) (hv:Z8c b l' m'=some v) (hg:gm S g) (hx:S.x x = .osl j) (hj:Zp S.ss j=some ⟨e,n,l'.map f⟩) (hy:Zp1 S n (S.x y)=some (m'.map f))
  (h':V c fn K (.ops l::k) ((S.app j ⟨e,n,v.map f⟩).put d (.osl (Zw S.ss)))):V c fn K (.ops (⟨d,g,.app e n b x y⟩::l)::k) S:=by
 obtain ⟨h0,h1,h2⟩:=Zlc hv;subst h0;rw [List.map_append] at h';exact Z5b hg hx hj rfl rfl hy (by simpa using h1) (by simpa using h2) h'
theorem Znc {all:Array Oper} {ops:List EOp} {af:List (List Nat)} {Φ:St→Prop} {m:Nat} {ld:List Bool} {l' m' v:List α} (f:α→List AV) (hv:Z8c b l' m'=some v) (h6:all.toList.mapM (Ze c.P all)=some ops) {i e n j:Nat} {x y:X} (J:(Zy1 ops i).o = .app e n b x y) (hg:gm S (Zy1 ops i).g)
  (hx:S.x x = .osl j) (hj:Zp S.ss j=some ⟨e,n,l'.map f⟩) (hy:Zp1 S n (S.x y)=some (m'.map f))
  (h:G c all ops af Φ m (Zu1 ld i) ((S.app j ⟨e,n,v.map f⟩).put (Zy1 ops i).d (.osl (Zw S.ss)))):GO c all ops af Φ m ld S i:=by
 obtain ⟨h0,h1,h2⟩:=Zlc hv;subst h0;rw [List.map_append] at h;exact Z6b h6 J hg hx hj rfl rfl hy (by simpa using h1) (by simpa using h2) h
theorem Zoc {all:Array Oper} {ops:List EOp} {af:List (List Nat)} {Φ:St→Prop} {m:Nat} {ld:List Bool} {m' v:List α} (f:α→List AV) (hv:Z8c b [] m'=some v) (h6:all.toList.mapM (Ze c.P all)=some ops) {i e n:Nat} {x y:X} (J:(Zy1 ops i).o = .app e n b x y) (hg:gm S (Zy1 ops i).g)
  (hx:S.x x = .nl) (hy:Zp1 S n (S.x y)=some (m'.map f))
  (h:G c all ops af Φ m (Zu1 ld i) ((S.app0 ⟨e,n,v.map f⟩).put (Zy1 ops i).d (.osl (Zw S.ss)))):GO c all ops af Φ m ld S i:=by
 obtain ⟨h0,h1,h2⟩:=Zlc hv;rw [List.nil_append] at h0;subst h0;exact Zqa (S1:=S.app0 ⟨e,n,v.map f⟩) h6 hg (by rw [J];exact Z4b hx hy (by simpa using h1) (by simpa using h2)) rfl (by rw [J];exact fun _ _ _ _ h _ _=>h) h
theorem Zpc (t:Nat) {e:Bool} (ht:Zn S.tm t = .bv e) (h1:e=true→V c fn K k ⟨Zo S.tm t .tt,S.bs,S.ss⟩) (h2:e=false→V c fn K k ⟨Zo S.tm t .ff,S.bs,S.ss⟩):V c fn K k S:=by
 intro rk M a w hc hT;have key:∀x:AV,(∀v,(AV.bv e).is M v→x.is M v)→RelT c M ⟨Zo S.tm t x,S.bs,S.ss⟩ a w:=by
  intro x hx;refine ⟨by rw [Z32];exact hT.len,fun u=>?_,hT.df,hT.st⟩;simp only [Z22];split
  ·rename_i hu;obtain ⟨rfl,_⟩:=hu;have:=hT.tm u;rw [ht] at this;exact hx _ this
  ·exact hT.tm u
 cases e with
 | true=>exact h1 rfl rk M a w hc (key _ fun v hv=>hv)
 | false=>exact h2 rfl rk M a w hc (key _ fun v hv=>hv)
theorem Zqc (t:Nat) {e:Bool} {A B:Option β} {r:β} (h:ifb e A B=some r) (ht:Zn S.tm t = .bv e) (h1:e=true→A=some r→V c fn K k ⟨Zo S.tm t .tt,S.bs,S.ss⟩) (h2:e=false→B=some r→V c fn K k ⟨Zo S.tm t .ff,S.bs,S.ss⟩):V c fn K k S:=Zpc t ht (fun e1=>h1 e1 (by subst e1;exact h)) (fun e1=>h2 e1 (by subst e1;exact h))
theorem Zrc {body:σ→Option (σ ⊕ β)} {s0:σ} {r:β} (h:loop body s0=some r) (Sx:σ→St) (h0:S.le (Sx s0)) (hok:∀s,(Sx s).ok=true)
  (hp:∀s,Z5 c.np (Zw (Sx s).bs)=true) (hq:∀s,Z5 c.nq (Zw (Sx s).ss)=true)
  (hb:∀s y,body s=some y→(∀s',y = .inl s'→V c fn K k (Sx s'))→(∀r',y = .inr r'→r'=r)→V c fn K k (Sx s)):V c fn K k S:=by
 obtain ⟨n,hn⟩:=Zcc.1 h;have key:∀n s,Zac body n s=some r→V c fn K k (Sx s):=by
  intro n;induction n with
  | zero=>intro s hx;simp [Zac] at hx
  | succ n ih=>
    intro s hx;simp only [Zac] at hx;cases hy:body s with
    | none=>simp [hy] at hx
    | some y=>
      refine hb s y hy ?_ ?_
      ·rintro s' rfl;rw [hy] at hx;exact ih s' hx
      ·rintro r' rfl;rw [hy] at hx;exact Option.some.inj hx
 exact Zs6 _ h0 (hok _) (hp _) (hq _) (key n s0 hn)
theorem Zsc {s':σ} {y:σ ⊕ β} {Sx:σ→St} (h:some (Sum.inl s')=some y) (h6:∀s',y = .inl s'→V c fn K k (Sx s')) (hle:S.le (Sx s'):=by simp [go_sem]) (hok:(Sx s').ok=true:=by first | rfl | simp [go_sem]) (h8:Z5 c.np (Zw (Sx s').bs)=true:=by rfl) (hqn:Z5 c.nq (Zw (Sx s').ss)=true:=by rfl):V c fn K k S:=Zs6 _ hle hok h8 hqn (h6 s' (Option.some.inj h).symm)
theorem Ztc {m:σ→Option β} {r:β} {s:σ} {Sx:σ→St} (J:∀s,m s=some r→V c fn K k (Sx s)) (h:m s=some r) (hle:S.le (Sx s):=by simp [go_sem]) (hok:(Sx s).ok=true:=by first | rfl | simp [go_sem]) (h6:Z5 c.np (Zw (Sx s).bs)=true:=by rfl) (hqn:Z5 c.nq (Zw (Sx s).ss)=true:=by rfl):V c fn K k S:=Zs6 _ hle hok h6 hqn (J s h)
end
structure CloOK (P:Program) (g:Nat) (caps:List AV) {α β:Type} (ar:α→List AV) (p:α→Option β) (rs:β→AV):Prop where
 b:(P.funcs[g]?).any (fun fn=>fn.body.isSome&&!(fn.name == "runtime.NumGoroutine"))=true
 pu:puL caps=true
 h:∀x r,p x=some r→Zz6 P g (ar x++caps) (rs r)
end NX
end Go.Proofs.YtgamgemlekpepaaGreat
/-
  The symbolic machine: own memory lent to a call, slices of slices, own elements. No statement of the seat is proved here.
-/
namespace Go.Proofs.YtgamgemlekpepaaGreat
namespace NX
open Go Go.RowKit
mutual
def AV.flat:AV→Bool
 | .ptr _ _ | .osl _ | .oel _ _ _ | .ocs _ _ _ _ | .elt _ _ | .sl _ _ | .clo _ _=>false
 | .agg l=>Zuc l
 | .tup l=>Zuc l
 | .any | .un | .tt | .ff | .bv _ | .iv _ | .kv _ _ | .sv _ | .nl | .nlp | .fn _=>true
def Zuc:List AV→Bool
 | []=>true
 | x::l=>Z4 x.flat (Zuc l)
end
attribute [go_sem] AV.flat Zuc
mutual
theorem Zvc {M M':Mem}:∀(x:AV) (v:Value),x.is M v→x.flat=true→x.is M' v
 | .any,_,_,_=>trivial
 | .un,_,k,_ | .tt,_,k,_ | .ff,_,k,_ | .bv _,_,k,_ | .iv _,_,k,_ | .kv _ _,_,k,_ | .sv _,_,k,_ | .nl,_,k,_ | .nlp,_,k,_ | .fn _,_,k,_=>k
 | .ptr _ _,_,_,h | .osl _,_,_,h | .oel _ _ _,_,_,h | .ocs _ _ _ _,_,_,h | .elt _ _,_,_,h | .sl _ _,_,_,h | .clo _ _,_,_,h=>by simp [AV.flat] at h
 | .agg l,_,⟨vs,h1,h2⟩,h=>⟨vs,h1,Zwc l vs h2 (by simpa [AV.flat] using h)⟩
 | .tup l,_,⟨vs,h1,h2⟩,h=>⟨vs,h1,Zwc l vs h2 (by simpa [AV.flat] using h)⟩
theorem Zwc {M M':Mem}:∀(l:List AV) (vs:List Value),AV.isL M l vs→Zuc l=true→AV.isL M' l vs
 | [],_,k,_=>k
 | x::l,_,⟨v,r,h1,h2,h3⟩,h=>by simp only [Zuc,Zz1] at h;exact ⟨v,r,h1,Zvc x v h2 h.1,Zwc l r h3 h.2⟩
end
def Zxc (S S':St):Prop:=∀(c:Ctx) M a w,RelT c M S a w→∃M',M.le M'∧RelT c M' S' a w
theorem Zxc.refl (S:St):Zxc S S:=fun _ M _ _ h=>⟨M,.refl M,h⟩
theorem Zxc.slice {S S1:St} (h:Zxc S S1) (j:Nat) {L:Sl} (hj:Zp S1.ss j=some L) (h6:Zj1 L.rows=true:=by first | rfl | simp [go_sem]):Zxc S (S1.sealS j L):=fun c M a w hT=>
 let ⟨_,h1,h2⟩:=h c M a w hT
 let ⟨M2,h3,h4,_⟩:=Zc8 j hj h6 h2
 ⟨M2,h1.trans h3,h4⟩
theorem Zxc.block {S S1:St} (h:Zxc S S1) (j:Nat) {B:Blk} (hj:Zp S1.bs j=some B) (hp:puL B.cells=true):Zxc S (S1.sealB j B.cells):=fun c M a w hT=>
 let ⟨_,h1,h2⟩:=h c M a w hT
 let ⟨M2,h3,h4⟩:=Ze8 j hj hp h2
 ⟨M2,h1.trans h3,h4⟩
section
variable {c:Ctx} {M:Mem} {S S':St} {a:Act} {w:World} {fn:Func} {K:AV→List (Option Blk)→List (Option Sl)→Prop} {k:List It}
theorem Zyc {f:Nat} {xs:List X} {args:List AV} {res:AV} (hs:Zxc S S') (J:Zz6 c.P f args res)
  (ha:AV.le.leL (Z71 S' xs) args) (hp:puL args=true) (h9:res.flat=true):Z77 c S (.call f xs) res S:=by
 intro ro ho M a w hT next Q hn
 obtain ⟨dst,op,ty,pos,af,gd⟩:=ro;dsimp only at ho;obtain ⟨cargs,argTypes,rfl,hd,rfl⟩:=Zb7 ho;obtain ⟨M1,_,h6⟩:=hs c M a w hT;have hm:=Zu2 _ _ (Zi6 _ _ _ ha (Zp5 h6 cargs.toList)) hp;have hc:=J M1.H w _ h6.st.hle h6.st.pin.gl hm;have h8:(execOp a.eval ⟨dst,.call ⟨.value (.func f),cargs,argTypes⟩,ty,pos,af,gd⟩).run c.P w = .ok (.enter f (cargs.map a.eval)) w:=by have he:a.eval (.func f) = .func (.func f) #[] #[]:=rfl;generalize a.eval=ρ at *;simp [execOp,resolve,Deferred.ofValue,invoke,he,Za7 hd]
 unfold Oper.wp;rw [h8];show Calls c.P f (cargs.map a.eval) w _;have e1:(cargs.toList.map a.eval).toArray=cargs.map a.eval:=by apply Array.ext';simp
 rw [←e1];refine hc.mono ?_;rintro e w' ⟨v,H',rfl,hb,h1,h2,h3⟩;exact hn M w' v (.refl M) (hT.st.grow hb) (Zvc _ _ h3 h9)
theorem Zzc {f:Nat} {o:X} {xs:List X} {caps args:List AV} {res:AV} (hs:Zxc S S') (U:S'.x o = .clo f caps) (J:Zz6 c.P f args res)
  (hd:(c.P.funcs[f]?).any (fun fn=>fn.body.isSome&&!(fn.name == "runtime.NumGoroutine"))=true)
  (ha:AV.le.leL (Z71 S' xs++caps) args) (hp:puL args=true) (hw:res.flat=true):Z77 c S (.callv o xs) res S:=by
 intro ro h8 M a w hT next Q hn
 obtain ⟨dst,op,ty,pos,af,gd⟩:=ro;dsimp only at h8;obtain ⟨t,cargs,argTypes,rfl,rfl,rfl⟩:=Zc7 h8;obtain ⟨M1,_,h6⟩:=hs c M a w hT;have hx:=Z34 h6 (.tmp t);rw [show S'.x (cX (.tmp t)) = .clo f caps from U] at hx;obtain ⟨cv,hx1,hA⟩:=hx;have hm:=Zu2 _ _ (Zi6 _ _ _ ha (Zh2 (Zp5 h6 cargs.toList) hA)) hp;have hc:=J M1.H w _ h6.st.hle h6.st.pin.gl hm;have h9:(execOp a.eval ⟨dst,.call ⟨.value (.tmp t),cargs,argTypes⟩,ty,pos,af,gd⟩).run c.P w = .ok (.enter f (cargs.map a.eval++cv.toArray)) w:=by generalize a.eval=ρ at *;simp [execOp,resolve,Deferred.ofValue,invoke,hx1,Za7 hd]
 unfold Oper.wp;rw [h9];show Calls c.P f (cargs.map a.eval++cv.toArray) w _;have e1:(cargs.toList.map a.eval++cv).toArray=cargs.map a.eval++cv.toArray:=by apply Array.ext';simp
 rw [←e1];refine hc.mono ?_;rintro e w' ⟨v,H',rfl,hb,h1,h2,h3⟩;exact hn M w' v (.refl M) (hT.st.grow hb) (Zvc _ _ h3 hw)
theorem Z0d {d:Option Nat} {g:Option (Nat×Bool)} {f:Nat} {xs:List X} {l:List EOp} {args:List AV} {res:AV} (hg:gm S g) (hs:Zxc S S') (J:Zz6 c.P f args res)
  (ha:AV.le.leL (Z71 S' xs) args:=by first | exact Zrb _ | simp [go_sem]) (hp:puL args=true:=by first | rfl | simp [go_sem]) (h6:res.flat=true:=by rfl) (h:V c fn K (.ops l::k) (S.put d res)):V c fn K (.ops (⟨d,g,.call f xs⟩::l)::k) S:=
 Z87 hg (Zyc hs J ha hp h6) rfl h
section
variable {all:Array Oper} {ops:List EOp} {af:List (List Nat)} {Φ:St→Prop} {m:Nat} {ld:List Bool}
theorem Z1d (h6:all.toList.mapM (Ze c.P all)=some ops) {i f:Nat} {xs:List X} {args:List AV} {res:AV} (U:(Zy1 ops i).o = .call f xs) (hg:gm S (Zy1 ops i).g) (hs:Zxc S S') (J:Zz6 c.P f args res)
  (ha:AV.le.leL (Z71 S' xs) args:=by first | exact Zrb _ | simp [go_sem]) (hp:puL args=true:=by first | rfl | simp [go_sem]) (h8:res.flat=true:=by rfl) (h:G c all ops af Φ m (Zu1 ld i) (S.put (Zy1 ops i).d res)):GO c all ops af Φ m ld S i:=
 Zqa h6 hg (by rw [U];exact Zyc hs J ha hp h8) rfl (Z8a _ _) h
theorem Z2d (h6:all.toList.mapM (Ze c.P all)=some ops) {i f:Nat} {o:X} {xs:List X} {caps args:List AV} {res:AV} (U:(Zy1 ops i).o = .callv o xs) (hg:gm S (Zy1 ops i).g) (hs:Zxc S S') (hx:S'.x o = .clo f caps) (J:Zz6 c.P f args res)
  (h8:(c.P.funcs[f]?).any (fun fn=>fn.body.isSome&&!(fn.name == "runtime.NumGoroutine"))=true) (ha:AV.le.leL (Z71 S' xs++caps) args:=by first | exact Zrb _ | simp [go_sem]) (hp:puL args=true:=by first | rfl | simp [go_sem]) (h9:res.flat=true:=by rfl)
  (h:G c all ops af Φ m (Zu1 ld i) (S.put (Zy1 ops i).d res)):GO c all ops af Φ m ld S i:=
 Zqa h6 hg (by rw [U];exact Zzc hs hx J h8 ha hp h9) rfl (Z8a _ _) h
end
theorem Z3d {α β:Type} {d:Option Nat} {g:Option (Nat×Bool)} {f:Nat} {o:X} {xs:List X} {l:List EOp} {caps:List AV} {ar:α→List AV} {p:α→Option β} {rs:β→AV} (hg:gm S g) (U:S.x o = .clo f caps) (J:CloOK c.P f caps ar p rs) {x:α} {v:β} (hv:p x=some v)
  (ha:AV.le.leL (Z71 S xs) (ar x):=by first | exact Zrb _ | simp [go_sem]) (hp:puL (ar x)=true:=by first | rfl | simp [go_sem]) (h:V c fn K (.ops l::k) (S.put d (rs v))):V c fn K (.ops (⟨d,g,.callv o xs⟩::l)::k) S:=by
 have key:∀ {a b c:List AV},AV.le.leL a b→AV.le.leL (a++c) (b++c):=by
  intro a;induction a with
  | nil=>intro b c h;cases b with
    | nil=>exact Zrb c
    | cons _ _=>simp [AV.le.leL] at h
  | cons y a ih=>intro b c h;cases b with
    | nil=>simp [AV.le.leL] at h
    | cons z b=>exact ⟨h.1,ih h.2⟩
 have kp:∀ {a:List AV},puL a=true→puL (a++caps)=true:=by
  intro a;induction a with
  | nil=>intro _;exact J.pu
  | cons y a ih=>intro h;simp only [puL,Zz1,List.cons_append] at h ⊢;exact ⟨h.1,ih h.2⟩
 exact Zi7 hg U (J.h x v hv) J.b (key ha) (kp hp) h
end
def Z4d (n:Int):List AV:=[.iv n]
def Z5d (b:Bool):List AV:=[.bv b]
def Z6d (x:ByteArray):List AV:=[.sv x]
def Z7d (k:IntKind) (n:Int):List AV:=[.kv k n]
def Z8d {α:Type} (n:Nat) (f:α→List AV) (l:List α):List AV:=[.sl n (l.map f)]
def ln {α:Type} (f:α→List AV) (l:List α):Int:=((l.map f).length:Int)
theorem ln_eq {α:Type} (f:α→List AV) (l:List α):ln f l=l.length:=by simp [ln]
attribute [go_sem] Z4d Z5d Z6d Z7d Z8d ln
end NX
end Go.Proofs.YtgamgemlekpepaaGreat
