/-
  Straight code walked by a tactic. No statement of the seat is proved here.
-/
import Derived.Shelf.Sort.Plain
import Derived.Shelf.Slices.In.SortNone
import Derived.Sort.OwnSortedInts
import Derived.Shelf.Slices.CompactI
import Derived.Lib.RowBridge
import Derived.Test.YtgamgemlekpepaaGreatH13
set_option maxRecDepth 100000
set_option maxHeartbeats 4000000
namespace Go.Proofs.YtgamgemlekpepaaGreat
namespace NX
open Go
@[go_sem] def Zpj:AV→Bool
  | .bv _=>false
  | _=>true
@[go_sem] def Zqj (S:St) (o:EOp):Bool:=
  match (match o.g with | some (t,_)=>Zpj (Zn S.tm t) | none=>true) with
  | true=>match o.o with
    | .pick c _ _=>Zpj (S.x c)
    | _=>true
  | false=>false
@[go_sem] def Zrj (d:Nat):Nat→List It→St→Prop→List It×St×Prop
  | 0,k,S,p=>(k,S,p)
  | _+1,[],S,p=>([],S,p)
  | m+1,.blk i::k,S,p=>match Z5 (Zw k+1) d with
    | true=>(.blk i::k,S,p)
    | false=>Zrj d m k S p
  | m+1,.sc c::k,S,p=>match Z5 (Zw k+1) d with
    | true=>(.sc c::k,S,p)
    | false=>Zrj d m k S p
  | _+1,.lp b n::k,S,p=>(.lp b n::k,S,p)
  | m+1,.ops []::k,S,p=>Zrj d m k S p
  | m+1,.ops (o::l)::k,S,p=>match Zqj S o with
    | true=>match ev1 S o with
      | some r=>Zrj d m (.ops l::k) r.1 (p∧r.2)
      | none=>(.ops (o::l)::k,S,p)
    | false=>(.ops (o::l)::k,S,p)
  | m+1,.code .skip::k,S,p=>match Z5 (Zw k+1) d with
    | true=>(.code .skip::k,S,p)
    | false=>Zrj d m k S p
  | m+1,.code (.seq a b)::k,S,p=>match Z5 (Zw k+1) d with
    | true=>(.code (.seq a b)::k,S,p)
    | false=>Zrj d m (.code a :: .code b::k) S p
  | m+1,.code (.blk id a)::k,S,p=>match Z5 (Zw k+1) d with
    | true=>(.code (.blk id a)::k,S,p)
    | false=>Zrj d m (.code a :: .blk id::k) S p
  | m+1,.code (.reg l)::k,S,p=>match Z5 (Zw k+1) d with
    | true=>(.code (.reg l)::k,S,p)
    | false=>Zrj d m (.ops l::k) S p
  | m+1,.code (.exit id)::k,S,p=>match Z5 (Zw k+1) d with
    | true=>(.code (.exit id)::k,S,p)
    | false=>match unw id k with
      | some k'=>Zrj d m k' S p
      | none=>(.code (.exit id)::k,S,p)
  | m+1,.code (.ite x a b)::k,S,p=>match Z5 (Zw k+1) d with
    | true=>(.code (.ite x a b)::k,S,p)
    | false=>match S.x x with
      | .tt=>Zrj d m (.code a::k) S p
      | .ff=>Zrj d m (.code b::k) S p
      | _=>(.code (.ite x a b)::k,S,p)
  | _+1,.code c::k,S,p=>(.code c::k,S,p)
theorem Zsj (d:Nat):∀(m:Nat) (k:List It) (S:St) (p:Prop),∃n,run n k S p=Zrj d m k S p
 | 0,k,S,p=>⟨0,by simp [run,Zrj]⟩
 | m+1,k,S,p=>by
   have st:∀k S p,Zrj d (m+1) k S p=(k,S,p)→∃n,run n k S p=Zrj d (m+1) k S p:=fun k S p h=>⟨0,by rw [h];simp [run]⟩
   match k with
   | []=>exact st _ _ _ rfl
   | .blk i::k=>
     cases hd:Z5 (Zw k+1) d with
     | true=>exact st _ _ _ (by simp [Zrj,hd])
     | false=>obtain ⟨n,h⟩:=Zsj d m k S p;exact ⟨n+1,by simpa [run,Zrj,hd] using h⟩
   | .sc i::k=>
     cases hd:Z5 (Zw k+1) d with
     | true=>exact st _ _ _ (by simp [Zrj,hd])
     | false=>obtain ⟨n,h⟩:=Zsj d m k S p;exact ⟨n+1,by simpa [run,Zrj,hd] using h⟩
   | .lp b n::k=>exact st _ _ _ rfl
   | .ops []::k=>obtain ⟨n,h⟩:=Zsj d m k S p;exact ⟨n+1,by simpa [run,Zrj] using h⟩
   | .ops (o::l)::k=>
     cases ht:Zqj S o with
     | false=>exact st _ _ _ (by simp [Zrj,ht])
     | true=>
       cases he:ev1 S o with
       | none=>exact st _ _ _ (by simp [Zrj,ht,he])
       | some r=>obtain ⟨n,h⟩:=Zsj d m (.ops l::k) r.1 (p∧r.2);exact ⟨n+1,by simpa [run,Zrj,ht,he] using h⟩
   | .code c::k=>
     cases hd:Z5 (Zw k+1) d with
     | true=>exact st _ _ _ (by cases c<;>simp [Zrj,hd])
     | false=>
       cases c with
       | skip=>obtain ⟨n,h⟩:=Zsj d m k S p;exact ⟨n+1,by simpa [run,Zrj,hd] using h⟩
       | seq a b=>obtain ⟨n,h⟩:=Zsj d m (.code a :: .code b::k) S p;exact ⟨n+1,by simpa [run,Zrj,hd] using h⟩
       | blk id a=>obtain ⟨n,h⟩:=Zsj d m (.code a :: .blk id::k) S p;exact ⟨n+1,by simpa [run,Zrj,hd] using h⟩
       | reg l=>obtain ⟨n,h⟩:=Zsj d m (.ops l::k) S p;exact ⟨n+1,by simpa [run,Zrj,hd] using h⟩
       | exit id=>
         cases hu:unw id k with
         | none=>exact st _ _ _ (by simp [Zrj,hu,hd])
         | some k'=>obtain ⟨n,h⟩:=Zsj d m k' S p;exact ⟨n+1,by simpa [run,Zrj,hu,hd] using h⟩
       | ite x a b=>
         cases hx:S.x x with
         | tt=>obtain ⟨n,h⟩:=Zsj d m (.code a::k) S p;exact ⟨n+1,by simpa [run,Zrj,hx,hd] using h⟩
         | ff=>obtain ⟨n,h⟩:=Zsj d m (.code b::k) S p;exact ⟨n+1,by simpa [run,Zrj,hx,hd] using h⟩
         | _=>exact st _ _ _ (by simp [Zrj,hx,hd])
       | _=>exact st _ _ _ rfl
@[go_sem] def Ztj:List It→St→Bool
  | [],_=>false
  | .lp _ _::_,_=>false
  | .ops (o::_)::_,S=>match Zqj S o with
    | true=>(ev1 S o).isSome
    | false=>false
  | .code c::k,S=>match c with
    | .skip | .seq _ _ | .blk _ _ | .reg _=>true
    | .exit id=>(unw id k).isSome
    | .ite x _ _=>match S.x x with
      | .tt | .ff=>true
      | _=>false
    | _=>false
  | _,_=>true
@[go_sem,reducible] def eQ (f:Func) (q:cF Tryz.prog f=cF Tryz.prog f→DP f:=by intro h;(conv at h=>rhs;reduce);dsimp only[go_sem] at h;exact ⟨_,h⟩):EC:=(q rfl).1
theorem oK (f:Nat) (fn:Func) (body:EC) (rs:List ERes) (np nt:Nat) {x:Code} (h:Tryz.prog.funcs[f]?=some fn:=by kernel_rfl) (hb:fn.body=some x:=by exact rfl) (hc:cC Tryz.prog x=some body:=by kernel_rfl) (r:Zq1 Tryz.prog fn.results.toList=some rs:=by kernel_rfl) (t:fn.ntmps=np+nt:=by kernel_rfl):FnOK Tryz.prog f fn body rs np nt:=⟨h,⟨x,hb,hc⟩,r,t⟩
section
variable {c:Ctx} {S S':St} {fn:Func} {K:AV→List (Option Blk)→List (Option Sl)→Prop} {k k':List It} {p:Prop} {β:Type}
theorem VsJ {σ:Type} {m:σ→Option β} {r:β} {J:σ→St} {E:List It} (_J:∀s,m s=some r→V c fn K E (J s)) (h:V c fn K k' S') (_hd:Z5 (Zw k) (Zw E)=false:=by exact rfl) (_hg:Ztj k S=true:=by exact rfl) (he:Zrj (Zw E) 400 k S True=(k',S',p):=by dsimp only[go_sem]<;>exact rfl) (hp:p:=by simp;done):V c fn K k S:=by obtain ⟨n,hn⟩:=Zsj (Zw E) 400 k S True;exact Vg n h (hn.trans he) hp
theorem Vs (h:V c fn K k' S') (_hg:Ztj k S=true:=by exact rfl) (he:Zrj 0 400 k S True=(k',S',p):=by dsimp only[go_sem]<;>exact rfl) (hp:p:=by simp;done):V c fn K k S:=by obtain ⟨n,hn⟩:=Zsj 0 400 k S True;exact Vg n h (hn.trans he) hp
theorem MG {t:Nat} {b:Bool} {o:EOp} {l:List EOp} {e:Bool} {A B:Option β} {r:β} (h:ifb e A B=some r) (h1:A=some r→V c fn K (.ops (o::l)::k) ⟨Zo S.tm t .tt,S.bs,S.ss⟩) (h2:B=some r→V c fn K (.ops (o::l)::k) ⟨Zo S.tm t .ff,S.bs,S.ss⟩) (_hg:o.g=some (t,b):=by exact rfl) (ht:Zn S.tm t = .bv e:=by exact rfl):V c fn K (.ops (o::l)::k) S:=MC t h h1 h2 ht
theorem MP {t:Nat} {x y:X} {o:EOp} {l:List EOp} {e:Bool} {A B:Option β} {r:β} (h:ifb e A B=some r) (h1:A=some r→V c fn K (.ops (o::l)::k) ⟨Zo S.tm t .tt,S.bs,S.ss⟩) (h2:B=some r→V c fn K (.ops (o::l)::k) ⟨Zo S.tm t .ff,S.bs,S.ss⟩) (_hg:o.o = .pick (.t t) x y:=by exact rfl) (ht:Zn S.tm t = .bv e:=by exact rfl):V c fn K (.ops (o::l)::k) S:=MC t h h1 h2 ht
theorem Vi {α:Type} {l':List α} {i:Int} {v:α} {d:Option Nat} {g:Option (Nat×Bool)} {n m:Nat} {x y:X} {l:List EOp} {f:α→List AV} (hv:at_ l' i=some v) (h':V c fn K (.ops l::k) (S.put d (.elt (f v) 0))) (hx:S.x x = .sl m (l'.map f):=by exact rfl) (hi:S.x y = .iv i:=by exact rfl) (h6:m=n:=by exact rfl) (hg:gm S g:=by trivial):V c fn K (.ops (⟨d,g,.idx n x y⟩::l)::k) S:=Zic f hv hg hx hi h6 h'
theorem Vj {α:Type} {l':List α} {z:Int} {v:α} {d:Option Nat} {g:Option (Nat×Bool)} {l:List EOp} {T n j:Nat} {x i:X} {f:α→List AV} (hv:at_ l' z=some v) (h':V c fn K (.ops l::k) (S.put d (.oel j (z.toNat*n) 0))) (hx:S.x x = .osl j:=by exact rfl) (hi:S.x i = .iv z:=by exact rfl) (hj:Zp S.ss j=some ⟨T,n,l'.map f⟩:=by exact rfl) (hg:gm S g:=by trivial):V c fn K (.ops (⟨d,g,.idx n x i⟩::l)::k) S:=Zde f hv hg hx hi hj h'
end
theorem Wd {P:Program} {w0:World} {H0:Frag} {f:Nat} {fn:Func} {body:EC} {rs:List ERes} {np nt:Nat} {β:Type} {e r:β} {T:AV} {S:St} {k:List It} (ok:FnOK P f fn body rs np nt) (h:some e=some r)
 (hl:e=r→leO (Zs1 S rs) T:=by rintro rfl;first | exact le_refl _ | (simp [go_sem];done)):V (Ctx.of P w0 H0) fn (fun x _ _=>x.le T) (.code .ret::k) S:=MD ok h hl
theorem We {P:Program} {w0:World} {H0:Frag} {f:Nat} {fn:Func} {body:EC} {rs:List ERes} {np nt:Nat} {β:Type} {e r:β} {T:AV} {S:St} (ok:FnOK P f fn body rs np nt) (h:some e=some r)
 (hl:e=r→leO (Zs1 S rs) T:=by rintro rfl;first | exact le_refl _ | (simp [go_sem];done)):V (Ctx.of P w0 H0) fn (fun x _ _=>x.le T) [] S:=MS ok h hl
section
variable {c:Ctx} {fn:Func} {K:AV→List (Option Blk)→List (Option Sl)→Prop} {k:List It} {S:St} {σ β:Type}
theorem Wt {m:σ→Option β} {r:β} {s:σ} {E:σ→St} (J:∀s,m s=some r→V c fn K k (E s)) (h:m s=some r) (hle:S.le (E s):=by (simp [go_sem];done)) (hok:(E s).ok=true:=by first | rfl | (simp [go_sem];done)) (h6:Z5 c.np (Zw (E s).bs)=true:=by rfl) (hqn:Z5 c.nq (Zw (E s).ss)=true:=by rfl):V c fn K k S:=Zsc J h hle hok h6 hqn
theorem Wb {s':σ} {y:σ ⊕ β} {E:σ→St} (h:some (Sum.inl s')=some y) (h6:∀s',y = .inl s'→V c fn K k (E s')) (hle:S.le (E s'):=by (simp [go_sem];done)) (hok:(E s').ok=true:=by first | rfl | (simp [go_sem];done)) (h8:Z5 c.np (Zw (E s').bs)=true:=by rfl) (hqn:Z5 c.nq (Zw (E s').ss)=true:=by rfl):V c fn K k S:=Zrc h h6 hle hok h8 hqn
end
@[go_sem] def fga:List AV→List AV
  | []=>[]
  | _::l=>.any::fga l
@[go_sem] def fgk:Nat→(List AV→List AV)→List AV→List AV
  | 0,f,l=>f l
  | _+1,_,[]=>[]
  | n+1,f,_::l=>.any::fgk n f l
@[go_sem] def kek:Nat→(List AV→List AV)→List AV→List AV
  | 0,f,l=>f l
  | _+1,_,[]=>[]
  | n+1,f,x::l=>x::kek n f l
@[go_sem] def kp:Bool→List Nat→List AV→List AV
  | _,[],l=>fga l
  | false,n::r,l=>fgk n (kp true r) l
  | true,n::r,l=>kek n (kp false r) l
@[go_sem] def pq:List (Nat×AV)→List AV→List AV
  | [],l=>l
  | (i,v)::r,l=>pq r (Zo l i v)
theorem Vk {c:Ctx} {fn:Func} {K:AV→List (Option Blk)→List (Option Sl)→Prop} {k:List It} {S:St} {σ β:Type} {x:It} (ks:List Nat) (u:σ→List (Nat×AV)) (m:σ→Option β) (r:β) {E:σ→St} (J:∀s,m s=some r→V c fn K k (E s)) (h:(∀s,m s=some r→V c fn K k (E s))→V c fn K (x::k) S)
 (_hS:∀s,(⟨pq (u s) (kp false ks S.tm),S.bs,S.ss⟩:St)=E s:=by intro s;dsimp only[go_sem]<;>exact rfl):V c fn K (x::k) S:=h J
theorem Vl {c:Ctx} {fn:Func} {K:AV→List (Option Blk)→List (Option Sl)→Prop} {k:List It} {S:St} {σ β:Type} {x:It} (ks:List Nat) (u:σ→List (Nat×AV)×List (Option Blk)×List (Option Sl)) (m:σ→Option β) (r:β) {E:σ→St} (J:∀s,m s=some r→V c fn K k (E s)) (h:(∀s,m s=some r→V c fn K k (E s))→V c fn K (x::k) S)
 (_hS:∀s,(⟨pq (u s).1 (kp false ks S.tm),(u s).2.1,(u s).2.2⟩:St)=E s:=by intro s;dsimp only[go_sem]<;>exact rfl):V c fn K (x::k) S:=h J
theorem Ml {c:Ctx} {fn:Func} {K:AV→List (Option Blk)→List (Option Sl)→Prop} {k:List It} {S:St} {σ β:Type} {b:EC} {body:σ→Option (σ ⊕ β)} {s0:σ} {r:β} (h:loop body s0=some r) (ks:List Nat) (u:σ→List (Nat×AV)×List (Option Blk)×List (Option Sl)) {E:σ→St}
 (hb:∀n s y,body s=some y→(∀s',y = .inl s'→V c fn K (.lp b n::k) (E s'))→(∀r',y = .inr r'→r'=r)→V c fn K (.code b :: .lp b n::k) (E s)) (_hS:∀s,(⟨pq (u s).1 (kp false ks S.tm),(u s).2.1,(u s).2.2⟩:St)=E s:=by intro s;dsimp only[go_sem]<;>exact rfl)
 (h0:S.le (E s0):=by simp [go_sem]) (hok:∀s,(E s).ok=true:=by intro s;first | rfl | simp [go_sem]) (h6:Z5 c.np (Zw (E s0).bs)=true:=by rfl) (hqn:Z5 c.nq (Zw (E s0).ss)=true:=by rfl):V c fn K (.code (.loop b)::k) S:=Zec h E h0 hok hb h6 hqn
theorem Mk {c:Ctx} {fn:Func} {K:AV→List (Option Blk)→List (Option Sl)→Prop} {k:List It} {S:St} {σ β:Type} {b:EC} {body:σ→Option (σ ⊕ β)} {s0:σ} {r:β} (h:loop body s0=some r) (ks:List Nat) (u:σ→List (Nat×AV)) {E:σ→St}
 (hb:∀n s y,body s=some y→(∀s',y = .inl s'→V c fn K (.lp b n::k) (E s'))→(∀r',y = .inr r'→r'=r)→V c fn K (.code b :: .lp b n::k) (E s)) (_hS:∀s,(⟨pq (u s) (kp false ks S.tm),S.bs,S.ss⟩:St)=E s:=by intro s;dsimp only[go_sem]<;>exact rfl)
 (h0:S.le (E s0):=by simp [go_sem]) (hok:∀s,(E s).ok=true:=by intro s;first | rfl | simp [go_sem]) (h6:Z5 c.np (Zw (E s0).bs)=true:=by rfl) (hqn:Z5 c.nq (Zw (E s0).ss)=true:=by rfl):V c fn K (.code (.loop b)::k) S:=Zec h E h0 hok hb h6 hqn
theorem W {p:Prop} (hp:p:=by
 try dsimp only
 repeat' first
  | (have h:=Zdc h hout3)
  | (have h:=Zdc h hout2)
  | (have h:=Zdc h hout1)
  | exact Wd ok h
  | exact We ok h
  | exact Wt J1 h
  | exact Wt J2 h
  | exact Wt J3 h
  | exact Wt J4 h
  | exact Wt J5 h
  | exact Wt J6 h
  | exact Wt J7 h
  | exact Wt J8 h
  | exact Wt J9 h
  | exact Wt J10 h
  | exact Wt J11 h
  | exact Wt J12 h
  | exact Wb h hin1
  | exact Wb h hin2
  | exact Wb h hin3
  | refine VsJ J12 ?_
  | refine VsJ J11 ?_
  | refine VsJ J10 ?_
  | refine VsJ J9 ?_
  | refine VsJ J8 ?_
  | refine VsJ J7 ?_
  | refine VsJ J6 ?_
  | refine VsJ J5 ?_
  | refine VsJ J4 ?_
  | refine VsJ J3 ?_
  | refine VsJ J2 ?_
  | refine VsJ J1 ?_
  | refine Vs ?_
  | refine MI h (fun h=>?_) fun h=>?_
  | refine MG h (fun h=>?_) fun h=>?_
  | refine MP h (fun h=>?_) fun h=>?_
  | (have ⟨_,ex,h⟩:=Bs h;first | refine Vi ex ?_ | refine Vj ex ?_)):p:=hp
end NX
end Go.Proofs.YtgamgemlekpepaaGreat
/-
  Shorter ways of saying the same: what is simplified, states told by what changes. No statement of the seat is proved here.
-/
namespace Go.Proofs.YtgamgemlekpepaaGreat
namespace NX
open Go
theorem Ds {p q:Prop} (h:q) (he:p=q:=by dsimp only[go_sem]<;>exact rfl):p:=he ▸ h
@[go_sem] def oce:List (Option Blk)→Nat→Nat→AV→List (Option Blk)
  | [],_,_,_=>[]
  | none::l,0,_,_=>none::l
  | some B::l,0,o,v=>some ⟨B.T,Zo B.cells o v⟩::l
  | x::l,i+1,o,v=>x::oce l i o v
@[go_sem] def pce:List (Nat×Nat×AV)→List (Option Blk)→List (Option Blk)
  | [],l=>l
  | (i,o,v)::r,l=>pce r (oce l i o v)
@[go_sem] def pol {α:Type}:List (Nat×Option α)→List (Option α)→List (Option α)
  | [],l=>l
  | (i,x)::r,l=>pol r (Zq l i x)
section
variable {c:Ctx} {fn:Func} {K:AV→List (Option Blk)→List (Option Sl)→Prop} {k:List It} {S:St} {σ β:Type}
theorem Vm {x:It} (ks:List Nat) (u:σ→List (Nat×AV)×List (Nat×Nat×AV)×List (Nat×Option Blk)×List (Nat×Option Sl)) (m:σ→Option β) (r:β) {E:σ→St} (J:∀s,m s=some r→V c fn K k (E s)) (h:(∀s,m s=some r→V c fn K k (E s))→V c fn K (x::k) S)
 (_hS:∀s,(⟨pq (u s).1 (kp false ks S.tm),pol (u s).2.2.1 (pce (u s).2.1 S.bs),pol (u s).2.2.2 S.ss⟩:St)=E s:=by intro s;dsimp only[go_sem]<;>exact rfl):V c fn K (x::k) S:=h J
theorem Mm {b:EC} {body:σ→Option (σ ⊕ β)} {s0:σ} {r:β} (h:loop body s0=some r) (ks:List Nat) (u:σ→List (Nat×AV)×List (Nat×Nat×AV)×List (Nat×Option Blk)×List (Nat×Option Sl)) {E:σ→St}
 (hb:∀n s y,body s=some y→(∀s',y = .inl s'→V c fn K (.lp b n::k) (E s'))→(∀r',y = .inr r'→r'=r)→V c fn K (.code b :: .lp b n::k) (E s)) (_hS:∀s,(⟨pq (u s).1 (kp false ks S.tm),pol (u s).2.2.1 (pce (u s).2.1 S.bs),pol (u s).2.2.2 S.ss⟩:St)=E s:=by intro s;dsimp only[go_sem]<;>exact rfl)
 (h0:S.le (E s0):=by simp [go_sem]) (hok:∀s,(E s).ok=true:=by intro s;first | rfl | simp [go_sem]) (h6:Z5 c.np (Zw (E s0).bs)=true:=by rfl) (hqn:Z5 c.nq (Zw (E s0).ss)=true:=by rfl):V c fn K (.code (.loop b)::k) S:=Zec h E h0 hok hb h6 hqn
variable {α:Type} {d:Option Nat} {g:Option (Nat×Bool)} {l:List EOp} {f:Nat} {xs:List X} {args:List AV} {M:Option α} {F:α→Option β} {r:β} {res:α→AV} {S':St}
theorem VB (h:M.bind F=some r) (E:∀ {x},M=some x→Zy6 c.P f args (res x)) (J:∀x,M=some x→F x=some r→V c fn K (.ops l::k) (S.put d (res x)))
 (ha:AV.le.leL (Z71 S xs) args:=by first | exact Zqb _ | simp [go_sem]) (hp:puL args=true:=by first | rfl | simp [go_sem]) (hg:gm S g:=by trivial):V c fn K (.ops (⟨d,g,.call f xs⟩::l)::k) S:=have ⟨_,e,h⟩:=Bs h;VC (E e) (J _ e h) ha hp hg
theorem VN (hs:Zwc S S') (h:M.bind F=some r) (E:∀ {x},M=some x→Zy6 c.P f args (res x)) (J:∀x,M=some x→F x=some r→V c fn K (.ops l::k) (S.put d (res x)))
 (ha:AV.le.leL (Z71 S' xs) args:=by first | exact Zqb _ | simp [go_sem]) (hp:puL args=true:=by first | rfl | simp [go_sem]) (h6:∀x,(res x).flat=true:=by intro x;rfl) (hg:gm S g:=by trivial):V c fn K (.ops (⟨d,g,.call f xs⟩::l)::k) S:=have ⟨x,e,h⟩:=Bs h;VL hs (E e) (J _ e h) ha hp (h6 x) hg
theorem VR (pb ps:List Nat) (B Q:Nat) {bs:List (Option Blk)} {ss:List (Option Sl)} {v:α→AV} {J:α→List (Option Blk)} {E:α→List (Option Sl)} (h:M.bind F=some r) (h0:∀ {x},M=some x→Z0f c.P f args bs ss (v x) (J x) (E x))
  (U:∀x,M=some x→F x=some r→V c fn K (.ops l::k) ((⟨S.tm,mrg (mkm pb B 0) S.bs (spr (Zii B) pb (Zhi pb ps B Q (J x))),mrg (mkm ps Q 0) S.ss (spr (Zii Q) ps (E x))⟩:St).put d ((v x).rnF pb ps B Q))) (hb:Zw pb=Zw bs:=by rfl) (hs:Zw ps=Zw ss:=by rfl) (hpb:Zki B pb=true:=by rfl) (hps:Zki Q ps=true:=by rfl) (hp:Zk1 ss=true:=by first | rfl | simp [go_sem]) (hp':∀x,Zk1 (E x)=true:=by intro x;first | rfl | simp [go_sem])
  (h6:msk (mkm pb B 0) S.bs=spr (Zii B) pb (Zhi pb ps B Q bs):=by rfl) (h8:msk (mkm ps Q 0) S.ss=spr (Zii Q) ps ss:=by rfl) (ha:AV.le.leL (Z71 S xs) (Zgi pb ps B Q args):=by first | exact Zqb _ | simp [go_sem]) (hg:gm S g:=by trivial):V c fn K (.ops (⟨d,g,.call f xs⟩::l)::k) S:=
 have ⟨x,e,h⟩:=Bs h;V_cR pb ps B Q (h0 e) (U _ e h) hb hs hpb hps hp (hp' x) h6 h8 ha hg
end
section
variable {c:Ctx} {all:Array Oper} {ops:List EOp} {af:List (List Nat)} {Φ:St→Prop} {m:Nat} {ld:List Bool} {S S':St} {α β:Type} {i f:Nat} {xs:List X} {args:List AV} {M:Option α} {F:α→Option β} {r:β} {res:α→AV}
theorem GB (h6:all.toList.mapM (Ze c.P all)=some ops) (h:M.bind F=some r) (E:∀ {x},M=some x→Zy6 c.P f args (res x)) (J:∀x,M=some x→F x=some r→G c all ops af Φ m (Zu1 ld i) (S.put (Zy1 ops i).d (res x))) (U:(Zy1 ops i).o = .call f xs:=by exact rfl) (hg:gm S (Zy1 ops i).g:=by trivial)
 (ha:AV.le.leL (Z71 S xs) args:=by first | exact Zqb _ | simp [go_sem]) (hp:puL args=true:=by first | rfl | simp [go_sem]):GO c all ops af Φ m ld S i:=have ⟨_,e,h⟩:=Bs h;GC h6 (E e) (J _ e h) U hg ha hp
theorem GQ (h6:all.toList.mapM (Ze c.P all)=some ops) (hs:Zwc S S') (h:M.bind F=some r) (E:∀ {x},M=some x→Zy6 c.P f args (res x)) (J:∀x,M=some x→F x=some r→G c all ops af Φ m (Zu1 ld i) (S.put (Zy1 ops i).d (res x))) (U:(Zy1 ops i).o = .call f xs:=by exact rfl) (hg:gm S (Zy1 ops i).g:=by trivial)
 (ha:AV.le.leL (Z71 S' xs) args:=by first | exact Zqb _ | simp [go_sem]) (hp:puL args=true:=by first | rfl | simp [go_sem]) (h8:∀x,(res x).flat=true:=by intro x;rfl):GO c all ops af Φ m ld S i:=have ⟨x,e,h⟩:=Bs h;GK h6 hs (E e) (J _ e h) U hg ha hp (h8 x)
theorem GR (h6:all.toList.mapM (Ze c.P all)=some ops) (pb ps:List Nat) (B Q:Nat) {bs:List (Option Blk)} {ss:List (Option Sl)} {v:α→AV} {J:α→List (Option Blk)} {E:α→List (Option Sl)} (h:M.bind F=some r) (h0:∀ {x},M=some x→Z0f c.P f args bs ss (v x) (J x) (E x))
  (U:∀x,M=some x→F x=some r→G c all ops af Φ m (Zu1 ld i) ((⟨S.tm,S.bs,mrg (mkm ps Q 0) S.ss (spr (Zii Q) ps (E x))⟩:St).put (Zy1 ops i).d ((v x).rnF pb ps B Q))) (hb:Zw pb=Zw bs:=by rfl) (hs:Zw ps=Zw ss:=by rfl) (hpb:Zki B pb=true:=by rfl) (hps:Zki Q ps=true:=by rfl) (hp:Zk1 ss=true:=by first | rfl | simp [go_sem]) (hp':∀x,Zk1 (E x)=true:=by intro x;first | rfl | simp [go_sem]) (ho:(Zy1 ops i).o = .call f xs:=by exact rfl) (hg:gm S (Zy1 ops i).g:=by trivial)
  (h8:msk (mkm pb B 0) S.bs=spr (Zii B) pb (Zhi pb ps B Q bs):=by rfl) (h9:msk (mkm ps Q 0) S.ss=spr (Zii Q) ps ss:=by rfl) (hc:∀x,mrg (mkm pb B 0) S.bs (spr (Zii B) pb (Zhi pb ps B Q (J x)))=S.bs:=by intro x;rfl) (ha:AV.le.leL (Z71 S xs) (Zgi pb ps B Q args):=by first | exact Zqb _ | simp [go_sem]):GO c all ops af Φ m ld S i:=
 have ⟨x,e,h⟩:=Bs h;Zmj h6 pb ps B Q (h0 e) (U _ e h) hb hs hpb hps hp (hp' x) ho hg h8 h9 (hc x) ha
theorem GF (h6:all.toList.mapM (Ze c.P all)=some ops) (pb ps:List Nat) (B Q:Nat) {bs:List (Option Blk)} {ss:List (Option Sl)} {v:α→AV} {J:α→List (Option Blk)} {E:α→List (Option Sl)} (h:M.bind F=some r) (h0:∀ {x},M=some x→Z0f c.P f args bs ss (v x) (J x) (E x))
  (U:∀x,M=some x→F x=some r→G c all ops af Φ m (Zu1 ld i) ((⟨S.tm,mrg (mkm pb B 0) S.bs (spr (Zii B) pb (Zhi pb ps B Q (J x))),mrg (mkm ps Q 0) S.ss (spr (Zii Q) ps (E x))⟩:St).put (Zy1 ops i).d ((v x).rnF pb ps B Q))) (h8:Zmh af i ops 0=true:=by kernel_rfl) (hb:Zw pb=Zw bs:=by rfl) (hs:Zw ps=Zw ss:=by rfl) (hpb:Zki B pb=true:=by rfl) (hps:Zki Q ps=true:=by rfl) (hp:Zk1 ss=true:=by first | rfl | simp [go_sem]) (hp':∀x,Zk1 (E x)=true:=by intro x;first | rfl | simp [go_sem]) (ho:(Zy1 ops i).o = .call f xs:=by exact rfl) (hg:gm S (Zy1 ops i).g:=by trivial)
  (h9:msk (mkm pb B 0) S.bs=spr (Zii B) pb (Zhi pb ps B Q bs):=by rfl) (hc:msk (mkm ps Q 0) S.ss=spr (Zii Q) ps ss:=by rfl) (ha:AV.le.leL (Z71 S xs) (Zgi pb ps B Q args):=by first | exact Zqb _ | simp [go_sem]):GO c all ops af Φ m ld S i:=
 have ⟨x,e,h⟩:=Bs h;Znj h6 pb ps B Q (h0 e) (U _ e h) h8 hb hs hpb hps hp (hp' x) ho hg h9 hc ha
end
end NX
end Go.Proofs.YtgamgemlekpepaaGreat
/-
  A slice with a third bound to which is appended: names that hold values told ahead. No statement of the seat is proved here.
-/
namespace Go.Proofs.YtgamgemlekpepaaGreat
namespace NX
open Go Go.RowKit
section
variable {c:Ctx} {M:Mem} {bs:List (Option Blk)} {ss:List (Option Sl)} {S:St} {a:Act} {w:World} {fn:Func} {K:AV→List (Option Blk)→List (Option Sl)→Prop} {k:List It}
end
section
variable {c:Ctx} {S:St} {fn:Func} {K:AV→List (Option Blk)→List (Option Sl)→Prop} {k:List It} {all:Array Oper} {ops:List EOp} {af nap:List (List Nat)} {Φ:St→Prop} {m':Nat} {ld:List Bool} {α:Type} {l v:List α} {b i j q g cap n T:Nat} {z:Int} {f:α→List AV} {x y xh xm:X}
end
end NX
end Go.Proofs.YtgamgemlekpepaaGreat
/-
  The program's data. No statement of the seat is proved here.
-/
namespace Go.Proofs.YtgamgemlekpepaaGreat
namespace NX
open Go
structure Side where
 Peer:Int
 Epoch:Int
 State:Int
 Fork:Bool
 DY:Bool
 Token:Bool
 BO:Bool
 Ask:Bool
 deriving DecidableEq,Inhabited
def Side.row (x:Side):List AV:=[.iv x.Peer,.iv x.Epoch,.iv x.State,.bv x.Fork,.bv x.DY,.bv x.Token,.bv x.BO,.bv x.Ask]
attribute [go_sem] Side.row
structure DI where
 ID:Int
 PH:Int
 SD:(List Side)
 deriving DecidableEq,Inhabited
def DI.row (x:DI):List AV:=[.iv x.ID,.iv x.PH,.sl 8 (List.map Side.row x.SD)]
attribute [go_sem] DI.row
structure DK where
 DI:DI
 TH:Int
 Need:(List Int)
 deriving DecidableEq,Inhabited
def DK.row (x:DK):List AV:=[.iv x.DI.ID,.iv x.DI.PH,.sl 8 (List.map Side.row x.DI.SD),.iv x.TH,.sl 1 (List.map Z3d x.Need)]
attribute [go_sem] DK.row
structure Sess where
 ID:Int
 Need:(List Int)
 State:Int
 Age:Int
 deriving DecidableEq,Inhabited
def Sess.row (x:Sess):List AV:=[.iv x.ID,.sl 1 (List.map Z3d x.Need),.iv x.State,.iv x.Age]
attribute [go_sem] Sess.row
structure Book where
 Last:Int
 Sess:(List Sess)
 deriving DecidableEq,Inhabited
def Book.row (x:Book):List AV:=[.iv x.Last,.sl 4 (List.map Sess.row x.Sess)]
attribute [go_sem] Book.row
structure KE where
 Peer:Int
 Epoch:Int
 deriving DecidableEq,Inhabited
def KE.row (x:KE):List AV:=[.iv x.Peer,.iv x.Epoch]
attribute [go_sem] KE.row
structure Node where
 DK:DK
 Book:Book
 KN:(List KE)
 Told:(List Int)
 AK:(List KE)
 deriving DecidableEq,Inhabited
def Node.row (x:Node):List AV:=[.iv x.DK.DI.ID,.iv x.DK.DI.PH,.sl 8 (List.map Side.row x.DK.DI.SD),.iv x.DK.TH,.sl 1 (List.map Z3d x.DK.Need),.iv x.Book.Last,.sl 4 (List.map Sess.row x.Book.Sess),.sl 2 (List.map KE.row x.KN),.sl 1 (List.map Z3d x.Told),.sl 2 (List.map KE.row x.AK)]
attribute [go_sem] Node.row
structure Msg where
 Kind:Int
 Epoch:Int
 Num:Int
 deriving DecidableEq,Inhabited
def Msg.row (x:Msg):List AV:=[.iv x.Kind,.iv x.Epoch,.iv x.Num]
attribute [go_sem] Msg.row
structure Mail where
 From:Int
 To:Int
 Msg:Msg
 deriving DecidableEq,Inhabited
def Mail.row (x:Mail):List AV:=[.iv x.From,.iv x.To,.iv x.Msg.Kind,.iv x.Msg.Epoch,.iv x.Msg.Num]
attribute [go_sem] Mail.row
structure Event where
 Kind:Int
 Node:Int
 ID:Int
 Peer:Int
 Need:(List Int)
 deriving DecidableEq,Inhabited
def Event.row (x:Event):List AV:=[.iv x.Kind,.iv x.Node,.iv x.ID,.iv x.Peer,.sl 1 (List.map Z3d x.Need)]
attribute [go_sem] Event.row
structure node_node where
 Node:Node
 out:(List Mail)
 seen:(List Event)
 e:Int
 deriving DecidableEq,Inhabited
def node_node.row (x:node_node):List AV:=[.iv x.Node.DK.DI.ID,.iv x.Node.DK.DI.PH,.sl 8 (List.map Side.row x.Node.DK.DI.SD),.iv x.Node.DK.TH,.sl 1 (List.map Z3d x.Node.DK.Need),.iv x.Node.Book.Last,.sl 4 (List.map Sess.row x.Node.Book.Sess),.sl 2 (List.map KE.row x.Node.KN),.sl 1 (List.map Z3d x.Node.Told),.sl 2 (List.map KE.row x.Node.AK),.sl 5 (List.map Mail.row x.out),.sl 5 (List.map Event.row x.seen),.iv x.e]
attribute [go_sem] node_node.row
structure drink_drinker where
 DK:DK
 out:(List Mail)
 deriving DecidableEq,Inhabited
def drink_drinker.row (x:drink_drinker):List AV:=[.iv x.DK.DI.ID,.iv x.DK.DI.PH,.sl 8 (List.map Side.row x.DK.DI.SD),.iv x.DK.TH,.sl 1 (List.map Z3d x.DK.Need),.sl 5 (List.map Mail.row x.out)]
attribute [go_sem] drink_drinker.row
structure Do where
 Kind:Int
 ID:Int
 Peer:Int
 Hold:Int
 Need:(List Int)
 deriving DecidableEq,Inhabited
def Do.row (x:Do):List AV:=[.iv x.Kind,.iv x.ID,.iv x.Peer,.iv x.Hold,.sl 1 (List.map Z3d x.Need)]
attribute [go_sem] Do.row
structure Hall where
 Nodes:(List Node)
 Mail:(List Mail)
 deriving DecidableEq,Inhabited
def Hall.row (x:Hall):List AV:=[.sl 10 (List.map Node.row x.Nodes),.sl 5 (List.map Mail.row x.Mail)]
attribute [go_sem] Hall.row
structure narthexlaw19_Step where
 Mail:Bool
 A:Int
 B:Int
 Do:Do
 deriving DecidableEq,Inhabited
def narthexlaw19_Step.row (x:narthexlaw19_Step):List AV:=[.bv x.Mail,.iv x.A,.iv x.B,.iv x.Do.Kind,.iv x.Do.ID,.iv x.Do.Peer,.iv x.Do.Hold,.sl 1 (List.map Z3d x.Do.Need)]
attribute [go_sem] narthexlaw19_Step.row
structure Bar where
 Drinkers:(List DK)
 Mail:(List Mail)
 deriving DecidableEq,Inhabited
def Bar.row (x:Bar):List AV:=[.sl 5 (List.map DK.row x.Drinkers),.sl 5 (List.map Mail.row x.Mail)]
attribute [go_sem] Bar.row
structure Scene where
 Diners:(List DI)
 Mail:(List Mail)
 deriving DecidableEq,Inhabited
def Scene.row (x:Scene):List AV:=[.sl 3 (List.map DI.row x.Diners),.sl 5 (List.map Mail.row x.Mail)]
attribute [go_sem] Scene.row
structure Edge where
 A:Int
 B:Int
 deriving DecidableEq,Inhabited
def Edge.row (x:Edge):List AV:=[.iv x.A,.iv x.B]
attribute [go_sem] Edge.row
structure Graph where
 N:Int
 Edges:(List Edge)
 deriving DecidableEq,Inhabited
def Graph.row (x:Graph):List AV:=[.iv x.N,.sl 2 (List.map Edge.row x.Edges)]
attribute [go_sem] Graph.row
@[go_sem,reducible] def Sq0 (x:List Node):Option Sl:=some ⟨67,10,List.map Node.row x⟩
@[go_sem,reducible] def Sp1 (x:List Int):AV:=.sl 1 (List.map Z3d x)
@[go_sem,reducible] def Sp2 (x:List KE):AV:=.sl 2 (List.map KE.row x)
@[go_sem,reducible] def Sp3 (x:List Side):AV:=.sl 8 (List.map Side.row x)
@[go_sem,reducible] def Sq4 (x:List Int):Option Sl:=some ⟨3,1,List.map Z3d x⟩
@[go_sem,reducible] def Sp5 (x:List Sess):AV:=.sl 4 (List.map Sess.row x)
@[go_sem,reducible] def Sq6 (x:List Mail):Option Sl:=some ⟨53,5,List.map Mail.row x⟩
@[go_sem,reducible] def Sp7 (x:List Event):AV:=.sl 5 (List.map Event.row x)
@[go_sem,reducible] def Sp8 (x:List Edge):AV:=.sl 2 (List.map Edge.row x)
@[go_sem,reducible] def Sp9 (x:List Mail):AV:=.sl 5 (List.map Mail.row x)
@[go_sem,reducible] def Zuj (x:List Sess):Option Sl:=some ⟨131,4,List.map Sess.row x⟩
@[go_sem,reducible] def Zvj (x:List DK):Option Sl:=some ⟨61,5,List.map DK.row x⟩
@[go_sem,reducible] def Zwj (x:List Side):Option Sl:=some ⟨112,8,List.map Side.row x⟩
@[go_sem,reducible] def Zxj (x:List KE):Option Sl:=some ⟨121,2,List.map KE.row x⟩
@[go_sem,reducible] def Zyj (x:List Node):AV:=.sl 10 (List.map Node.row x)
@[go_sem,reducible] def Zzj (x:List Event):Option Sl:=some ⟨77,5,List.map Event.row x⟩
@[go_sem,reducible] def Z0k (x:List DI):AV:=.sl 3 (List.map DI.row x)
@[go_sem,reducible] def Z1k (x:List DI):Option Sl:=some ⟨58,3,List.map DI.row x⟩
end NX
end Go.Proofs.YtgamgemlekpepaaGreat
namespace Go.Proofs.YtgamgemlekpepaaGreat
namespace NX
open Go Go.RowKit
section
variable {c:Ctx} {M:Mem} {S S':St} {a:Act} {w:World} {fn:Func} {K:AV→List (Option Blk)→List (Option Sl)→Prop} {k:List It} {bs:List (Option Blk)} {ss:List (Option Sl)}
theorem Z2k {M:Mem} {E:List Int} {vss:List (List Value)} (h:AV.isLL M 1 (E.map Z3d) vss):vss.flatten=E.map (Value.int .i64):=by
 induction E generalizing vss with
 | nil=>simp [AV.isLL] at h;subst h;rfl
 | cons z E ih=>obtain ⟨v,r,rfl,h1,h2,h3⟩:=h;obtain ⟨u,q,rfl,h4,h5⟩:=h2;simp only [AV.isL] at h5;simp only [AV.is] at h4;subst h5;subst h4;simp [ih h3]
theorem Z3k {M:Mem}:∀(E:List Int),∃vss,AV.isLL M 1 (E.map Z3d) vss∧vss.flatten=E.map (Value.int .i64)
 | []=>⟨[],rfl,rfl⟩
 | z::E=>by obtain ⟨vss,h1,h2⟩:=Z3k (M:=M) E;exact ⟨[.int .i64 z]::vss,⟨_,_,rfl,rfl,⟨_,_,rfl,rfl,rfl⟩,h1⟩,by simp [h2]⟩
theorem Z4k {ρ:Shelf.Ren} (J:Lays.n189 c.P ρ) {j T:Nat} {x:X} {E:List Int} (hx:S.x x = .osl j) (hj:Zp S.ss j=some ⟨T,1,E.map Z3d⟩) (hd:E.length<4611686018427387904):
  Z67 c S (.call (ρ.f 189) [x]) (.tup []) ⟨S.tm,S.bs,Zq S.ss j (some ⟨T,1,(E.mergeSort fun x y=>decide (x≤y)).map Z3d⟩)⟩:=by
 intro ro ho M a w hT next Q hn
 obtain ⟨dst,op,ty,pos,af,gd⟩:=ro;dsimp only at ho;obtain ⟨cargs,argTypes,rfl,hw,h8⟩:=Za7 ho;obtain ⟨q,rfl⟩:∃q,cargs = #[q]:=by
  have:cargs.toList.length=1:=by have:=congrArg List.length h8;simpa using this
  obtain ⟨l⟩:=cargs
  match l,this with
  | [q],_=>exact ⟨q,rfl⟩
 have hA:cX q=x:=by simpa using h8
 have hq:=Z34 hT q;rw [hA,hx] at hq;obtain ⟨hD,hq⟩:=hq;obtain ⟨g0,vss,h1,h2,h3,h4⟩:=hT.st.slc j _ hj;dsimp only at h1 h3 g0;have hB:=Z2k h1;have h6:(execOp a.eval ⟨dst,.call ⟨.value (.func (ρ.f 189)), #[q],argTypes⟩,ty,pos,af,gd⟩).run c.P w = .ok (.enter (ρ.f 189) (#[q].map a.eval)) w:=by have he:a.eval (.func (ρ.f 189)) = .func (.func (ρ.f 189)) #[] #[]:=rfl;generalize a.eval=ρ' at *;simp [execOp,resolve,Deferred.ofValue,invoke,he,Z97 hw]
 have e1:(#[q].map a.eval) = #[M.σ j]:=by apply Array.ext';simp;exact hq
 rw [e1] at h6;unfold Oper.wp;rw [h6];show Calls c.P (ρ.f 189) #[M.σ j] w _;obtain ⟨rs,hC,h9⟩:=Z3k (M:=M.sl) (E.mergeSort fun x y=>decide (x≤y));have hf:∀v∈rs.flatten,v.oneCell'=true:=by rw [h9];intro v hv;obtain ⟨z,_,rfl⟩:=List.mem_map.1 hv;rfl
 have hc:(E.mergeSort fun x y=>decide (x≤y)).length=E.length:=by simp
 rcases h3.2 with ⟨e2,e3⟩ | ⟨g,cap,cur,e2,hb,e3,e4,e5,e6,e7⟩
 ·have hz:E=[]:=by simpa using e3
  subst hz;rw [e2];refine (Any.slices_Sort_int_none J none 0 w).mono ?_;rintro e w' ⟨rfl,rfl⟩;refine hn M _ _ (.refl M) ?_ ⟨[],rfl,rfl⟩;have:Zq S.ss j (some (⟨T,1,([].mergeSort fun (x y:Int)=>decide (x≤y)).map Z3d⟩:Sl))=S.ss:=by
   have hj':=hj;simp only [List.map_nil] at hj';have:∀(l:List (Option Sl)) (j:Nat) (L:Sl),Zp l j=some L→Zq l j (some L)=l:=by
    intro l;induction l with
    | nil=>intro j L h;simp [Zp] at h
    | cons x l ih=>intro j L h;cases j with
      | zero=>simp [Zp] at h;subst h;rfl
      | succ j=>simp only [Zq];rw [ih j L (by simpa [Zp] using h)]
   simpa using this _ _ _ hj'
  rw [this];exact hT.st
 ·have e4':E.length≤cap:=by simpa using e4
  rw [e2];simp only [List.length_map];rw [Nat.mul_one,List.length_map] at e7;rw [hB] at e7;refine (Any.slices_Sort_int J g 0 cap E w (holds_of_blockI e3 e7) (Array.getElem?_eq_some_iff.1 e3).1 hd).mono ?_;rintro e w' ⟨rfl,n,os,rfl⟩;refine hn M _ _ (.refl M) ?_ ⟨[],rfl,rfl⟩;refine hT.st.rewrite hj (g:=g) (by rw [e2];rfl) (grownBy_sortedI _) (vss':=rs) hC hf ?_;rw [h9,List.length_map,hc,e2,List.length_map];exact ownsRow_sortedI (ss:=E) hc hb e3 e4' e5 e6
theorem Z5k {ρ:Shelf.Ren} (J:Lays.n189 c.P ρ) {d:Option Nat} {g:Option (Nat×Bool)} {l:List EOp} {j T f:Nat} {x:X} (E:List Int) (hg:gm S g) (U:f=ρ.f 189) (hx:S.x x = .osl j) (hj:Zp S.ss j=some ⟨T,1,E.map Z3d⟩) (h6:E.length<4611686018427387904)
  (h:V c fn K (.ops l::k) ((⟨S.tm,S.bs,Zq S.ss j (some ⟨T,1,(E.mergeSort fun x y=>decide (x≤y)).map Z3d⟩)⟩:St).put d (.tup []))):V c fn K (.ops (⟨d,g,.call f [x]⟩::l)::k) S:=by
 subst U;exact Z77 hg (Z4k J hx hj h6) rfl h
theorem Z6k {ρ:Shelf.Ren} (J:Lays2.n20 c.P ρ) {j T:Nat} {x:X} {E:List Int} (hx:S.x x = .osl j) (hj:Zp S.ss j=some ⟨T,1,E.map Z3d⟩) (hI:E.length<4611686018427387904):
  Z67 c S (.call (ρ.f 20) [x]) (.osl (Zw S.ss)) ⟨S.tm,S.bs,Zq S.ss j none++[some ⟨T,1,(Lib.compact E).map Z3d⟩]⟩:=by
 intro ro ho M a w hT next Q hn
 obtain ⟨dst,op,ty,pos,af,gd⟩:=ro;dsimp only at ho;obtain ⟨cargs,argTypes,rfl,hB,h9⟩:=Za7 ho;obtain ⟨q,rfl⟩:∃q,cargs = #[q]:=by
  have:cargs.toList.length=1:=by have:=congrArg List.length h9;simpa using this
  obtain ⟨l⟩:=cargs
  match l,this with
  | [q],_=>exact ⟨q,rfl⟩
 have hC:cX q=x:=by simpa using h9
 have hq:=Z34 hT q;rw [hC,hx] at hq;obtain ⟨hJ,hq⟩:=hq;have hS:=hT.st;obtain ⟨g0,vss,h1,h2,h3,h4⟩:=hS.slc j _ hj;dsimp only at h1 h3 g0;have hD:=Z2k h1;have h8:(execOp a.eval ⟨dst,.call ⟨.value (.func (ρ.f 20)), #[q],argTypes⟩,ty,pos,af,gd⟩).run c.P w = .ok (.enter (ρ.f 20) (#[q].map a.eval)) w:=by have he:a.eval (.func (ρ.f 20)) = .func (.func (ρ.f 20)) #[] #[]:=rfl;generalize a.eval=ρ' at *;simp [execOp,resolve,Deferred.ofValue,invoke,he,Z97 hB]
 have e1:(#[q].map a.eval) = #[M.σ j]:=by apply Array.ext';simp;exact hq
 rw [e1] at h8;unfold Oper.wp;rw [h8];show Calls c.P (ρ.f 20) #[M.σ j] w _;obtain ⟨rs,hE,h6⟩:=Z3k (M:=M.sl) (Lib.compact E);have hf:∀v∈rs.flatten,v.oneCell'=true:=by rw [h6];intro v hv;obtain ⟨z,_,rfl⟩:=List.mem_map.1 hv;rfl
 have hK:=Lib.compact_length_le E;have hw:∀i N,Zp (Zq S.ss j none) i=some N→Zp S.ss i=some N∧∀g,(M.σ j).ownBlock=some g→(M.σ i).ownBlock≠some g:=by
  intro i N hi;rw [Z62] at hi;split at hi
  ·simp at hi
  ·rename_i e;refine ⟨hi,fun g hg e2=>e ⟨?_,Z82 hj⟩⟩;exact hS.d3 i j N _ g hi hj e2 hg
 have fin:∀v' w',w.grownBy w' (M.σ j).ownBlock→v'.ownBlock=(M.σ j).ownBlock→w'.ownsRow 0 T 1 v' (Lib.compact E).length rs.flatten→next (a.put dst v') w':=fun v' w' hg hv hA=>by have hr:RelS c (M.addS v') S.bs (Zq S.ss j none++[some (⟨T,1,(Lib.compact E).map Z3d⟩:Sl)]) w':=RelS.grown (v:=M.σ j) (vss:=rs) hS (Z72 _ _ _) hw (.inr fun i B hi=>hS.d2 i j B _ hi hj) h4 hg (.inl hv) g0 hE hf (by simpa using hA);refine hn (M.addS v') w' v' (Mem.le_addS M v') hr ?_;rw [Z12,←hS.ns];exact ⟨Nat.lt_succ_self _,by simp [Mem.addS]⟩
 rcases h3.2 with ⟨e2,e3⟩ | ⟨g,cap,cur,e2,hb,e3,e4,e5,e6,e7⟩
 ·have hz:E=[]:=by simpa using e3
  subst hz;rw [e2] at fin ⊢;refine (Any.slices_Compact_int_empty J none 0 w).mono ?_;rintro e w' ⟨rfl,rfl⟩;refine fin _ _ ⟨rfl,rfl,rfl,Nat.le_refl _,fun _ _ _=>rfl⟩ rfl ?_;rw [h6];exact World.ownsRow_nil _ _ _ _
 ·have e4':E.length≤cap:=by simpa using e4
  rw [e2] at fin ⊢;simp only [List.length_map];rw [Nat.mul_one,List.length_map] at e7;rw [hD] at e7;refine (Any.slices_Compact_int J g 0 cap E w (holds_of_blockI e3 e7) (by omega) e4').mono ?_;rintro e w' ⟨rfl,n,rfl⟩;have hc:=grownBy_sortedI (w:=w) (g:=g) (n:=n) (os:= #[]) (Lib.compact E++List.replicate (E.length-(Lib.compact E).length) 0).toArray;have hd:=heap_sortedI (w:=w) (g:=g) (n:=n) (os:= #[]) (Lib.compact E++List.replicate (E.length-(Lib.compact E).length) 0).toArray e3;rw [Sort.grow_empty] at hc hd;refine fin _ _ hc rfl ⟨by rw [h6];simp,.inr ⟨g,cap,_,rfl,hb,hd,by omega,e5,by simp [Sort.putCells,e6],?_⟩⟩;have hG:=take_putCellsI cur (Lib.compact E++List.replicate (E.length-(Lib.compact E).length) 0) (by simp;omega);rw [h6,Nat.mul_one];have:=congrArg (List.take (Lib.compact E).length) hG;rw [List.take_take,List.map_append,List.take_append_of_le_length (by simp)] at this;rw [Nat.min_eq_left (by simp)] at this;rw [this,List.take_of_length_le (by simp)]
theorem Z7k {ρ:Shelf.Ren} (J:Lays2.n20 c.P ρ) {d:Option Nat} {g:Option (Nat×Bool)} {l:List EOp} {j T f:Nat} {x:X} (E:List Int) (hg:gm S g) (U:f=ρ.f 20) (hx:S.x x = .osl j) (hj:Zp S.ss j=some ⟨T,1,E.map Z3d⟩) (h6:E.length<4611686018427387904)
  (h:V c fn K (.ops l::k) ((⟨S.tm,S.bs,Zq S.ss j none++[some ⟨T,1,(Lib.compact E).map Z3d⟩]⟩:St).put d (.osl (Zw S.ss)))):V c fn K (.ops (⟨d,g,.call f [x]⟩::l)::k) S:=by
 subst U;exact Z77 hg (Z6k J hx hj h6) rfl h
end
end NX
end Go.Proofs.YtgamgemlekpepaaGreat
/-
  The function slices.IndexFunc[[]narthex/api.Side,narthex/api.Side]: its code compiled, a model, and that the code answers as the model. Written by a program of ours (lb.py). No statement of the seat is proved here.
-/
namespace Go.Proofs.YtgamgemlekpepaaGreat
namespace NX
open Go
noncomputable section
@[go_sem] def e119:EC:=eQ Tryz.f119
theorem Z8k:FnOK Tryz.prog 119 Tryz.f119 e119 [.t 4] 2 17:=okA
def Z9k:Unit→Option Int
| ()=>some (-1)
def Zak (x1:List Side) (p1:(Side→Option Bool)):Int→Option (Int ⊕ Int)
| x5=>
 ifb (decide (x5<(ln Side.row x1))) (
 (at_ x1 x5).bind fun x6=>
 (p1 x6).bind fun x7=>
 ifb x7 (
 Option.map Sum.inr (some x5)) (
 some (.inl (wr (x5+1))))) (
 Option.map Sum.inr (Z9k ()))
def Zbk (x1:List Side) (p1:(Side→Option Bool)):Option Int:=loop (Zak x1 p1) 0
theorem Zck {x1 g1 caps1 p1 r} (h:Zbk x1 p1=some r) (hc1:CloOK Tryz.prog g1 caps1 (fun z=>[.agg (Side.row z)]) p1 (fun z=>.bv z)):Zy6 Tryz.prog 119 [Sp3 x1,.clo g1 caps1] (.iv r):=by
 refine FP Z8k fun w0 H0=>?_;rw [Zbk] at h;refine Vg 11 ?_;refine Vk [] (fun _=>[]) Z9k r ?_ fun J1=>?_
 ·rintro ⟨⟩ h;rw [Z9k] at h;(try dsimp only);refine Vg 4 ?_;exact MD Z8k h
 ·refine Vg 1 ?_;refine Mk h [0,2,5,1] (fun x5=>[(8,.iv x5)]) ?_ (hok:=by intro x5;first | rfl | (simp [go_sem];done) | simp [go_sem,Zpb _ hc1.pu]);rintro n1 x5 y1 h hin1 hout1;rw [Zak] at h;(try dsimp only);refine Vg 5 ?_;refine MI h (fun h=>?_) fun h=>?_
  ·refine Vg 13 ?_;have ⟨x6,ex6,h⟩:=Bs h;refine Zic Side.row ex6 trivial rfl rfl rfl (Vg 1 ?_);have ⟨x7,ex7,h⟩:=Bs h;refine Z2d trivial rfl hc1 (x:=x6) ex7 (by first | exact Zqb _ | simp [go_sem]) (by first | rfl | simp [go_sem,hc1.pu]) (Vg 1 ?_);refine MI h (fun h=>?_) fun h=>?_
   ·refine Vg 5 ?_;exact MD Z8k (Zdc h hout1)
   ·refine Vg 6 ?_;exact Zrc h hin1 (hok:=by first | rfl | simp [go_sem,Zpb _ hc1.pu])
  ·refine Vg 1 ?_;exact Zsc J1 (Zdc h hout1) (hok:=by first | rfl | simp [go_sem,Zpb _ hc1.pu])
@[go_sem] def e160:EC:=eQ Tryz.f160
theorem Zdk:FnOK Tryz.prog 160 Tryz.f160 e160 [.t 4] 2 17:=okA
def Zek:Unit→Option Int
| ()=>some (-1)
def Zfk (x1:List KE) (p1:(KE→Option Bool)):Int→Option (Int ⊕ Int)
| x5=>
 ifb (decide (x5<(ln KE.row x1))) (
 (at_ x1 x5).bind fun x6=>
 (p1 x6).bind fun x7=>
 ifb x7 (
 Option.map Sum.inr (some x5)) (
 some (.inl (wr (x5+1))))) (
 Option.map Sum.inr (Zek ()))
def Zgk (x1:List KE) (p1:(KE→Option Bool)):Option Int:=loop (Zfk x1 p1) 0
theorem Zhk {x1 g1 caps1 p1 r} (h:Zgk x1 p1=some r) (hc1:CloOK Tryz.prog g1 caps1 (fun z=>[.agg (KE.row z)]) p1 (fun z=>.bv z)):Zy6 Tryz.prog 160 [Sp2 x1,.clo g1 caps1] (.iv r):=by
 refine FP Zdk fun w0 H0=>?_;rw [Zgk] at h;refine Vg 11 ?_;refine Vk [] (fun _=>[]) Zek r ?_ fun J1=>?_
 ·rintro ⟨⟩ h;rw [Zek] at h;(try dsimp only);refine Vg 4 ?_;exact MD Zdk h
 ·refine Vg 1 ?_;refine Mk h [0,2,5,1] (fun x5=>[(8,.iv x5)]) ?_ (hok:=by intro x5;first | rfl | (simp [go_sem];done) | simp [go_sem,Zpb _ hc1.pu]);rintro n1 x5 y1 h hin1 hout1;rw [Zfk] at h;(try dsimp only);refine Vg 5 ?_;refine MI h (fun h=>?_) fun h=>?_
  ·refine Vg 13 ?_;have ⟨x6,ex6,h⟩:=Bs h;refine Zic KE.row ex6 trivial rfl rfl rfl (Vg 1 ?_);have ⟨x7,ex7,h⟩:=Bs h;refine Z2d trivial rfl hc1 (x:=x6) ex7 (by first | exact Zqb _ | simp [go_sem]) (by first | rfl | simp [go_sem,hc1.pu]) (Vg 1 ?_);refine MI h (fun h=>?_) fun h=>?_
   ·refine Vg 5 ?_;exact MD Zdk (Zdc h hout1)
   ·refine Vg 6 ?_;exact Zrc h hin1 (hok:=by first | rfl | simp [go_sem,Zpb _ hc1.pu])
  ·refine Vg 1 ?_;exact Zsc J1 (Zdc h hout1) (hok:=by first | rfl | simp [go_sem,Zpb _ hc1.pu])
@[go_sem] def e164:EC:=eQ Tryz.f164
theorem Zik:FnOK Tryz.prog 164 Tryz.f164 e164 [.t 4] 2 17:=okA
def Zjk:Unit→Option Int
| ()=>some (-1)
def Zkk (x1:List Sess) (p1:(Sess→Option Bool)):Int→Option (Int ⊕ Int)
| x5=>
 ifb (decide (x5<(ln Sess.row x1))) (
 (at_ x1 x5).bind fun x6=>
 (p1 x6).bind fun x7=>
 ifb x7 (
 Option.map Sum.inr (some x5)) (
 some (.inl (wr (x5+1))))) (
 Option.map Sum.inr (Zjk ()))
def Zlk (x1:List Sess) (p1:(Sess→Option Bool)):Option Int:=loop (Zkk x1 p1) 0
theorem Zmk {x1 g1 caps1 p1 r} (h:Zlk x1 p1=some r) (hc1:CloOK Tryz.prog g1 caps1 (fun z=>[.agg (Sess.row z)]) p1 (fun z=>.bv z)):Zy6 Tryz.prog 164 [Sp5 x1,.clo g1 caps1] (.iv r):=by
 refine FP Zik fun w0 H0=>?_;rw [Zlk] at h;refine Vg 11 ?_;refine Vk [] (fun _=>[]) Zjk r ?_ fun J1=>?_
 ·rintro ⟨⟩ h;rw [Zjk] at h;(try dsimp only);refine Vg 4 ?_;exact MD Zik h
 ·refine Vg 1 ?_;refine Mk h [0,2,5,1] (fun x5=>[(8,.iv x5)]) ?_ (hok:=by intro x5;first | rfl | (simp [go_sem];done) | simp [go_sem,Zpb _ hc1.pu]);rintro n1 x5 y1 h hin1 hout1;rw [Zkk] at h;(try dsimp only);refine Vg 5 ?_;refine MI h (fun h=>?_) fun h=>?_
  ·refine Vg 13 ?_;have ⟨x6,ex6,h⟩:=Bs h;refine Zic Sess.row ex6 trivial rfl rfl rfl (Vg 1 ?_);have ⟨x7,ex7,h⟩:=Bs h;refine Z2d trivial rfl hc1 (x:=x6) ex7 (by first | exact Zqb _ | simp [go_sem]) (by first | rfl | simp [go_sem,hc1.pu]) (Vg 1 ?_);refine MI h (fun h=>?_) fun h=>?_
   ·refine Vg 5 ?_;exact MD Zik (Zdc h hout1)
   ·refine Vg 6 ?_;exact Zrc h hin1 (hok:=by first | rfl | simp [go_sem,Zpb _ hc1.pu])
  ·refine Vg 1 ?_;exact Zsc J1 (Zdc h hout1) (hok:=by first | rfl | simp [go_sem,Zpb _ hc1.pu])
@[go_sem] def e158:EC:=eQ Tryz.f158
def Znk:Unit→Option Int
| ()=>some (-1)
def Zok (x1:List Int) (p1:(Int→Option Bool)):Int→Option (Int ⊕ Int)
| x5=>
 ifb (decide (x5<(ln Z3d x1))) (
 (at_ x1 x5).bind fun x6=>
 (p1 x6).bind fun x7=>
 ifb x7 (
 Option.map Sum.inr (some x5)) (
 some (.inl (wr (x5+1))))) (
 Option.map Sum.inr (Znk ()))
def Zpk (x1:List Int) (p1:(Int→Option Bool)):Option Int:=loop (Zok x1 p1) 0
theorem Zqk {x1 g1 caps1 p1 r} (h:Zpk x1 p1=some r) (hc1:CloOK Tryz.prog g1 caps1 (fun z=>[.iv z]) p1 (fun z=>.bv z)):Zy6 Tryz.prog 158 [Sp1 x1,.clo g1 caps1] (.iv r):=by
 have ok:=oK 158 Tryz.f158 e158 [.t 4] 2 17;refine FP ok fun w0 H0=>?_;rw [Zpk] at h;refine Vg 11 ?_;refine Vk [] (fun _=>[]) Znk r ?_ fun J1=>?_
 ·rintro ⟨⟩ h;rw [Znk] at h;(try dsimp only);refine Vg 4 ?_;exact MD ok h
 ·refine Vg 1 ?_;refine Mk h [0,2,5,1] (fun x5=>[(8,.iv x5)]) ?_ (hok:=by intro x5;first | rfl | (simp [go_sem];done) | simp [go_sem,Zpb _ hc1.pu]);rintro n1 x5 y1 h hin1 hout1;rw [Zok] at h;(try dsimp only);refine Vg 5 ?_;refine MI h (fun h=>?_) fun h=>?_
  ·refine Vg 13 ?_;have ⟨x6,ex6,h⟩:=Bs h;refine Zic Z3d ex6 trivial rfl rfl rfl (Vg 1 ?_);have ⟨x7,ex7,h⟩:=Bs h;refine Z2d trivial rfl hc1 (x:=x6) ex7 (by first | exact Zqb _ | simp [go_sem]) (by first | rfl | simp [go_sem,hc1.pu]) (Vg 1 ?_);refine MI h (fun h=>?_) fun h=>?_
   ·refine Vg 5 ?_;exact MD ok (Zdc h hout1)
   ·refine Vg 6 ?_;exact Zrc h hin1 (hok:=by first | rfl | simp [go_sem,Zpb _ hc1.pu])
  ·refine Vg 1 ?_;exact Zsc J1 (Zdc h hout1) (hok:=by first | rfl | simp [go_sem,Zpb _ hc1.pu])
@[go_sem] def e95:EC:=eQ Tryz.f95
def Zrk:Unit→Option Bool
| ()=>some false
def Zsk (x1:List Int) (x2:Int):Int→Option (Int ⊕ Bool)
| x5=>
 ifb (decide (x5<(ln Z3d x1))) (
 (at_ x1 x5).bind fun x6=>
 ifb (decide (x6=x2)) (
 Option.map Sum.inr (some true)) (
 some (.inl (wr (x5+1))))) (
 Option.map Sum.inr (Zrk ()))
def Ztk (x1:List Int) (x2:Int):Option Bool:=loop (Zsk x1 x2) 0
theorem Zuk {x1 x2 r} (h:Ztk x1 x2=some r):Zy6 Tryz.prog 95 [Sp1 x1,.iv x2] (.bv r):=by
 have ok:=oK 95 Tryz.f95 e95 [.t 4] 2 16;refine FP ok fun w0 H0=>?_;rw [Ztk] at h;refine Vg 9 ?_;refine Vk [] (fun _=>[]) Zrk r ?_ fun J1=>?_
 ·rintro ⟨⟩ h;rw [Zrk] at h;exact W
 ·refine Vg 1 ?_;refine Mk h [0,2] (fun x5=>[(5,.iv x5)]) ?_;rintro n1 x5 y1 h hin1 hout1;rw [Zsk] at h;exact W
end
end NX
end Go.Proofs.YtgamgemlekpepaaGreat
