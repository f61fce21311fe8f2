/-
  Straight code walked by a tactic. No statement of the seat is proved here.
-/
import Derived.Test.YtgamgemlekpepaaGreatK19
namespace Go.Proofs.YtgamgemlekpepaaGreat
namespace NX
open Go
@[go_sem] def Zqj:AV→Bool
  | .bv _=>false
  | _=>true
@[go_sem] def Zrj (S:St) (o:EOp):Bool:=
  match (match o.g with | some (t,_)=>Zqj (Zn S.tm t) | none=>true) with
  | true=>match o.o with
    | .pick c _ _=>Zqj (S.x c)
    | _=>true
  | false=>false
@[go_sem] def Zsj (d:Nat):Nat→List It→St→Prop→List It×St×Prop
  | 0,k,S,p=>(k,S,p)
  | _+1,[],S,p=>([],S,p)
  | m+1,.blk i::k,S,p=>match Z5 (Zw k+1) d with
    | true=>(.blk i::k,S,p)
    | false=>Zsj d m k S p
  | m+1,.sc c::k,S,p=>match Z5 (Zw k+1) d with
    | true=>(.sc c::k,S,p)
    | false=>Zsj d m k S p
  | _+1,.lp b n::k,S,p=>(.lp b n::k,S,p)
  | m+1,.ops []::k,S,p=>Zsj d m k S p
  | m+1,.ops (o::l)::k,S,p=>match Zrj S o with
    | true=>match ev1 S o with
      | some r=>Zsj d m (.ops l::k) r.1 (p∧r.2)
      | none=>(.ops (o::l)::k,S,p)
    | false=>(.ops (o::l)::k,S,p)
  | m+1,.code .skip::k,S,p=>match Z5 (Zw k+1) d with
    | true=>(.code .skip::k,S,p)
    | false=>Zsj d m k S p
  | m+1,.code (.seq a b)::k,S,p=>match Z5 (Zw k+1) d with
    | true=>(.code (.seq a b)::k,S,p)
    | false=>Zsj d m (.code a :: .code b::k) S p
  | m+1,.code (.blk id a)::k,S,p=>match Z5 (Zw k+1) d with
    | true=>(.code (.blk id a)::k,S,p)
    | false=>Zsj d m (.code a :: .blk id::k) S p
  | m+1,.code (.reg l)::k,S,p=>match Z5 (Zw k+1) d with
    | true=>(.code (.reg l)::k,S,p)
    | false=>Zsj d m (.ops l::k) S p
  | m+1,.code (.exit id)::k,S,p=>match Z5 (Zw k+1) d with
    | true=>(.code (.exit id)::k,S,p)
    | false=>match unw id k with
      | some k'=>Zsj d m k' S p
      | none=>(.code (.exit id)::k,S,p)
  | m+1,.code (.ite x a b)::k,S,p=>match Z5 (Zw k+1) d with
    | true=>(.code (.ite x a b)::k,S,p)
    | false=>match S.x x with
      | .tt=>Zsj d m (.code a::k) S p
      | .ff=>Zsj d m (.code b::k) S p
      | _=>(.code (.ite x a b)::k,S,p)
  | _+1,.code c::k,S,p=>(.code c::k,S,p)
theorem Ztj (d:Nat):∀(m:Nat) (k:List It) (S:St) (p:Prop),∃n,run n k S p=Zsj d m k S p
 | 0,k,S,p=>⟨0,by simp [run,Zsj]⟩
 | m+1,k,S,p=>by
   have st:∀k S p,Zsj d (m+1) k S p=(k,S,p)→∃n,run n k S p=Zsj d (m+1) k S p:=fun k S p h=>⟨0,by rw [h];simp [run]⟩
   match k with
   | []=>exact st _ _ _ rfl
   | .blk i::k=>
     cases hd:Z5 (Zw k+1) d with
     | true=>exact st _ _ _ (by simp [Zsj,hd])
     | false=>obtain ⟨n,h⟩:=Ztj d m k S p;exact ⟨n+1,by simpa [run,Zsj,hd] using h⟩
   | .sc i::k=>
     cases hd:Z5 (Zw k+1) d with
     | true=>exact st _ _ _ (by simp [Zsj,hd])
     | false=>obtain ⟨n,h⟩:=Ztj d m k S p;exact ⟨n+1,by simpa [run,Zsj,hd] using h⟩
   | .lp b n::k=>exact st _ _ _ rfl
   | .ops []::k=>obtain ⟨n,h⟩:=Ztj d m k S p;exact ⟨n+1,by simpa [run,Zsj] using h⟩
   | .ops (o::l)::k=>
     cases ht:Zrj S o with
     | false=>exact st _ _ _ (by simp [Zsj,ht])
     | true=>
       cases he:ev1 S o with
       | none=>exact st _ _ _ (by simp [Zsj,ht,he])
       | some r=>obtain ⟨n,h⟩:=Ztj d m (.ops l::k) r.1 (p∧r.2);exact ⟨n+1,by simpa [run,Zsj,ht,he] using h⟩
   | .code c::k=>
     cases hd:Z5 (Zw k+1) d with
     | true=>exact st _ _ _ (by cases c<;>simp [Zsj,hd])
     | false=>
       cases c with
       | skip=>obtain ⟨n,h⟩:=Ztj d m k S p;exact ⟨n+1,by simpa [run,Zsj,hd] using h⟩
       | seq a b=>obtain ⟨n,h⟩:=Ztj d m (.code a :: .code b::k) S p;exact ⟨n+1,by simpa [run,Zsj,hd] using h⟩
       | blk id a=>obtain ⟨n,h⟩:=Ztj d m (.code a :: .blk id::k) S p;exact ⟨n+1,by simpa [run,Zsj,hd] using h⟩
       | reg l=>obtain ⟨n,h⟩:=Ztj d m (.ops l::k) S p;exact ⟨n+1,by simpa [run,Zsj,hd] using h⟩
       | exit id=>
         cases hu:unw id k with
         | none=>exact st _ _ _ (by simp [Zsj,hu,hd])
         | some k'=>obtain ⟨n,h⟩:=Ztj d m k' S p;exact ⟨n+1,by simpa [run,Zsj,hu,hd] using h⟩
       | ite x a b=>
         cases hx:S.x x with
         | tt=>obtain ⟨n,h⟩:=Ztj d m (.code a::k) S p;exact ⟨n+1,by simpa [run,Zsj,hx,hd] using h⟩
         | ff=>obtain ⟨n,h⟩:=Ztj d m (.code b::k) S p;exact ⟨n+1,by simpa [run,Zsj,hx,hd] using h⟩
         | _=>exact st _ _ _ (by simp [Zsj,hx,hd])
       | _=>exact st _ _ _ rfl
@[go_sem] def Zuj:List It→St→Bool
  | [],_=>false
  | .lp _ _::_,_=>false
  | .ops (o::_)::_,S=>match Zrj S o with
    | true=>(ev1 S o).isSome
    | false=>false
  | .code c::k,S=>match c with
    | .skip | .seq _ _ | .blk _ _ | .reg _=>true
    | .exit id=>(unw id k).isSome
    | .ite x _ _=>match S.x x with
      | .tt | .ff=>true
      | _=>false
    | _=>false
  | _,_=>true
@[go_sem,reducible] def eQ (f:Func) (q:cF Tryz.prog f=cF Tryz.prog f→DP f:=by intro h;(conv at h=>rhs;reduce);dsimp only[go_sem] at h;exact ⟨_,h⟩):EC:=(q rfl).1
theorem oJ (f:Nat) (fn:Func) (rs:List ERes) (np nt:Nat) {x:Code} (q:cF Tryz.prog fn=cF Tryz.prog fn→DP fn:=by intro h;(conv at h=>rhs;reduce);dsimp only[go_sem] at h;exact ⟨_,h⟩) (h:Tryz.prog.funcs[f]?=some fn:=by kernel_rfl) (hb:fn.body=some x:=by exact rfl) (hc:cC Tryz.prog x=some (q rfl).1:=by kernel_rfl) (r:Zq1 Tryz.prog fn.results.toList=some rs:=by kernel_rfl) (t:fn.ntmps=np+nt:=by kernel_rfl):FnOK Tryz.prog f fn (q rfl).1 rs np nt:=⟨h,⟨x,hb,hc⟩,r,t⟩
theorem oK (f:Nat) (fn:Func) (body:EC) (rs:List ERes) (np nt:Nat) {x:Code} (h:Tryz.prog.funcs[f]?=some fn:=by kernel_rfl) (hb:fn.body=some x:=by exact rfl) (hc:cC Tryz.prog x=some body:=by kernel_rfl) (r:Zq1 Tryz.prog fn.results.toList=some rs:=by kernel_rfl) (t:fn.ntmps=np+nt:=by kernel_rfl):FnOK Tryz.prog f fn body rs np nt:=⟨h,⟨x,hb,hc⟩,r,t⟩
section
variable {c:Ctx} {S S':St} {fn:Func} {K:AV→List (Option Blk)→List (Option Sl)→Prop} {k k':List It} {p:Prop} {β:Type}
theorem VsJ {σ:Type} {m:σ→Option β} {r:β} {Sx:σ→St} {J:List It} (_J:∀s,m s=some r→V c fn K J (Sx s)) (h:V c fn K k' S') (_hd:Z5 (Zw k) (Zw J)=false:=by exact rfl) (_hg:Zuj k S=true:=by exact rfl) (he:Zsj (Zw J) 400 k S True=(k',S',p):=by dsimp only[go_sem]<;>exact rfl) (hp:p:=by simp;done):V c fn K k S:=by obtain ⟨n,hn⟩:=Ztj (Zw J) 400 k S True;exact Vg n h (hn.trans he) hp
theorem Vs (h:V c fn K k' S') (_hg:Zuj k S=true:=by exact rfl) (he:Zsj 0 400 k S True=(k',S',p):=by dsimp only[go_sem]<;>exact rfl) (hp:p:=by simp;done):V c fn K k S:=by obtain ⟨n,hn⟩:=Ztj 0 400 k S True;exact Vg n h (hn.trans he) hp
theorem MG {t:Nat} {b:Bool} {o:EOp} {l:List EOp} {e:Bool} {A B:Option β} {r:β} (h:ifb e A B=some r) (h1:A=some r→V c fn K (.ops (o::l)::k) ⟨Zo S.tm t .tt,S.bs,S.ss⟩) (h2:B=some r→V c fn K (.ops (o::l)::k) ⟨Zo S.tm t .ff,S.bs,S.ss⟩) (_hg:o.g=some (t,b):=by exact rfl) (ht:Zn S.tm t = .bv e:=by exact rfl):V c fn K (.ops (o::l)::k) S:=MC t h h1 h2 ht
theorem MP {t:Nat} {x y:X} {o:EOp} {l:List EOp} {e:Bool} {A B:Option β} {r:β} (h:ifb e A B=some r) (h1:A=some r→V c fn K (.ops (o::l)::k) ⟨Zo S.tm t .tt,S.bs,S.ss⟩) (h2:B=some r→V c fn K (.ops (o::l)::k) ⟨Zo S.tm t .ff,S.bs,S.ss⟩) (_hg:o.o = .pick (.t t) x y:=by exact rfl) (ht:Zn S.tm t = .bv e:=by exact rfl):V c fn K (.ops (o::l)::k) S:=MC t h h1 h2 ht
theorem Vi {α:Type} {l':List α} {i:Int} {v:α} {d:Option Nat} {g:Option (Nat×Bool)} {n m:Nat} {x y:X} {l:List EOp} {f:α→List AV} (hv:at_ l' i=some v) (h':V c fn K (.ops l::k) (S.put d (.elt (f v) 0))) (hx:S.x x = .sl m (l'.map f):=by exact rfl) (hi:S.x y = .iv i:=by exact rfl) (h6:m=n:=by exact rfl) (hg:gm S g:=by trivial):V c fn K (.ops (⟨d,g,.idx n x y⟩::l)::k) S:=Zjc f hv hg hx hi h6 h'
theorem Vj {α:Type} {l':List α} {z:Int} {v:α} {d:Option Nat} {g:Option (Nat×Bool)} {l:List EOp} {T n j:Nat} {x i:X} {f:α→List AV} (hv:at_ l' z=some v) (h':V c fn K (.ops l::k) (S.put d (.oel j (z.toNat*n) 0))) (hx:S.x x = .osl j:=by exact rfl) (hi:S.x i = .iv z:=by exact rfl) (hj:Zp S.ss j=some ⟨T,n,l'.map f⟩:=by exact rfl) (hg:gm S g:=by trivial):V c fn K (.ops (⟨d,g,.idx n x i⟩::l)::k) S:=Zee f hv hg hx hi hj h'
end
theorem Wd {P:Program} {w0:World} {H0:Frag} {f:Nat} {fn:Func} {body:EC} {rs:List ERes} {np nt:Nat} {β:Type} {e r:β} {T:AV} {S:St} {k:List It} (ok:FnOK P f fn body rs np nt) (h:some e=some r)
 (hl:e=r→leO (Zs1 S rs) T:=by rintro rfl;first | exact le_refl _ | (simp [go_sem];done)):V (Ctx.of P w0 H0) fn (fun x _ _=>x.le T) (.code .ret::k) S:=MD ok h hl
theorem We {P:Program} {w0:World} {H0:Frag} {f:Nat} {fn:Func} {body:EC} {rs:List ERes} {np nt:Nat} {β:Type} {e r:β} {T:AV} {S:St} (ok:FnOK P f fn body rs np nt) (h:some e=some r)
 (hl:e=r→leO (Zs1 S rs) T:=by rintro rfl;first | exact le_refl _ | (simp [go_sem];done)):V (Ctx.of P w0 H0) fn (fun x _ _=>x.le T) [] S:=MS ok h hl
section
variable {c:Ctx} {f:Nat} {fn:Func} {body:EC} {rs:List ERes} {np nt:Nat} {k:List It} {S:St} {v:AV} {bs':List (Option Blk)} {ss':List (Option Sl)} {β:Type} {e r:β}
theorem Td (ok:FnOK c.P f fn body rs np nt) (h:some e=some r) (hl:e=r→∃x,Zs1 S rs=some x∧St.le ⟨[x],S.bs,S.ss⟩ ⟨[v],bs',ss'⟩:=by rintro rfl;exact ⟨_,rfl,by (simp [go_sem];done)⟩):V c fn (fun x b s=>St.le ⟨[x],b,s⟩ ⟨[v],bs',ss'⟩) (.code .ret::k) S:=have ⟨_,a,b⟩:=hl (Option.some.inj h);Z3f ok a b
theorem Ts (ok:FnOK c.P f fn body rs np nt) (h:some e=some r) (hl:e=r→∃x,Zs1 S rs=some x∧St.le ⟨[x],S.bs,S.ss⟩ ⟨[v],bs',ss'⟩:=by rintro rfl;exact ⟨_,rfl,by (simp [go_sem];done)⟩):V c fn (fun x b s=>St.le ⟨[x],b,s⟩ ⟨[v],bs',ss'⟩) [] S:=have ⟨_,a,b⟩:=hl (Option.some.inj h);Z4f ok a b
end
section
variable {c:Ctx} {fn:Func} {K:AV→List (Option Blk)→List (Option Sl)→Prop} {k:List It} {S:St} {σ β:Type}
theorem Wt {m:σ→Option β} {r:β} {s:σ} {Sx:σ→St} (J:∀s,m s=some r→V c fn K k (Sx s)) (h:m s=some r) (hle:S.le (Sx s):=by (simp [go_sem];done)) (hok:(Sx s).ok=true:=by first | rfl | (simp [go_sem];done)) (h6:Z5 c.np (Zw (Sx s).bs)=true:=by rfl) (hqn:Z5 c.nq (Zw (Sx s).ss)=true:=by rfl):V c fn K k S:=Ztc J h hle hok h6 hqn
theorem Wb {s':σ} {y:σ ⊕ β} {Sx:σ→St} (h:some (Sum.inl s')=some y) (h6:∀s',y = .inl s'→V c fn K k (Sx s')) (hle:S.le (Sx s'):=by (simp [go_sem];done)) (hok:(Sx s').ok=true:=by first | rfl | (simp [go_sem];done)) (h8:Z5 c.np (Zw (Sx s').bs)=true:=by rfl) (hqn:Z5 c.nq (Zw (Sx s').ss)=true:=by rfl):V c fn K k S:=Zsc h h6 hle hok h8 hqn
end
@[go_sem] def fga:List AV→List AV
  | []=>[]
  | _::l=>.any::fga l
@[go_sem] def fgk:Nat→(List AV→List AV)→List AV→List AV
  | 0,f,l=>f l
  | _+1,_,[]=>[]
  | n+1,f,_::l=>.any::fgk n f l
@[go_sem] def kek:Nat→(List AV→List AV)→List AV→List AV
  | 0,f,l=>f l
  | _+1,_,[]=>[]
  | n+1,f,x::l=>x::kek n f l
@[go_sem] def kp:Bool→List Nat→List AV→List AV
  | _,[],l=>fga l
  | false,n::r,l=>fgk n (kp true r) l
  | true,n::r,l=>kek n (kp false r) l
@[go_sem] def pq:List (Nat×AV)→List AV→List AV
  | [],l=>l
  | (i,v)::r,l=>pq r (Zo l i v)
theorem Vk {c:Ctx} {fn:Func} {K:AV→List (Option Blk)→List (Option Sl)→Prop} {k:List It} {S:St} {σ β:Type} {x:It} (ks:List Nat) (u:σ→List (Nat×AV)) (m:σ→Option β) (r:β) {Sx:σ→St} (J:∀s,m s=some r→V c fn K k (Sx s)) (h:(∀s,m s=some r→V c fn K k (Sx s))→V c fn K (x::k) S)
 (_hS:∀s,(⟨pq (u s) (kp false ks S.tm),S.bs,S.ss⟩:St)=Sx s:=by intro s;dsimp only[go_sem]<;>exact rfl):V c fn K (x::k) S:=h J
theorem Vl {c:Ctx} {fn:Func} {K:AV→List (Option Blk)→List (Option Sl)→Prop} {k:List It} {S:St} {σ β:Type} {x:It} (ks:List Nat) (u:σ→List (Nat×AV)×List (Option Blk)×List (Option Sl)) (m:σ→Option β) (r:β) {Sx:σ→St} (J:∀s,m s=some r→V c fn K k (Sx s)) (h:(∀s,m s=some r→V c fn K k (Sx s))→V c fn K (x::k) S)
 (_hS:∀s,(⟨pq (u s).1 (kp false ks S.tm),(u s).2.1,(u s).2.2⟩:St)=Sx s:=by intro s;dsimp only[go_sem]<;>exact rfl):V c fn K (x::k) S:=h J
theorem Ml {c:Ctx} {fn:Func} {K:AV→List (Option Blk)→List (Option Sl)→Prop} {k:List It} {S:St} {σ β:Type} {b:EC} {body:σ→Option (σ ⊕ β)} {s0:σ} {r:β} (h:loop body s0=some r) (ks:List Nat) (u:σ→List (Nat×AV)×List (Option Blk)×List (Option Sl)) {Sx:σ→St}
 (hb:∀n s y,body s=some y→(∀s',y = .inl s'→V c fn K (.lp b n::k) (Sx s'))→(∀r',y = .inr r'→r'=r)→V c fn K (.code b :: .lp b n::k) (Sx s)) (_hS:∀s,(⟨pq (u s).1 (kp false ks S.tm),(u s).2.1,(u s).2.2⟩:St)=Sx s:=by intro s;dsimp only[go_sem]<;>exact rfl)
 (h0:S.le (Sx s0):=by simp [go_sem]) (hok:∀s,(Sx s).ok=true:=by intro s;first | rfl | simp [go_sem]) (h6:Z5 c.np (Zw (Sx s0).bs)=true:=by rfl) (hqn:Z5 c.nq (Zw (Sx s0).ss)=true:=by rfl):V c fn K (.code (.loop b)::k) S:=Zfc h Sx h0 hok hb h6 hqn
theorem Mk {c:Ctx} {fn:Func} {K:AV→List (Option Blk)→List (Option Sl)→Prop} {k:List It} {S:St} {σ β:Type} {b:EC} {body:σ→Option (σ ⊕ β)} {s0:σ} {r:β} (h:loop body s0=some r) (ks:List Nat) (u:σ→List (Nat×AV)) {Sx:σ→St}
 (hb:∀n s y,body s=some y→(∀s',y = .inl s'→V c fn K (.lp b n::k) (Sx s'))→(∀r',y = .inr r'→r'=r)→V c fn K (.code b :: .lp b n::k) (Sx s)) (_hS:∀s,(⟨pq (u s) (kp false ks S.tm),S.bs,S.ss⟩:St)=Sx s:=by intro s;dsimp only[go_sem]<;>exact rfl)
 (h0:S.le (Sx s0):=by simp [go_sem]) (hok:∀s,(Sx s).ok=true:=by intro s;first | rfl | simp [go_sem]) (h6:Z5 c.np (Zw (Sx s0).bs)=true:=by rfl) (hqn:Z5 c.nq (Zw (Sx s0).ss)=true:=by rfl):V c fn K (.code (.loop b)::k) S:=Zfc h Sx h0 hok hb h6 hqn
theorem W {p:Prop} (hp:p:=by
 try dsimp only
 repeat' first
  | (with_reducible have h:=Zec h hout3)
  | (with_reducible have h:=Zec h hout2)
  | (with_reducible have h:=Zec h hout1)
  | exact Wt J1 h
  | exact Wt J2 h
  | exact Wt J3 h
  | exact Wt J4 h
  | exact Wt J5 h
  | exact Wt J6 h
  | exact Wt J7 h
  | exact Wt J8 h
  | exact Wt J9 h
  | exact Wt J10 h
  | exact Wt J11 h
  | exact Wt J12 h
  | exact Wd ok h
  | exact We ok h
  | exact Td ok h
  | exact Ts ok h
  | exact Wb h hin1
  | exact Wb h hin2
  | exact Wb h hin3
  | refine VsJ J12 ?_
  | refine VsJ J11 ?_
  | refine VsJ J10 ?_
  | refine VsJ J9 ?_
  | refine VsJ J8 ?_
  | refine VsJ J7 ?_
  | refine VsJ J6 ?_
  | refine VsJ J5 ?_
  | refine VsJ J4 ?_
  | refine VsJ J3 ?_
  | refine VsJ J2 ?_
  | refine VsJ J1 ?_
  | refine Vs ?_
  | refine MI h (fun h=>?_) fun h=>?_
  | refine MG h (fun h=>?_) fun h=>?_
  | refine MP h (fun h=>?_) fun h=>?_
  | (have ⟨_,ex,h⟩:=Bs h;first | refine Vi ex ?_ | refine Vj ex ?_)):p:=hp
end NX
end Go.Proofs.YtgamgemlekpepaaGreat
/-
  Shorter ways of saying the same: what is simplified, states told by what changes. No statement of the seat is proved here.
-/
namespace Go.Proofs.YtgamgemlekpepaaGreat
namespace NX
open Go
theorem Ds {p q:Prop} (h:q) (he:p=q:=by dsimp only[go_sem]<;>exact rfl):p:=he ▸ h
@[go_sem] def oce:List (Option Blk)→Nat→Nat→AV→List (Option Blk)
  | [],_,_,_=>[]
  | none::l,0,_,_=>none::l
  | some B::l,0,o,v=>some ⟨B.T,Zo B.cells o v⟩::l
  | x::l,i+1,o,v=>x::oce l i o v
@[go_sem] def pce:List (Nat×Nat×AV)→List (Option Blk)→List (Option Blk)
  | [],l=>l
  | (i,o,v)::r,l=>pce r (oce l i o v)
@[go_sem] def pol {α:Type}:List (Nat×Option α)→List (Option α)→List (Option α)
  | [],l=>l
  | (i,x)::r,l=>pol r (Zq l i x)
section
variable {c:Ctx} {fn:Func} {K:AV→List (Option Blk)→List (Option Sl)→Prop} {k:List It} {S:St} {σ β:Type}
theorem Vm {x:It} (ks:List Nat) (u:σ→List (Nat×AV)×List (Nat×Nat×AV)×List (Nat×Option Blk)×List (Nat×Option Sl)) (m:σ→Option β) (r:β) {Sx:σ→St} (J:∀s,m s=some r→V c fn K k (Sx s)) (h:(∀s,m s=some r→V c fn K k (Sx s))→V c fn K (x::k) S)
 (_hS:∀s,(⟨pq (u s).1 (kp false ks S.tm),pol (u s).2.2.1 (pce (u s).2.1 S.bs),pol (u s).2.2.2 S.ss⟩:St)=Sx s:=by intro s;dsimp only[go_sem]<;>exact rfl):V c fn K (x::k) S:=h J
theorem Mm {b:EC} {body:σ→Option (σ ⊕ β)} {s0:σ} {r:β} (h:loop body s0=some r) (ks:List Nat) (u:σ→List (Nat×AV)×List (Nat×Nat×AV)×List (Nat×Option Blk)×List (Nat×Option Sl)) {Sx:σ→St}
 (hb:∀n s y,body s=some y→(∀s',y = .inl s'→V c fn K (.lp b n::k) (Sx s'))→(∀r',y = .inr r'→r'=r)→V c fn K (.code b :: .lp b n::k) (Sx s)) (_hS:∀s,(⟨pq (u s).1 (kp false ks S.tm),pol (u s).2.2.1 (pce (u s).2.1 S.bs),pol (u s).2.2.2 S.ss⟩:St)=Sx s:=by intro s;dsimp only[go_sem]<;>exact rfl)
 (h0:S.le (Sx s0):=by simp [go_sem]) (hok:∀s,(Sx s).ok=true:=by intro s;first | rfl | simp [go_sem]) (h6:Z5 c.np (Zw (Sx s0).bs)=true:=by rfl) (hqn:Z5 c.nq (Zw (Sx s0).ss)=true:=by rfl):V c fn K (.code (.loop b)::k) S:=Zfc h Sx h0 hok hb h6 hqn
variable {α:Type} {d:Option Nat} {g:Option (Nat×Bool)} {l:List EOp} {f:Nat} {xs:List X} {args:List AV} {M:Option α} {F:α→Option β} {r:β} {res:α→AV} {S':St}
theorem VB (h:M.bind F=some r) (J:∀ {x},M=some x→Zz6 c.P f args (res x)) (U:∀x,M=some x→F x=some r→V c fn K (.ops l::k) (S.put d (res x)))
 (ha:AV.le.leL (Z71 S xs) args:=by first | exact Zrb _ | simp [go_sem]) (hp:puL args=true:=by first | rfl | simp [go_sem]) (hg:gm S g:=by trivial):V c fn K (.ops (⟨d,g,.call f xs⟩::l)::k) S:=have ⟨_,e,h⟩:=Bs h;VC (J e) (U _ e h) ha hp hg
theorem VN (hs:Zxc S S') (h:M.bind F=some r) (J:∀ {x},M=some x→Zz6 c.P f args (res x)) (U:∀x,M=some x→F x=some r→V c fn K (.ops l::k) (S.put d (res x)))
 (ha:AV.le.leL (Z71 S' xs) args:=by first | exact Zrb _ | simp [go_sem]) (hp:puL args=true:=by first | rfl | simp [go_sem]) (h6:∀x,(res x).flat=true:=by intro x;rfl) (hg:gm S g:=by trivial):V c fn K (.ops (⟨d,g,.call f xs⟩::l)::k) S:=have ⟨x,e,h⟩:=Bs h;VL hs (J e) (U _ e h) ha hp (h6 x) hg
theorem VR (pb ps:List Nat) (B Q:Nat) {bs:List (Option Blk)} {ss:List (Option Sl)} {v:α→AV} {bs':α→List (Option Blk)} {ss':α→List (Option Sl)} (h:M.bind F=some r) (h0:∀ {x},M=some x→Z1f c.P f args bs ss (v x) (bs' x) (ss' x))
  (J:∀x,M=some x→F x=some r→V c fn K (.ops l::k) ((⟨S.tm,mrg (mkm pb B 0) S.bs (spr (Zki B) pb (Zji pb ps B Q (bs' x))),mrg (mkm ps Q 0) S.ss (spr (Zki Q) ps (ss' x))⟩:St).put d ((v x).rnF pb ps B Q))) (hb:Zw pb=Zw bs:=by rfl) (hs:Zw ps=Zw ss:=by rfl) (hpb:Zmi B pb=true:=by rfl) (hps:Zmi Q ps=true:=by rfl) (hp:Zk1 ss=true:=by first | rfl | simp [go_sem]) (hp':∀x,Zk1 (ss' x)=true:=by intro x;first | rfl | simp [go_sem])
  (h6:msk (mkm pb B 0) S.bs=spr (Zki B) pb (Zji pb ps B Q bs):=by rfl) (h8:msk (mkm ps Q 0) S.ss=spr (Zki Q) ps ss:=by rfl) (ha:AV.le.leL (Z71 S xs) (Zii pb ps B Q args):=by first | exact Zrb _ | simp [go_sem]) (hg:gm S g:=by trivial):V c fn K (.ops (⟨d,g,.call f xs⟩::l)::k) S:=
 have ⟨x,e,h⟩:=Bs h;V_cR pb ps B Q (h0 e) (J _ e h) hb hs hpb hps hp (hp' x) h6 h8 ha hg
end
section
variable {c:Ctx} {all:Array Oper} {ops:List EOp} {af:List (List Nat)} {Φ:St→Prop} {m:Nat} {ld:List Bool} {S S':St} {α β:Type} {i f:Nat} {xs:List X} {args:List AV} {M:Option α} {F:α→Option β} {r:β} {res:α→AV}
theorem GB (h6:all.toList.mapM (Ze c.P all)=some ops) (h:M.bind F=some r) (J:∀ {x},M=some x→Zz6 c.P f args (res x)) (U:∀x,M=some x→F x=some r→G c all ops af Φ m (Zu1 ld i) (S.put (Zy1 ops i).d (res x))) (Y:(Zy1 ops i).o = .call f xs:=by exact rfl) (hg:gm S (Zy1 ops i).g:=by trivial)
 (ha:AV.le.leL (Z71 S xs) args:=by first | exact Zrb _ | simp [go_sem]) (hp:puL args=true:=by first | rfl | simp [go_sem]):GO c all ops af Φ m ld S i:=have ⟨_,e,h⟩:=Bs h;GC h6 (J e) (U _ e h) Y hg ha hp
theorem GQ (h6:all.toList.mapM (Ze c.P all)=some ops) (hs:Zxc S S') (h:M.bind F=some r) (J:∀ {x},M=some x→Zz6 c.P f args (res x)) (U:∀x,M=some x→F x=some r→G c all ops af Φ m (Zu1 ld i) (S.put (Zy1 ops i).d (res x))) (Y:(Zy1 ops i).o = .call f xs:=by exact rfl) (hg:gm S (Zy1 ops i).g:=by trivial)
 (ha:AV.le.leL (Z71 S' xs) args:=by first | exact Zrb _ | simp [go_sem]) (hp:puL args=true:=by first | rfl | simp [go_sem]) (h8:∀x,(res x).flat=true:=by intro x;rfl):GO c all ops af Φ m ld S i:=have ⟨x,e,h⟩:=Bs h;GK h6 hs (J e) (U _ e h) Y hg ha hp (h8 x)
theorem GR (h6:all.toList.mapM (Ze c.P all)=some ops) (pb ps:List Nat) (B Q:Nat) {bs:List (Option Blk)} {ss:List (Option Sl)} {v:α→AV} {bs':α→List (Option Blk)} {ss':α→List (Option Sl)} (h:M.bind F=some r) (h0:∀ {x},M=some x→Z1f c.P f args bs ss (v x) (bs' x) (ss' x))
  (J:∀x,M=some x→F x=some r→G c all ops af Φ m (Zu1 ld i) ((⟨S.tm,S.bs,mrg (mkm ps Q 0) S.ss (spr (Zki Q) ps (ss' x))⟩:St).put (Zy1 ops i).d ((v x).rnF pb ps B Q))) (hb:Zw pb=Zw bs:=by rfl) (hs:Zw ps=Zw ss:=by rfl) (hpb:Zmi B pb=true:=by rfl) (hps:Zmi Q ps=true:=by rfl) (hp:Zk1 ss=true:=by first | rfl | simp [go_sem]) (hp':∀x,Zk1 (ss' x)=true:=by intro x;first | rfl | simp [go_sem]) (ho:(Zy1 ops i).o = .call f xs:=by exact rfl) (hg:gm S (Zy1 ops i).g:=by trivial)
  (h8:msk (mkm pb B 0) S.bs=spr (Zki B) pb (Zji pb ps B Q bs):=by rfl) (h9:msk (mkm ps Q 0) S.ss=spr (Zki Q) ps ss:=by rfl) (hc:∀x,mrg (mkm pb B 0) S.bs (spr (Zki B) pb (Zji pb ps B Q (bs' x)))=S.bs:=by intro x;rfl) (ha:AV.le.leL (Z71 S xs) (Zii pb ps B Q args):=by first | exact Zrb _ | simp [go_sem]):GO c all ops af Φ m ld S i:=
 have ⟨x,e,h⟩:=Bs h;Znj h6 pb ps B Q (h0 e) (J _ e h) hb hs hpb hps hp (hp' x) ho hg h8 h9 (hc x) ha
theorem GF (h6:all.toList.mapM (Ze c.P all)=some ops) (pb ps:List Nat) (B Q:Nat) {bs:List (Option Blk)} {ss:List (Option Sl)} {v:α→AV} {bs':α→List (Option Blk)} {ss':α→List (Option Sl)} (h:M.bind F=some r) (h0:∀ {x},M=some x→Z1f c.P f args bs ss (v x) (bs' x) (ss' x))
  (J:∀x,M=some x→F x=some r→G c all ops af Φ m (Zu1 ld i) ((⟨S.tm,mrg (mkm pb B 0) S.bs (spr (Zki B) pb (Zji pb ps B Q (bs' x))),mrg (mkm ps Q 0) S.ss (spr (Zki Q) ps (ss' x))⟩:St).put (Zy1 ops i).d ((v x).rnF pb ps B Q))) (h8:Zoh af i ops 0=true:=by kernel_rfl) (hb:Zw pb=Zw bs:=by rfl) (hs:Zw ps=Zw ss:=by rfl) (hpb:Zmi B pb=true:=by rfl) (hps:Zmi Q ps=true:=by rfl) (hp:Zk1 ss=true:=by first | rfl | simp [go_sem]) (hp':∀x,Zk1 (ss' x)=true:=by intro x;first | rfl | simp [go_sem]) (ho:(Zy1 ops i).o = .call f xs:=by exact rfl) (hg:gm S (Zy1 ops i).g:=by trivial)
  (h9:msk (mkm pb B 0) S.bs=spr (Zki B) pb (Zji pb ps B Q bs):=by rfl) (hc:msk (mkm ps Q 0) S.ss=spr (Zki Q) ps ss:=by rfl) (ha:AV.le.leL (Z71 S xs) (Zii pb ps B Q args):=by first | exact Zrb _ | simp [go_sem]):GO c all ops af Φ m ld S i:=
 have ⟨x,e,h⟩:=Bs h;Zoj h6 pb ps B Q (h0 e) (J _ e h) h8 hb hs hpb hps hp (hp' x) ho hg h9 hc ha
end
end NX
end Go.Proofs.YtgamgemlekpepaaGreat
