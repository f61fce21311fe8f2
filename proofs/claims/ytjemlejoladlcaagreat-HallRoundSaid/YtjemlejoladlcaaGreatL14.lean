/-
  Straight code walked by a tactic. No statement of the seat is proved here.
-/
import Derived.Test.YtjemlejoladlcaaGreatL13
namespace Go.Proofs.YtjemlejoladlcaaGreat
namespace NX
open Go
@[go_sem] def oa:AV→Bool
  | .bv _=>false
  | _=>true
@[go_sem] def ew (S:St) (o:EOp):Bool:=
  match (match o.g with | some (t,_)=>oa (AJ S.tm t) | none=>true) with
  | true=>match o.o with
    | .pick c _ _=>oa (S.x c)
    | _=>true
  | false=>false
@[go_sem] def BX (d:Nat):Nat→List It→St→Prop→List It×St×Prop
  | 0,k,S,p=>(k,S,p)
  | _+1,[],S,p=>([],S,p)
  | m+1,.blk i::k,S,p=>match AA (Aa k+1) d with
    | true=>(.blk i::k,S,p)
    | false=>BX d m k S p
  | m+1,.sc c::k,S,p=>match AA (Aa k+1) d with
    | true=>(.sc c::k,S,p)
    | false=>BX d m k S p
  | _+1,.lp b n::k,S,p=>(.lp b n::k,S,p)
  | m+1,.ops []::k,S,p=>BX d m k S p
  | m+1,.ops (o::l)::k,S,p=>match ew S o with
    | true=>match Jf S o with
      | some r=>BX d m (.ops l::k) r.1 (p∧r.2)
      | none=>(.ops (o::l)::k,S,p)
    | false=>(.ops (o::l)::k,S,p)
  | m+1,.code .skip::k,S,p=>match AA (Aa k+1) d with
    | true=>(.code .skip::k,S,p)
    | false=>BX d m k S p
  | m+1,.code (.seq a b)::k,S,p=>match AA (Aa k+1) d with
    | true=>(.code (.seq a b)::k,S,p)
    | false=>BX d m (.code a :: .code b::k) S p
  | m+1,.code (.blk id a)::k,S,p=>match AA (Aa k+1) d with
    | true=>(.code (.blk id a)::k,S,p)
    | false=>BX d m (.code a :: .blk id::k) S p
  | m+1,.code (.reg l)::k,S,p=>match AA (Aa k+1) d with
    | true=>(.code (.reg l)::k,S,p)
    | false=>BX d m (.ops l::k) S p
  | m+1,.code (.exit id)::k,S,p=>match AA (Aa k+1) d with
    | true=>(.code (.exit id)::k,S,p)
    | false=>match ET id k with
      | some k'=>BX d m k' S p
      | none=>(.code (.exit id)::k,S,p)
  | m+1,.code (.ite x a b)::k,S,p=>match AA (Aa k+1) d with
    | true=>(.code (.ite x a b)::k,S,p)
    | false=>match S.x x with
      | .tt=>BX d m (.code a::k) S p
      | .ff=>BX d m (.code b::k) S p
      | _=>(.code (.ite x a b)::k,S,p)
  | _+1,.code c::k,S,p=>(.code c::k,S,p)
theorem FG (d:Nat):∀(m:Nat) (k:List It) (S:St) (p:Prop),∃n,run n k S p=BX d m k S p
 | 0,k,S,p=>⟨0,by simp [run,BX]⟩
 | m+1,k,S,p=>by
   have st:∀k S p,BX d (m+1) k S p=(k,S,p)→∃n,run n k S p=BX d (m+1) k S p:=fun k S p h=>⟨0,by rw [h];simp [run]⟩
   match k with
   | []=>exact st _ _ _ rfl
   | .blk i::k=>
     cases hd:AA (Aa k+1) d with
     | true=>exact st _ _ _ (by simp [BX,hd])
     | false=>obtain ⟨n,h⟩:=FG d m k S p;exact ⟨n+1,by simpa [run,BX,hd] using h⟩
   | .sc i::k=>
     cases hd:AA (Aa k+1) d with
     | true=>exact st _ _ _ (by simp [BX,hd])
     | false=>obtain ⟨n,h⟩:=FG d m k S p;exact ⟨n+1,by simpa [run,BX,hd] using h⟩
   | .lp b n::k=>exact st _ _ _ rfl
   | .ops []::k=>obtain ⟨n,h⟩:=FG d m k S p;exact ⟨n+1,by simpa [run,BX] using h⟩
   | .ops (o::l)::k=>
     cases ht:ew S o with
     | false=>exact st _ _ _ (by simp [BX,ht])
     | true=>
       cases he:Jf S o with
       | none=>exact st _ _ _ (by simp [BX,ht,he])
       | some r=>obtain ⟨n,h⟩:=FG d m (.ops l::k) r.1 (p∧r.2);exact ⟨n+1,by simpa [run,BX,ht,he] using h⟩
   | .code c::k=>
     cases hd:AA (Aa k+1) d with
     | true=>exact st _ _ _ (by cases c<;>simp [BX,hd])
     | false=>
       cases c with
       | skip=>obtain ⟨n,h⟩:=FG d m k S p;exact ⟨n+1,by simpa [run,BX,hd] using h⟩
       | seq a b=>obtain ⟨n,h⟩:=FG d m (.code a :: .code b::k) S p;exact ⟨n+1,by simpa [run,BX,hd] using h⟩
       | blk id a=>obtain ⟨n,h⟩:=FG d m (.code a :: .blk id::k) S p;exact ⟨n+1,by simpa [run,BX,hd] using h⟩
       | reg l=>obtain ⟨n,h⟩:=FG d m (.ops l::k) S p;exact ⟨n+1,by simpa [run,BX,hd] using h⟩
       | exit id=>
         cases hu:ET id k with
         | none=>exact st _ _ _ (by simp [BX,hu,hd])
         | some k'=>obtain ⟨n,h⟩:=FG d m k' S p;exact ⟨n+1,by simpa [run,BX,hu,hd] using h⟩
       | ite x a b=>
         cases hx:S.x x with
         | tt=>obtain ⟨n,h⟩:=FG d m (.code a::k) S p;exact ⟨n+1,by simpa [run,BX,hx,hd] using h⟩
         | ff=>obtain ⟨n,h⟩:=FG d m (.code b::k) S p;exact ⟨n+1,by simpa [run,BX,hx,hd] using h⟩
         | _=>exact st _ _ _ (by simp [BX,hx,hd])
       | _=>exact st _ _ _ rfl
@[go_sem] def Mg:List It→St→Bool
  | [],_=>false
  | .lp _ _::_,_=>false
  | .ops (o::_)::_,S=>match ew S o with
    | true=>(Jf S o).isSome
    | false=>false
  | .code c::k,S=>match c with
    | .skip | .seq _ _ | .blk _ _ | .reg _=>true
    | .exit id=>(ET id k).isSome
    | .ite x _ _=>match S.x x with
      | .tt | .ff=>true
      | _=>false
    | _=>false
  | _,_=>true
@[go_sem,reducible] def eQ (f:Func) (q:cF Tryz.prog f=cF Tryz.prog f→DP f:=by intro h;(conv at h=>rhs;reduce);dsimp only[go_sem] at h;exact ⟨_,h⟩):EC:=(q rfl).1
theorem oJ (f:Nat) (fn:Func) (rs:List ERes) (np nt:Nat) {x:Code} (q:cF Tryz.prog fn=cF Tryz.prog fn→DP fn:=by intro h;(conv at h=>rhs;reduce);dsimp only[go_sem] at h;exact ⟨_,h⟩) (h:Tryz.prog.funcs[f]?=some fn:=by kernel_rfl) (hb:fn.body=some x:=by exact rfl) (hc:cC Tryz.prog x=some (q rfl).1:=by kernel_rfl) (r:Fo Tryz.prog fn.results.toList=some rs:=by kernel_rfl) (t:fn.ntmps=np+nt:=by kernel_rfl):FnOK Tryz.prog f fn (q rfl).1 rs np nt:=⟨h,⟨x,hb,hc⟩,r,t⟩
theorem oK (f:Nat) (fn:Func) (body:EC) (rs:List ERes) (np nt:Nat) {x:Code} (h:Tryz.prog.funcs[f]?=some fn:=by kernel_rfl) (hb:fn.body=some x:=by exact rfl) (hc:cC Tryz.prog x=some body:=by kernel_rfl) (r:Fo Tryz.prog fn.results.toList=some rs:=by kernel_rfl) (t:fn.ntmps=np+nt:=by kernel_rfl):FnOK Tryz.prog f fn body rs np nt:=⟨h,⟨x,hb,hc⟩,r,t⟩
section
variable {c:Ctx} {S S':St} {fn:Func} {K:AV→List (Option Blk)→List (Option Sl)→Prop} {k k':List It} {p:Prop} {β:Type}
theorem FV {σ:Type} {m:σ→Option β} {r:β} {Sx:σ→St} {E:List It} (_J:∀s,m s=some r→V c fn K E (Sx s)) (h:V c fn K k' S') (_hd:AA (Aa k) (Aa E)=false:=by exact rfl) (_hg:Mg k S=true:=by exact rfl) (he:BX (Aa E) 400 k S True=(k',S',p):=by dsimp only[go_sem]<;>exact rfl) (hp:p:=by simp;done):V c fn K k S:=by obtain ⟨n,hn⟩:=FG (Aa E) 400 k S True;exact Vg n h (hn.trans he) hp
theorem Vs (h:V c fn K k' S') (_hg:Mg k S=true:=by exact rfl) (he:BX 0 400 k S True=(k',S',p):=by dsimp only[go_sem]<;>exact rfl) (hp:p:=by simp;done):V c fn K k S:=by obtain ⟨n,hn⟩:=FG 0 400 k S True;exact Vg n h (hn.trans he) hp
theorem MG {t:Nat} {b:Bool} {o:EOp} {l:List EOp} {e:Bool} {A B:Option β} {r:β} (h:A0 e A B=some r) (h1:A=some r→V c fn K (.ops (o::l)::k) ⟨BL S.tm t .tt,S.bs,S.ss⟩) (h2:B=some r→V c fn K (.ops (o::l)::k) ⟨BL S.tm t .ff,S.bs,S.ss⟩) (_hg:o.g=some (t,b):=by exact rfl) (ht:AJ S.tm t = .bv e:=by exact rfl):V c fn K (.ops (o::l)::k) S:=MC t h h1 h2 ht
theorem MP {t:Nat} {x y:X} {o:EOp} {l:List EOp} {e:Bool} {A B:Option β} {r:β} (h:A0 e A B=some r) (h1:A=some r→V c fn K (.ops (o::l)::k) ⟨BL S.tm t .tt,S.bs,S.ss⟩) (h2:B=some r→V c fn K (.ops (o::l)::k) ⟨BL S.tm t .ff,S.bs,S.ss⟩) (_hg:o.o = .pick (.t t) x y:=by exact rfl) (ht:AJ S.tm t = .bv e:=by exact rfl):V c fn K (.ops (o::l)::k) S:=MC t h h1 h2 ht
theorem Vi {α:Type} {l':List α} {i:Int} {v:α} {d:Option Nat} {g:Option (Nat×Bool)} {n m:Nat} {x y:X} {l:List EOp} {f:α→List AV} (hv:A4 l' i=some v) (h':V c fn K (.ops l::k) (S.put d (.elt (f v) 0))) (hx:S.x x = .sl m (l'.map f):=by exact rfl) (hi:S.x y = .iv i:=by exact rfl) (h6:m=n:=by exact rfl) (hg:gm S g:=by trivial):V c fn K (.ops (⟨d,g,.idx n x y⟩::l)::k) S:=AZ f hv hg hx hi h6 h'
theorem Vj {α:Type} {l':List α} {z:Int} {v:α} {d:Option Nat} {g:Option (Nat×Bool)} {l:List EOp} {T n j:Nat} {x i:X} {f:α→List AV} (hv:A4 l' z=some v) (h':V c fn K (.ops l::k) (S.put d (.oel j (z.toNat*n) 0))) (hx:S.x x = .osl j:=by exact rfl) (hi:S.x i = .iv z:=by exact rfl) (hj:A2 S.ss j=some ⟨T,n,l'.map f⟩:=by exact rfl) (hg:gm S g:=by trivial):V c fn K (.ops (⟨d,g,.idx n x i⟩::l)::k) S:=BR f hv hg hx hi hj h'
end
theorem Wd {P:Program} {w0:World} {H0:Frag} {f:Nat} {fn:Func} {body:EC} {rs:List ERes} {np nt:Nat} {β:Type} {e r:β} {T:AV} {S:St} {k:List It} (ok:FnOK P f fn body rs np nt) (h:some e=some r)
 (hl:e=r→Ks (DD S rs) T:=by rintro rfl;first | exact le_refl _ | (simp [go_sem];done)):V (Ctx.of P w0 H0) fn (fun x _ _=>x.le T) (.code .ret::k) S:=MD ok h hl
theorem We {P:Program} {w0:World} {H0:Frag} {f:Nat} {fn:Func} {body:EC} {rs:List ERes} {np nt:Nat} {β:Type} {e r:β} {T:AV} {S:St} (ok:FnOK P f fn body rs np nt) (h:some e=some r)
 (hl:e=r→Ks (DD S rs) T:=by rintro rfl;first | exact le_refl _ | (simp [go_sem];done)):V (Ctx.of P w0 H0) fn (fun x _ _=>x.le T) [] S:=MS ok h hl
section
variable {c:Ctx} {f:Nat} {fn:Func} {body:EC} {rs:List ERes} {np nt:Nat} {k:List It} {S:St} {v:AV} {bs':List (Option Blk)} {ss':List (Option Sl)} {β:Type} {e r:β}
theorem Td (ok:FnOK c.P f fn body rs np nt) (h:some e=some r) (hl:e=r→∃x,DD S rs=some x∧St.le ⟨[x],S.bs,S.ss⟩ ⟨[v],bs',ss'⟩:=by rintro rfl;exact ⟨_,rfl,by (simp [go_sem];done)⟩):V c fn (fun x b s=>St.le ⟨[x],b,s⟩ ⟨[v],bs',ss'⟩) (.code .ret::k) S:=have ⟨_,a,b⟩:=hl (Option.some.inj h);fe ok a b
theorem Ts (ok:FnOK c.P f fn body rs np nt) (h:some e=some r) (hl:e=r→∃x,DD S rs=some x∧St.le ⟨[x],S.bs,S.ss⟩ ⟨[v],bs',ss'⟩:=by rintro rfl;exact ⟨_,rfl,by (simp [go_sem];done)⟩):V c fn (fun x b s=>St.le ⟨[x],b,s⟩ ⟨[v],bs',ss'⟩) [] S:=have ⟨_,a,b⟩:=hl (Option.some.inj h);p7 ok a b
end
section
variable {c:Ctx} {fn:Func} {K:AV→List (Option Blk)→List (Option Sl)→Prop} {k:List It} {S:St} {σ β:Type}
theorem Wt {m:σ→Option β} {r:β} {s:σ} {Sx:σ→St} (J:∀s,m s=some r→V c fn K k (Sx s)) (h:m s=some r) (hle:S.le (Sx s):=by (simp [go_sem];done)) (hok:(Sx s).ok=true:=by first | rfl | (simp [go_sem];done)) (h6:AA c.np (Aa (Sx s).bs)=true:=by rfl) (hqn:AA c.nq (Aa (Sx s).ss)=true:=by rfl):V c fn K k S:=AQ J h hle hok h6 hqn
theorem Wb {s':σ} {y:σ ⊕ β} {Sx:σ→St} (h:some (Sum.inl s')=some y) (h6:∀s',y = .inl s'→V c fn K k (Sx s')) (hle:S.le (Sx s'):=by (simp [go_sem];done)) (hok:(Sx s').ok=true:=by first | rfl | (simp [go_sem];done)) (h8:AA c.np (Aa (Sx s').bs)=true:=by rfl) (hqn:AA c.nq (Aa (Sx s').ss)=true:=by rfl):V c fn K k S:=Da h h6 hle hok h8 hqn
end
@[go_sem] def gt:List AV→List AV
  | []=>[]
  | _::l=>.any::gt l
@[go_sem] def gu:Nat→(List AV→List AV)→List AV→List AV
  | 0,f,l=>f l
  | _+1,_,[]=>[]
  | n+1,f,_::l=>.any::gu n f l
@[go_sem] def iY:Nat→(List AV→List AV)→List AV→List AV
  | 0,f,l=>f l
  | _+1,_,[]=>[]
  | n+1,f,x::l=>x::iY n f l
@[go_sem] def kp:Bool→List Nat→List AV→List AV
  | _,[],l=>gt l
  | false,n::r,l=>gu n (kp true r) l
  | true,n::r,l=>iY n (kp false r) l
@[go_sem] def pq:List (Nat×AV)→List AV→List AV
  | [],l=>l
  | (i,v)::r,l=>pq r (BL l i v)
theorem Vk {c:Ctx} {fn:Func} {K:AV→List (Option Blk)→List (Option Sl)→Prop} {k:List It} {S:St} {σ β:Type} {x:It} (ks:List Nat) (u:σ→List (Nat×AV)) (m:σ→Option β) (r:β) {Sx:σ→St} (E:∀s,m s=some r→V c fn K k (Sx s)) (h:(∀s,m s=some r→V c fn K k (Sx s))→V c fn K (x::k) S)
 (_hS:∀s,(⟨pq (u s) (kp false ks S.tm),S.bs,S.ss⟩:St)=Sx s:=by intro s;dsimp only[go_sem]<;>exact rfl):V c fn K (x::k) S:=h E
theorem Vl {c:Ctx} {fn:Func} {K:AV→List (Option Blk)→List (Option Sl)→Prop} {k:List It} {S:St} {σ β:Type} {x:It} (ks:List Nat) (u:σ→List (Nat×AV)×List (Option Blk)×List (Option Sl)) (m:σ→Option β) (r:β) {Sx:σ→St} (E:∀s,m s=some r→V c fn K k (Sx s)) (h:(∀s,m s=some r→V c fn K k (Sx s))→V c fn K (x::k) S)
 (_hS:∀s,(⟨pq (u s).1 (kp false ks S.tm),(u s).2.1,(u s).2.2⟩:St)=Sx s:=by intro s;dsimp only[go_sem]<;>exact rfl):V c fn K (x::k) S:=h E
theorem Ml {c:Ctx} {fn:Func} {K:AV→List (Option Blk)→List (Option Sl)→Prop} {k:List It} {S:St} {σ β:Type} {b:EC} {body:σ→Option (σ ⊕ β)} {s0:σ} {r:β} (h:loop body s0=some r) (ks:List Nat) (u:σ→List (Nat×AV)×List (Option Blk)×List (Option Sl)) {Sx:σ→St}
 (hb:∀n s y,body s=some y→(∀s',y = .inl s'→V c fn K (.lp b n::k) (Sx s'))→(∀r',y = .inr r'→r'=r)→V c fn K (.code b :: .lp b n::k) (Sx s)) (_hS:∀s,(⟨pq (u s).1 (kp false ks S.tm),(u s).2.1,(u s).2.2⟩:St)=Sx s:=by intro s;dsimp only[go_sem]<;>exact rfl)
 (h0:S.le (Sx s0):=by simp [go_sem]) (hok:∀s,(Sx s).ok=true:=by intro s;first | rfl | simp [go_sem]) (h6:AA c.np (Aa (Sx s0).bs)=true:=by rfl) (hqn:AA c.nq (Aa (Sx s0).ss)=true:=by rfl):V c fn K (.code (.loop b)::k) S:=Zy h Sx h0 hok hb h6 hqn
theorem Mk {c:Ctx} {fn:Func} {K:AV→List (Option Blk)→List (Option Sl)→Prop} {k:List It} {S:St} {σ β:Type} {b:EC} {body:σ→Option (σ ⊕ β)} {s0:σ} {r:β} (h:loop body s0=some r) (ks:List Nat) (u:σ→List (Nat×AV)) {Sx:σ→St}
 (hb:∀n s y,body s=some y→(∀s',y = .inl s'→V c fn K (.lp b n::k) (Sx s'))→(∀r',y = .inr r'→r'=r)→V c fn K (.code b :: .lp b n::k) (Sx s)) (_hS:∀s,(⟨pq (u s) (kp false ks S.tm),S.bs,S.ss⟩:St)=Sx s:=by intro s;dsimp only[go_sem]<;>exact rfl)
 (h0:S.le (Sx s0):=by simp [go_sem]) (hok:∀s,(Sx s).ok=true:=by intro s;first | rfl | simp [go_sem]) (h6:AA c.np (Aa (Sx s0).bs)=true:=by rfl) (hqn:AA c.nq (Aa (Sx s0).ss)=true:=by rfl):V c fn K (.code (.loop b)::k) S:=Zy h Sx h0 hok hb h6 hqn
theorem W {p:Prop} (hp:p:=by
 try dsimp only
 repeat' first
  | (with_reducible have h:=BY h hout3)
  | (with_reducible have h:=BY h hout2)
  | (with_reducible have h:=BY h hout1)
  | exact Wt J1 h
  | exact Wt J2 h
  | exact Wt J3 h
  | exact Wt J4 h
  | exact Wt J5 h
  | exact Wt J6 h
  | exact Wt J7 h
  | exact Wt J8 h
  | exact Wt J9 h
  | exact Wt J10 h
  | exact Wt J11 h
  | exact Wt J12 h
  | exact Wd ok h
  | exact We ok h
  | exact Td ok h
  | exact Ts ok h
  | exact Wb h hin1
  | exact Wb h hin2
  | exact Wb h hin3
  | refine FV J12 ?_
  | refine FV J11 ?_
  | refine FV J10 ?_
  | refine FV J9 ?_
  | refine FV J8 ?_
  | refine FV J7 ?_
  | refine FV J6 ?_
  | refine FV J5 ?_
  | refine FV J4 ?_
  | refine FV J3 ?_
  | refine FV J2 ?_
  | refine FV J1 ?_
  | refine Vs ?_
  | refine MI h (fun h=>?_) fun h=>?_
  | refine MG h (fun h=>?_) fun h=>?_
  | refine MP h (fun h=>?_) fun h=>?_
  | (have ⟨_,ex,h⟩:=Bs h;first | refine Vi ex ?_ | refine Vj ex ?_)):p:=hp
end NX
end Go.Proofs.YtjemlejoladlcaaGreat
/-
  Shorter ways of saying the same: what is simplified, states told by what changes. No statement of the seat is proved here.
-/
namespace Go.Proofs.YtjemlejoladlcaaGreat
namespace NX
open Go
theorem Ds {p q:Prop} (h:q) (he:p=q:=by dsimp only[go_sem]<;>exact rfl):p:=he ▸ h
@[go_sem] def k9:List (Option Blk)→Nat→Nat→AV→List (Option Blk)
  | [],_,_,_=>[]
  | none::l,0,_,_=>none::l
  | some B::l,0,o,v=>some ⟨B.T,BL B.cells o v⟩::l
  | x::l,i+1,o,v=>x::k9 l i o v
@[go_sem] def de:List (Nat×Nat×AV)→List (Option Blk)→List (Option Blk)
  | [],l=>l
  | (i,o,v)::r,l=>de r (k9 l i o v)
@[go_sem] def U9 {α:Type}:List (Nat×Option α)→List (Option α)→List (Option α)
  | [],l=>l
  | (i,x)::r,l=>U9 r (Ar l i x)
section
variable {c:Ctx} {fn:Func} {K:AV→List (Option Blk)→List (Option Sl)→Prop} {k:List It} {S:St} {σ β:Type}
theorem Vm {x:It} (ks:List Nat) (u:σ→List (Nat×AV)×List (Nat×Nat×AV)×List (Nat×Option Blk)×List (Nat×Option Sl)) (m:σ→Option β) (r:β) {Sx:σ→St} (E:∀s,m s=some r→V c fn K k (Sx s)) (h:(∀s,m s=some r→V c fn K k (Sx s))→V c fn K (x::k) S)
 (_hS:∀s,(⟨pq (u s).1 (kp false ks S.tm),U9 (u s).2.2.1 (de (u s).2.1 S.bs),U9 (u s).2.2.2 S.ss⟩:St)=Sx s:=by intro s;dsimp only[go_sem]<;>exact rfl):V c fn K (x::k) S:=h E
theorem Mm {b:EC} {body:σ→Option (σ ⊕ β)} {s0:σ} {r:β} (h:loop body s0=some r) (ks:List Nat) (u:σ→List (Nat×AV)×List (Nat×Nat×AV)×List (Nat×Option Blk)×List (Nat×Option Sl)) {Sx:σ→St}
 (hb:∀n s y,body s=some y→(∀s',y = .inl s'→V c fn K (.lp b n::k) (Sx s'))→(∀r',y = .inr r'→r'=r)→V c fn K (.code b :: .lp b n::k) (Sx s)) (_hS:∀s,(⟨pq (u s).1 (kp false ks S.tm),U9 (u s).2.2.1 (de (u s).2.1 S.bs),U9 (u s).2.2.2 S.ss⟩:St)=Sx s:=by intro s;dsimp only[go_sem]<;>exact rfl)
 (h0:S.le (Sx s0):=by simp [go_sem]) (hok:∀s,(Sx s).ok=true:=by intro s;first | rfl | simp [go_sem]) (h6:AA c.np (Aa (Sx s0).bs)=true:=by rfl) (hqn:AA c.nq (Aa (Sx s0).ss)=true:=by rfl):V c fn K (.code (.loop b)::k) S:=Zy h Sx h0 hok hb h6 hqn
variable {α:Type} {d:Option Nat} {g:Option (Nat×Bool)} {l:List EOp} {f:Nat} {xs:List X} {args:List AV} {M:Option α} {F:α→Option β} {r:β} {res:α→AV} {S':St}
theorem VB (h:M.bind F=some r) (hf:∀ {x},M=some x→Cd c.P f args (res x)) (hn:∀x,M=some x→F x=some r→V c fn K (.ops l::k) (S.put d (res x)))
 (ha:AV.le.leL (B8 S xs) args:=by first | exact Am _ | simp [go_sem]) (hp:AD args=true:=by first | rfl | simp [go_sem]) (hg:gm S g:=by trivial):V c fn K (.ops (⟨d,g,.call f xs⟩::l)::k) S:=have ⟨_,e,h⟩:=Bs h;VC (hf e) (hn _ e h) ha hp hg
theorem VN (hs:Dx S S') (h:M.bind F=some r) (hf:∀ {x},M=some x→Cd c.P f args (res x)) (hn:∀x,M=some x→F x=some r→V c fn K (.ops l::k) (S.put d (res x)))
 (ha:AV.le.leL (B8 S' xs) args:=by first | exact Am _ | simp [go_sem]) (hp:AD args=true:=by first | rfl | simp [go_sem]) (h6:∀x,(res x).flat=true:=by intro x;rfl) (hg:gm S g:=by trivial):V c fn K (.ops (⟨d,g,.call f xs⟩::l)::k) S:=have ⟨x,e,h⟩:=Bs h;VL hs (hf e) (hn _ e h) ha hp (h6 x) hg
theorem VR (pb ps:List Nat) (B Q:Nat) {bs:List (Option Blk)} {ss:List (Option Sl)} {v:α→AV} {bs':α→List (Option Blk)} {ss':α→List (Option Sl)} (h:M.bind F=some r) (h0:∀ {x},M=some x→Cr c.P f args bs ss (v x) (bs' x) (ss' x))
  (hn:∀x,M=some x→F x=some r→V c fn K (.ops l::k) ((⟨S.tm,Bt (Bw pb B 0) S.bs (AH (AP B) pb (BE pb ps B Q (bs' x))),Bt (Bw ps Q 0) S.ss (AH (AP Q) ps (ss' x))⟩:St).put d ((v x).rnF pb ps B Q))) (hb:Aa pb=Aa bs:=by rfl) (hs:Aa ps=Aa ss:=by rfl) (hpb:C3 B pb=true:=by rfl) (hps:C3 Q ps=true:=by rfl) (hp:C7 ss=true:=by first | rfl | simp [go_sem]) (hp':∀x,C7 (ss' x)=true:=by intro x;first | rfl | simp [go_sem])
  (h6:Aq (Bw pb B 0) S.bs=AH (AP B) pb (BE pb ps B Q bs):=by rfl) (h8:Aq (Bw ps Q 0) S.ss=AH (AP Q) ps ss:=by rfl) (ha:AV.le.leL (B8 S xs) (D2 pb ps B Q args):=by first | exact Am _ | simp [go_sem]) (hg:gm S g:=by trivial):V c fn K (.ops (⟨d,g,.call f xs⟩::l)::k) S:=
 have ⟨x,e,h⟩:=Bs h;pc pb ps B Q (h0 e) (hn _ e h) hb hs hpb hps hp (hp' x) h6 h8 ha hg
end
section
variable {c:Ctx} {all:Array Oper} {ops:List EOp} {af:List (List Nat)} {Φ:St→Prop} {m:Nat} {ld:List Bool} {S S':St} {α β:Type} {i f:Nat} {xs:List X} {args:List AV} {M:Option α} {F:α→Option β} {r:β} {res:α→AV}
theorem GB (h6:all.toList.mapM (AL c.P all)=some ops) (h:M.bind F=some r) (hf:∀ {x},M=some x→Cd c.P f args (res x)) (hn:∀x,M=some x→F x=some r→G c all ops af Φ m (Au ld i) (S.put (A8 ops i).d (res x))) (ho:(A8 ops i).o = .call f xs:=by exact rfl) (hg:gm S (A8 ops i).g:=by trivial)
 (ha:AV.le.leL (B8 S xs) args:=by first | exact Am _ | simp [go_sem]) (hp:AD args=true:=by first | rfl | simp [go_sem]):GO c all ops af Φ m ld S i:=have ⟨_,e,h⟩:=Bs h;GC h6 (hf e) (hn _ e h) ho hg ha hp
theorem GQ (h6:all.toList.mapM (AL c.P all)=some ops) (hs:Dx S S') (h:M.bind F=some r) (hf:∀ {x},M=some x→Cd c.P f args (res x)) (hn:∀x,M=some x→F x=some r→G c all ops af Φ m (Au ld i) (S.put (A8 ops i).d (res x))) (ho:(A8 ops i).o = .call f xs:=by exact rfl) (hg:gm S (A8 ops i).g:=by trivial)
 (ha:AV.le.leL (B8 S' xs) args:=by first | exact Am _ | simp [go_sem]) (hp:AD args=true:=by first | rfl | simp [go_sem]) (h8:∀x,(res x).flat=true:=by intro x;rfl):GO c all ops af Φ m ld S i:=have ⟨x,e,h⟩:=Bs h;GK h6 hs (hf e) (hn _ e h) ho hg ha hp (h8 x)
theorem GR (h6:all.toList.mapM (AL c.P all)=some ops) (pb ps:List Nat) (B Q:Nat) {bs:List (Option Blk)} {ss:List (Option Sl)} {v:α→AV} {bs':α→List (Option Blk)} {ss':α→List (Option Sl)} (h:M.bind F=some r) (h0:∀ {x},M=some x→Cr c.P f args bs ss (v x) (bs' x) (ss' x))
  (hn:∀x,M=some x→F x=some r→G c all ops af Φ m (Au ld i) ((⟨S.tm,S.bs,Bt (Bw ps Q 0) S.ss (AH (AP Q) ps (ss' x))⟩:St).put (A8 ops i).d ((v x).rnF pb ps B Q))) (hb:Aa pb=Aa bs:=by rfl) (hs:Aa ps=Aa ss:=by rfl) (hpb:C3 B pb=true:=by rfl) (hps:C3 Q ps=true:=by rfl) (hp:C7 ss=true:=by first | rfl | simp [go_sem]) (hp':∀x,C7 (ss' x)=true:=by intro x;first | rfl | simp [go_sem]) (ho:(A8 ops i).o = .call f xs:=by exact rfl) (hg:gm S (A8 ops i).g:=by trivial)
  (h8:Aq (Bw pb B 0) S.bs=AH (AP B) pb (BE pb ps B Q bs):=by rfl) (h9:Aq (Bw ps Q 0) S.ss=AH (AP Q) ps ss:=by rfl) (hd:∀x,Bt (Bw pb B 0) S.bs (AH (AP B) pb (BE pb ps B Q (bs' x)))=S.bs:=by intro x;rfl) (ha:AV.le.leL (B8 S xs) (D2 pb ps B Q args):=by first | exact Am _ | simp [go_sem]):GO c all ops af Φ m ld S i:=
 have ⟨x,e,h⟩:=Bs h;Gi h6 pb ps B Q (h0 e) (hn _ e h) hb hs hpb hps hp (hp' x) ho hg h8 h9 (hd x) ha
theorem GF (h6:all.toList.mapM (AL c.P all)=some ops) (pb ps:List Nat) (B Q:Nat) {bs:List (Option Blk)} {ss:List (Option Sl)} {v:α→AV} {bs':α→List (Option Blk)} {ss':α→List (Option Sl)} (h:M.bind F=some r) (h0:∀ {x},M=some x→Cr c.P f args bs ss (v x) (bs' x) (ss' x))
  (hn:∀x,M=some x→F x=some r→G c all ops af Φ m (Au ld i) ((⟨S.tm,Bt (Bw pb B 0) S.bs (AH (AP B) pb (BE pb ps B Q (bs' x))),Bt (Bw ps Q 0) S.ss (AH (AP Q) ps (ss' x))⟩:St).put (A8 ops i).d ((v x).rnF pb ps B Q))) (h8:HY af i ops 0=true:=by kernel_rfl) (hb:Aa pb=Aa bs:=by rfl) (hs:Aa ps=Aa ss:=by rfl) (hpb:C3 B pb=true:=by rfl) (hps:C3 Q ps=true:=by rfl) (hp:C7 ss=true:=by first | rfl | simp [go_sem]) (hp':∀x,C7 (ss' x)=true:=by intro x;first | rfl | simp [go_sem]) (ho:(A8 ops i).o = .call f xs:=by exact rfl) (hg:gm S (A8 ops i).g:=by trivial)
  (h9:Aq (Bw pb B 0) S.bs=AH (AP B) pb (BE pb ps B Q bs):=by rfl) (hd:Aq (Bw ps Q 0) S.ss=AH (AP Q) ps ss:=by rfl) (ha:AV.le.leL (B8 S xs) (D2 pb ps B Q args):=by first | exact Am _ | simp [go_sem]):GO c all ops af Φ m ld S i:=
 have ⟨x,e,h⟩:=Bs h;oB h6 pb ps B Q (h0 e) (hn _ e h) h8 hb hs hpb hps hp (hp' x) ho hg h9 hd ha
end
end NX
end Go.Proofs.YtjemlejoladlcaaGreat
/-
  A slice with a third bound to which is appended: names that hold values told ahead. No statement of the seat is proved here.
-/
namespace Go.Proofs.YtjemlejoladlcaaGreat
namespace NX
open Go Go.RowKit
theorem Ft {P:Program} {f:Nat} {fn:Func} {body:EC} {rs:List ERes} {np nt:Nat} (hf:FnOK P f fn body rs np nt) {args tm:List AV} {bs bs':List (Option Blk)} {ss ss':List (Option Sl)} {v:AV}
 (h:∀w M,V (Ctx.lent P w M bs ss (Aa bs) (Aa ss)) fn (fun x b s=>St.le ⟨[x],b,s⟩ ⟨[v],bs',ss'⟩) [.code body] ⟨tm,bs,ss⟩) (he:args++D6 nt=tm:=by dsimp only[D6,List.cons_append,List.nil_append]<;>exact rfl) (hn:args.length=np:=by exact rfl) (h1:AA (Aa bs) (Aa bs')=true:=by exact rfl) (h2:AA (Aa ss) (Aa ss')=true:=by exact rfl) (h3:St.ok ⟨[v],bs',ss'⟩=true:=by first | rfl | simp [go_sem]):Cr P f args bs ss v bs' ss':=FT hf (by rw [he];exact h) hn h1 h2 h3
section
variable {c:Ctx} {M:Mem} {bs:List (Option Blk)} {ss:List (Option Sl)} {S:St} {a:Act} {w:World} {fn:Func} {K:AV→List (Option Blk)→List (Option Sl)→Prop} {k:List It}
end
section
variable {c:Ctx} {S:St} {fn:Func} {K:AV→List (Option Blk)→List (Option Sl)→Prop} {k:List It} {all:Array Oper} {ops:List EOp} {af nap:List (List Nat)} {Φ:St→Prop} {m':Nat} {ld:List Bool} {α:Type} {l v:List α} {b i j q g cap n T:Nat} {z:Int} {f:α→List AV} {x y xh xm:X}
end
section
variable {c:Ctx} {all:Array Oper} {ops:List EOp} {af nap:List (List Nat)} {Φ:St→Prop} {m:Nat} {ld ld':List Bool} {S S' S1:St} {i f:Nat} {α β:Type} {xs:List X} {args:List AV} {M:Option α} {F:α→Option β} {r:β} {res:α→AV} {Sx:α→St}
theorem Bd {l':List α} {z:Int} {y:α} {j T n off q:Nat} {x v:X} {cs0:List AV} {f:α→List AV} (cs:List AV) (y':α) (h:G c all ops af Φ m ld' S') (H:HA c all ops af nap:=by assumption) (hr:Bz ld af 0=[i]:=by exact rfl) (ho:(A8 ops i).o = .store q x v:=by exact rfl) (hg:gm S (A8 ops i).g:=by trivial) (hx:S.x x = .oel j (z.toNat*n) off:=by exact rfl) (hj:A2 S.ss j=some ⟨T,n,l'.map f⟩:=by exact rfl)
  (hv:A4 l' z=some y:=by first | assumption | exact FW (by assumption)) (h6:(S.x v).cells=some cs0:=by exact rfl) (h8:AV.le.leL cs0 cs:=by first | exact Am _ | (simp [go_sem];done)) (hm:Aa cs=q:=by rfl) (h1:Cs cs=true:=by rfl) (hp:AD cs=true:=by rfl) (hl:BM (f y) off cs=some (f y'):=by rfl)
  (hS:(Au ld i,(⟨S.tm,S.bs,Ar S.ss j (some ⟨T,n,(l'.set z.toNat y').map f⟩)⟩:St).put (A8 ops i).d .un)=(ld',S'):=by dsimp only[go_sem]<;>exact rfl):G c all ops af Φ (m+1) ld S:=by
 simp only [Prod.mk.injEq] at hS;obtain ⟨rfl,rfl⟩:=hS;exact A6 i hr (Zs H.1 cs f hv ho hg hx hj h6 h8 hm h1 hp hl h)
theorem BQ {l':List α} {z:Int} {y:α} {j T n off q:Nat} {x v:X} {cs0:List AV} {f:α→List AV} (cs:List AV) (y':α) (h:G c all ops af Φ m ld' S') (H:HA c all ops af nap:=by assumption) (hr:Bz ld af 0=[i]:=by exact rfl) (ho:(A8 ops i).o = .store q x v:=by exact rfl) (hg:gm S (A8 ops i).g:=by trivial) (hx:S.x x = .oel j (z.toNat*n) off:=by exact rfl) (hj:A2 S.ss j=some ⟨T,n,(l'.set z.toNat y).map f⟩:=by exact rfl)
  (hv:A4 (l'.set z.toNat y) z=some y:=by exact FW (by assumption)) (h6:(S.x v).cells=some cs0:=by exact rfl) (h8:AV.le.leL cs0 cs:=by first | exact Am _ | (simp [go_sem];done)) (hm:Aa cs=q:=by rfl) (h1:Cs cs=true:=by rfl) (hp:AD cs=true:=by rfl) (hl:BM (f y) off cs=some (f y'):=by rfl)
  (hS:(Au ld i,(⟨S.tm,S.bs,Ar S.ss j (some ⟨T,n,(l'.set z.toNat y').map f⟩)⟩:St).put (A8 ops i).d .un)=(ld',S'):=by dsimp only[go_sem]<;>exact rfl):G c all ops af Φ (m+1) ld S:=by
 simp only [Prod.mk.injEq] at hS;obtain ⟨rfl,rfl⟩:=hS;exact A6 i hr (oI H.1 cs f hv ho hg hx hj h6 h8 hm h1 hp hl h)
theorem RB (h:M.bind F=some r) (hf:∀ {x},M=some x→Cd c.P f args (res x)) (hn:∀x,M=some x→F x=some r→G c all ops af Φ m ld' (Sx x)) (H:HA c all ops af nap:=by assumption) (hr:Bz ld af 0=[i]:=by exact rfl) (ho:(A8 ops i).o = .call f xs:=by exact rfl) (hg:gm S (A8 ops i).g:=by trivial)
  (ha:AV.le.leL (B8 S xs) args:=by first | exact Am _ | simp [go_sem]) (hp:AD args=true:=by first | rfl | simp [go_sem]) (hS:∀x,(Au ld i,S.put (A8 ops i).d (res x))=(ld',Sx x):=by intro x;dsimp only[go_sem]<;>exact rfl):G c all ops af Φ (m+1) ld S:=
 A6 i hr (GB H.1 h hf (fun x e h'=>by have:=hn x e h';have e2:=hS x;simp only [Prod.mk.injEq] at e2;rw [←e2.1,←e2.2] at this;exact this) ho hg ha hp)
theorem RQ (hs:Dx S S1) (h:M.bind F=some r) (hf:∀ {x},M=some x→Cd c.P f args (res x)) (hn:∀x,M=some x→F x=some r→G c all ops af Φ m ld' (Sx x)) (H:HA c all ops af nap:=by assumption) (hr:Bz ld af 0=[i]:=by exact rfl) (ho:(A8 ops i).o = .call f xs:=by exact rfl) (hg:gm S (A8 ops i).g:=by trivial)
  (ha:AV.le.leL (B8 S1 xs) args:=by first | exact Am _ | simp [go_sem]) (hp:AD args=true:=by first | rfl | simp [go_sem]) (h6:∀x,(res x).flat=true:=by intro x;rfl) (hS:∀x,(Au ld i,S.put (A8 ops i).d (res x))=(ld',Sx x):=by intro x;dsimp only[go_sem]<;>exact rfl):G c all ops af Φ (m+1) ld S:=
 A6 i hr (GQ H.1 hs h hf (fun x e h'=>by have:=hn x e h';have e2:=hS x;simp only [Prod.mk.injEq] at e2;rw [←e2.1,←e2.2] at this;exact this) ho hg ha hp h6)
theorem RR (pb ps:List Nat) (B Q:Nat) {bs:List (Option Blk)} {ss:List (Option Sl)} {v:α→AV} {bs':α→List (Option Blk)} {ss':α→List (Option Sl)} (h:M.bind F=some r) (h0:∀ {x},M=some x→Cr c.P f args bs ss (v x) (bs' x) (ss' x))
  (hn:∀x,M=some x→F x=some r→G c all ops af Φ m ld' (Sx x)) (H:HA c all ops af nap:=by assumption) (hr:Bz ld af 0=[i]:=by exact rfl) (hb:Aa pb=Aa bs:=by rfl) (hs:Aa ps=Aa ss:=by rfl) (hpb:C3 B pb=true:=by rfl) (hps:C3 Q ps=true:=by rfl) (hp:C7 ss=true:=by first | rfl | simp [go_sem]) (hp':∀x,C7 (ss' x)=true:=by intro x;first | rfl | simp [go_sem]) (ho:(A8 ops i).o = .call f xs:=by exact rfl) (hg:gm S (A8 ops i).g:=by trivial)
  (h6:Aq (Bw pb B 0) S.bs=AH (AP B) pb (BE pb ps B Q bs):=by rfl) (h8:Aq (Bw ps Q 0) S.ss=AH (AP Q) ps ss:=by rfl) (h9:∀x,Bt (Bw pb B 0) S.bs (AH (AP B) pb (BE pb ps B Q (bs' x)))=S.bs:=by intro x;rfl) (ha:AV.le.leL (B8 S xs) (D2 pb ps B Q args):=by first | exact Am _ | simp [go_sem])
  (hS:∀x,(Au ld i,(⟨S.tm,S.bs,Bt (Bw ps Q 0) S.ss (AH (AP Q) ps (ss' x))⟩:St).put (A8 ops i).d ((v x).rnF pb ps B Q))=(ld',Sx x):=by intro x;dsimp only[go_sem]<;>exact rfl):G c all ops af Φ (m+1) ld S:=
 A6 i hr (GR H.1 pb ps B Q h h0 (fun x e h'=>by have:=hn x e h';have e2:=hS x;simp only [Prod.mk.injEq] at e2;rw [←e2.1,←e2.2] at this;exact this) hb hs hpb hps hp hp' ho hg h6 h8 h9 ha)
theorem RF (pb ps:List Nat) (B Q:Nat) {bs:List (Option Blk)} {ss:List (Option Sl)} {v:α→AV} {bs':α→List (Option Blk)} {ss':α→List (Option Sl)} (h:M.bind F=some r) (h0:∀ {x},M=some x→Cr c.P f args bs ss (v x) (bs' x) (ss' x))
  (hn:∀x,M=some x→F x=some r→G c all ops af Φ m ld' (Sx x)) (H:HA c all ops af nap:=by assumption) (hr:Bz ld af 0=[i]:=by exact rfl) (h6:HY af i ops 0=true:=by kernel_rfl) (hb:Aa pb=Aa bs:=by rfl) (hs:Aa ps=Aa ss:=by rfl) (hpb:C3 B pb=true:=by rfl) (hps:C3 Q ps=true:=by rfl) (hp:C7 ss=true:=by first | rfl | simp [go_sem]) (hp':∀x,C7 (ss' x)=true:=by intro x;first | rfl | simp [go_sem]) (ho:(A8 ops i).o = .call f xs:=by exact rfl) (hg:gm S (A8 ops i).g:=by trivial)
  (h8:Aq (Bw pb B 0) S.bs=AH (AP B) pb (BE pb ps B Q bs):=by rfl) (h9:Aq (Bw ps Q 0) S.ss=AH (AP Q) ps ss:=by rfl) (ha:AV.le.leL (B8 S xs) (D2 pb ps B Q args):=by first | exact Am _ | simp [go_sem])
  (hS:∀x,(Au ld i,(⟨S.tm,Bt (Bw pb B 0) S.bs (AH (AP B) pb (BE pb ps B Q (bs' x))),Bt (Bw ps Q 0) S.ss (AH (AP Q) ps (ss' x))⟩:St).put (A8 ops i).d ((v x).rnF pb ps B Q))=(ld',Sx x):=by intro x;dsimp only[go_sem]<;>exact rfl):G c all ops af Φ (m+1) ld S:=
 A6 i hr (GF H.1 pb ps B Q h h0 (fun x e h'=>by have:=hn x e h';have e2:=hS x;simp only [Prod.mk.injEq] at e2;rw [←e2.1,←e2.2] at this;exact this) h6 hb hs hpb hps hp hp' ho hg h8 h9 ha)
end
end NX
end Go.Proofs.YtjemlejoladlcaaGreat
/-
  What a walk needs is found by itself: calls by what is known of the functions, drawn regions, binds. No statement of the seat is proved here.
-/
namespace Go.Proofs.YtjemlejoladlcaaGreat
namespace NX
open Go
class KP {β:Type} (M:Option β) (f:outParam Nat) (args:outParam (List AV)) (res:outParam (β→AV)):Prop where
 k:∀ {x},M=some x→Cd Tryz.prog f args (res x)
class KT {β:Type} (M:Option β) (f:outParam Nat) (args:outParam (List AV)) (bs:outParam (List (Option Blk))) (ss:outParam (List (Option Sl))) (v:outParam (β→AV)) (bs':outParam (β→List (Option Blk))) (ss':outParam (β→List (Option Sl))):Prop where
 k:∀ {x},M=some x→Cr Tryz.prog f args bs ss (v x) (bs' x) (ss' x)
class KC {α β:Type} (p:α→Option β) (g:outParam Nat) (caps:outParam (List AV)) (ar:outParam (α→List AV)) (rs:outParam (β→AV)):Prop where
 k:CloOK Tryz.prog g caps ar p rs
@[go_sem] def Pw (j:Nat):List Nat→List Nat
  | []=>[j]
  | i::l=>match i==j with
    | true=>i::l
    | false=>i::Pw j l
mutual
def AV.nms:AV→List Nat×List Nat→List Nat×List Nat
 | .osl j,a=>(Pw j a.1,a.2)
 | .oel j _ _,a=>(Pw j a.1,a.2)
 | .ocs j _ _ _,a=>(Pw j a.1,a.2)
 | .ptr j _,a=>(a.1,Pw j a.2)
 | .agg l,a=>TW l a
 | .tup l,a=>TW l a
 | .clo _ l,a=>TW l a
 | .any,a=>a
 | .un,a=>a
 | .tt,a=>a
 | .ff,a=>a
 | .bv _,a=>a
 | .iv _,a=>a
 | .kv _ _,a=>a
 | .sv _,a=>a
 | .nl,a=>a
 | .nlp,a=>a
 | .fn _,a=>a
 | .elt _ _,a=>a
 | .sl _ _,a=>a
def TW:List AV→List Nat×List Nat→List Nat×List Nat
 | [],a=>a
 | x::l,a=>TW l (x.nms a)
end
attribute [go_sem] AV.nms TW
@[go_sem] def TX:List Nat→Nat→Nat→List Nat
  | [],_,_=>[]
  | _::l,0,x=>x::l
  | y::l,n+1,x=>y::TX l n x
@[go_sem] def jV:List Nat→Nat→Nat
  | [],_=>0
  | x::_,0=>x
  | _::l,n+1=>jV l n
@[go_sem] def eJ:Nat→List Nat
  | 0=>[]
  | n+1=>0::eJ n
mutual
def jT:AV→AV→List Nat×List Nat→List Nat×List Nat
 | .osl j,y,a=>match y with
   | .osl i=>(a.1,TX a.2 j i)
   | _=>a
 | .oel j _ _,y,a=>match y with
   | .oel i _ _=>(a.1,TX a.2 j i)
   | _=>a
 | .ocs j _ _ _,y,a=>match y with
   | .ocs i _ _ _=>(a.1,TX a.2 j i)
   | _=>a
 | .ptr j _,y,a=>match y with
   | .ptr i _=>(TX a.1 j i,a.2)
   | _=>a
 | .agg l,y,a=>match y with
   | .agg m=>Ls l m a
   | _=>a
 | .tup l,y,a=>match y with
   | .tup m=>Ls l m a
   | _=>a
 | .clo _ l,y,a=>match y with
   | .clo _ m=>Ls l m a
   | _=>a
 | .any,_,a=>a
 | .un,_,a=>a
 | .tt,_,a=>a
 | .ff,_,a=>a
 | .bv _,_,a=>a
 | .iv _,_,a=>a
 | .kv _ _,_,a=>a
 | .sv _,_,a=>a
 | .nl,_,a=>a
 | .nlp,_,a=>a
 | .fn _,_,a=>a
 | .elt _ _,_,a=>a
 | .sl _ _,_,a=>a
def Ls:List AV→List AV→List Nat×List Nat→List Nat×List Nat
 | [],_,a=>a
 | x::l,m,a=>match m with
   | []=>a
   | y::m=>Ls l m (jT x y a)
end
attribute [go_sem] jT Ls
@[go_sem] def Yj (bs:List (Option Blk)):List (Option Blk)→Nat→List Nat×List Nat→List Nat×List Nat
  | [],_,a=>a
  | none::l,j,a=>Yj bs l (j+1) a
  | some b::l,j,a=>match A2 bs (jV a.1 j) with
    | some b2=>Yj bs l (j+1) (Ls b.cells b2.cells a)
    | none=>Yj bs l (j+1) a
section
variable {c:Ctx} {S:St} {f:Nat} {xs:List X} {args:List AV} {res:AV}
theorem sT {v:AV} {bs bs':List (Option Blk)} {ss ss':List (Option Sl)} {pb ps:List Nat} (h0:Cr c.P f args bs ss v bs' ss':=by assumption) (_hm:Yj S.bs bs 0 (Ls args (B8 S xs) (eJ (Aa bs),eJ (Aa ss)))=(pb,ps):=by dsimp only[go_sem]<;>exact rfl)
  (hb:Aa pb=Aa bs:=by rfl) (hs:Aa ps=Aa ss:=by rfl) (hpb:C3 (Aa S.bs) pb=true:=by rfl) (hps:C3 (Aa S.ss) ps=true:=by rfl) (hp:C7 ss=true:=by first | rfl | (simp [go_sem];done)) (hp':C7 ss'=true:=by first | rfl | (simp [go_sem];done))
  (h6:Aq (Bw pb (Aa S.bs) 0) S.bs=AH (AP (Aa S.bs)) pb (BE pb ps (Aa S.bs) (Aa S.ss) bs):=by rfl) (h8:Aq (Bw ps (Aa S.ss) 0) S.ss=AH (AP (Aa S.ss)) ps ss:=by rfl) (ha:AV.le.leL (B8 S xs) (D2 pb ps (Aa S.bs) (Aa S.ss) args):=by first | exact Am _ | (simp [go_sem];done)):
  Bi c S (.call f xs) (v.rnF pb ps (Aa S.bs) (Aa S.ss)) ⟨S.tm,Bt (Bw pb (Aa S.bs) 0) S.bs (AH (AP (Aa S.bs)) pb (BE pb ps (Aa S.bs) (Aa S.ss) bs')),Bt (Bw ps (Aa S.ss) 0) S.ss (AH (AP (Aa S.ss)) ps ss')⟩:=
 Z5 _ _ (FQ pb ps (Aa S.bs) (Aa S.ss) h0 hb hs hpb hps hp hp') h6 h8 ha
section
variable {α:Type} {l':List α} {z:Int} {v:α} {h:α→List AV} {x y:X} {n j m T:Nat}
end
end
section
variable {c:Ctx} {S S':St} {fn:Func} {K:AV→List (Option Blk)→List (Option Sl)→Prop} {k:List It} {β:Type}
variable {all:Array Oper} {ops:List EOp} {af nap:List (List Nat)} {Φ:St→Prop} {m:Nat} {ld ld':List Bool}
end
end NX
end Go.Proofs.YtjemlejoladlcaaGreat
/-
  The program's data. No statement of the seat is proved here.
-/
namespace Go.Proofs.YtjemlejoladlcaaGreat
namespace NX
open Go
structure SX where
 PE:Int
 EP:Int
 SS:Int
 FK:Bool
 DY:Bool
 TO:Bool
 BO:Bool
 Ask:Bool
 deriving DecidableEq,Inhabited
def SX.row (x:SX):List AV:=[.iv x.PE,.iv x.EP,.iv x.SS,.bv x.FK,.bv x.DY,.bv x.TO,.bv x.BO,.bv x.Ask]
attribute [go_sem] SX.row
structure DI where
 ID:Int
 PH:Int
 SD:(List SX)
 deriving DecidableEq,Inhabited
def DI.row (x:DI):List AV:=[.iv x.ID,.iv x.PH,.sl 8 (List.map SX.row x.SD)]
attribute [go_sem] DI.row
structure DK where
 DI:DI
 TH:Int
 NE:(List Int)
 deriving DecidableEq,Inhabited
def DK.row (x:DK):List AV:=[.iv x.DI.ID,.iv x.DI.PH,.sl 8 (List.map SX.row x.DI.SD),.iv x.TH,.sl 1 (List.map Ad x.NE)]
attribute [go_sem] DK.row
structure SE where
 ID:Int
 NE:(List Int)
 SS:Int
 Age:Int
 deriving DecidableEq,Inhabited
def SE.row (x:SE):List AV:=[.iv x.ID,.sl 1 (List.map Ad x.NE),.iv x.SS,.iv x.Age]
attribute [go_sem] SE.row
structure BK where
 LA:Int
 SE:(List SE)
 deriving DecidableEq,Inhabited
def BK.row (x:BK):List AV:=[.iv x.LA,.sl 4 (List.map SE.row x.SE)]
attribute [go_sem] BK.row
structure KE where
 PE:Int
 EP:Int
 deriving DecidableEq,Inhabited
def KE.row (x:KE):List AV:=[.iv x.PE,.iv x.EP]
attribute [go_sem] KE.row
structure NO where
 DK:DK
 BK:BK
 KN:(List KE)
 TL:(List Int)
 AK:(List KE)
 deriving DecidableEq,Inhabited
def NO.row (x:NO):List AV:=[.iv x.DK.DI.ID,.iv x.DK.DI.PH,.sl 8 (List.map SX.row x.DK.DI.SD),.iv x.DK.TH,.sl 1 (List.map Ad x.DK.NE),.iv x.BK.LA,.sl 4 (List.map SE.row x.BK.SE),.sl 2 (List.map KE.row x.KN),.sl 1 (List.map Ad x.TL),.sl 2 (List.map KE.row x.AK)]
attribute [go_sem] NO.row
structure Msg where
 KI:Int
 EP:Int
 Num:Int
 deriving DecidableEq,Inhabited
def Msg.row (x:Msg):List AV:=[.iv x.KI,.iv x.EP,.iv x.Num]
attribute [go_sem] Msg.row
structure ML where
 From:Int
 To:Int
 Msg:Msg
 deriving DecidableEq,Inhabited
def ML.row (x:ML):List AV:=[.iv x.From,.iv x.To,.iv x.Msg.KI,.iv x.Msg.EP,.iv x.Msg.Num]
attribute [go_sem] ML.row
structure EV where
 KI:Int
 NO:Int
 ID:Int
 PE:Int
 NE:(List Int)
 deriving DecidableEq,Inhabited
def EV.row (x:EV):List AV:=[.iv x.KI,.iv x.NO,.iv x.ID,.iv x.PE,.sl 1 (List.map Ad x.NE)]
attribute [go_sem] EV.row
structure node_node where
 NO:NO
 out:(List ML)
 seen:(List EV)
 e:Int
 deriving DecidableEq,Inhabited
def node_node.row (x:node_node):List AV:=[.iv x.NO.DK.DI.ID,.iv x.NO.DK.DI.PH,.sl 8 (List.map SX.row x.NO.DK.DI.SD),.iv x.NO.DK.TH,.sl 1 (List.map Ad x.NO.DK.NE),.iv x.NO.BK.LA,.sl 4 (List.map SE.row x.NO.BK.SE),.sl 2 (List.map KE.row x.NO.KN),.sl 1 (List.map Ad x.NO.TL),.sl 2 (List.map KE.row x.NO.AK),.sl 5 (List.map ML.row x.out),.sl 5 (List.map EV.row x.seen),.iv x.e]
attribute [go_sem] node_node.row
structure drink_drinker where
 DK:DK
 out:(List ML)
 deriving DecidableEq,Inhabited
def drink_drinker.row (x:drink_drinker):List AV:=[.iv x.DK.DI.ID,.iv x.DK.DI.PH,.sl 8 (List.map SX.row x.DK.DI.SD),.iv x.DK.TH,.sl 1 (List.map Ad x.DK.NE),.sl 5 (List.map ML.row x.out)]
attribute [go_sem] drink_drinker.row
structure Do where
 KI:Int
 ID:Int
 PE:Int
 Hold:Int
 NE:(List Int)
 deriving DecidableEq,Inhabited
def Do.row (x:Do):List AV:=[.iv x.KI,.iv x.ID,.iv x.PE,.iv x.Hold,.sl 1 (List.map Ad x.NE)]
attribute [go_sem] Do.row
structure HL where
 NS:(List NO)
 ML:(List ML)
 deriving DecidableEq,Inhabited
def HL.row (x:HL):List AV:=[.sl 10 (List.map NO.row x.NS),.sl 5 (List.map ML.row x.ML)]
attribute [go_sem] HL.row
structure narthexlaw19_Step where
 ML:Bool
 A:Int
 B:Int
 Do:Do
 deriving DecidableEq,Inhabited
def narthexlaw19_Step.row (x:narthexlaw19_Step):List AV:=[.bv x.ML,.iv x.A,.iv x.B,.iv x.Do.KI,.iv x.Do.ID,.iv x.Do.PE,.iv x.Do.Hold,.sl 1 (List.map Ad x.Do.NE)]
attribute [go_sem] narthexlaw19_Step.row
structure Bar where
 DS:(List DK)
 ML:(List ML)
 deriving DecidableEq,Inhabited
def Bar.row (x:Bar):List AV:=[.sl 5 (List.map DK.row x.DS),.sl 5 (List.map ML.row x.ML)]
attribute [go_sem] Bar.row
structure SN where
 DZ:(List DI)
 ML:(List ML)
 deriving DecidableEq,Inhabited
def SN.row (x:SN):List AV:=[.sl 3 (List.map DI.row x.DZ),.sl 5 (List.map ML.row x.ML)]
attribute [go_sem] SN.row
structure Edge where
 A:Int
 B:Int
 deriving DecidableEq,Inhabited
def Edge.row (x:Edge):List AV:=[.iv x.A,.iv x.B]
attribute [go_sem] Edge.row
structure Graph where
 N:Int
 Edges:(List Edge)
 deriving DecidableEq,Inhabited
def Graph.row (x:Graph):List AV:=[.iv x.N,.sl 2 (List.map Edge.row x.Edges)]
attribute [go_sem] Graph.row
structure Place where
 BK:BK
 Live:(List Int)
 deriving DecidableEq,Inhabited
def Place.row (x:Place):List AV:=[.iv x.BK.LA,.sl 4 (List.map SE.row x.BK.SE),.sl 1 (List.map Ad x.Live)]
attribute [go_sem] Place.row
structure Model where
 Places:(List Place)
 deriving DecidableEq,Inhabited
def Model.row (x:Model):List AV:=[.sl 3 (List.map Place.row x.Places)]
attribute [go_sem] Model.row
structure Arc where
 From:Int
 To:Int
 deriving DecidableEq,Inhabited
def Arc.row (x:Arc):List AV:=[.iv x.From,.iv x.To]
attribute [go_sem] Arc.row
@[go_sem] def ux:Nat→List AV→List AV
 | 0,l=>l
 | n+1,l=>.un::ux n l
@[go_sem,reducible] def Cz (x:List EV):AV:=.sl 5 (List.map EV.row x)
@[go_sem,reducible] def Pq (x:List narthexlaw19_Step):AV:=.sl 8 (List.map narthexlaw19_Step.row x)
@[go_sem,reducible] def IY (x:List NO):AV:=.sl 10 (List.map NO.row x)
@[go_sem,reducible] def Cb (x:List ML):AV:=.sl 5 (List.map ML.row x)
@[go_sem,reducible] def CU (x:List SX):AV:=.sl 8 (List.map SX.row x)
@[go_sem,reducible] def Ab (x:List Int):AV:=.sl 1 (List.map Ad x)
@[go_sem,reducible] def Av (x:List SE):AV:=.sl 4 (List.map SE.row x)
@[go_sem,reducible] def FU (x:List Arc):AV:=.sl 2 (List.map Arc.row x)
@[go_sem,reducible] def f0 (x:List Bool):AV:=.sl 1 (List.map DW x)
@[go_sem,reducible] def Pr (x:List Edge):AV:=.sl 2 (List.map Edge.row x)
@[go_sem,reducible] def Bb (x:List KE):AV:=.sl 2 (List.map KE.row x)
@[go_sem,reducible] def Az (x:List ML):Option Sl:=some ⟨113,5,List.map ML.row x⟩
@[go_sem,reducible] def EW (x:List NO):Option Sl:=some ⟨48,10,List.map NO.row x⟩
@[go_sem,reducible] def A5 (x:List Int):Option Sl:=some ⟨3,1,List.map Ad x⟩
@[go_sem,reducible] def AX (x:List SE):Option Sl:=some ⟨53,4,List.map SE.row x⟩
@[go_sem,reducible] def oX (x:List DI):AV:=.sl 3 (List.map DI.row x)
@[go_sem,reducible] def Ps (x:List DI):Option Sl:=some ⟨38,3,List.map DI.row x⟩
@[go_sem,reducible] def Ac (x:List SX):Option Sl:=some ⟨66,8,List.map SX.row x⟩
@[go_sem,reducible] def Uy (x:List DK):Option Sl:=some ⟨42,5,List.map DK.row x⟩
@[go_sem,reducible] def LN (x:List Arc):Option Sl:=some ⟨134,2,List.map Arc.row x⟩
@[go_sem,reducible] def A9 (x:List KE):Option Sl:=some ⟨169,2,List.map KE.row x⟩
@[go_sem,reducible] def Be (x:List EV):Option Sl:=some ⟨97,5,List.map EV.row x⟩
@[go_sem,reducible] def oY (x:List Bool):Option Sl:=some ⟨4,1,List.map DW x⟩
abbrev FPx:=Cd Tryz.prog
abbrev FTx:=Cr Tryz.prog
abbrev FOx:=Kd Tryz.prog
end NX
end Go.Proofs.YtjemlejoladlcaaGreat
