/-
  Drawn regions that end alike whichever way they go: their games are played by a tactic. No statement of the seat is proved here.
-/
import Derived.Shelf.Sort.Plain
import Derived.Shelf.Slices.In.SortNone
import Derived.Sort.OwnSortedInts
import Derived.Shelf.Slices.CompactI
import Derived.Lib.RowBridge
import Derived.Test.YtgnjledocpbchaaGreatM4
set_option maxRecDepth 100000
set_option maxHeartbeats 40000000
namespace Go.Proofs.YtgnjledocpbchaaGreat
namespace NX
open Go
section
theorem U5 {c:Ctx} {all:Array Oper} {ops:List EOp} {af:List (List Nat)} {Φ Ψ:St→Prop} (E:∀S,Φ S→Ψ S):∀(m:Nat) (ld:List Bool) (S:St),G c all ops af Φ m ld S→G c all ops af Ψ m ld S
 | 0,_,_,h=>⟨h.1,E _ h.2⟩
 | m+1,_,_,h=>⟨fun e=>E _ (h.1 e),fun i hi=>(h.2 i hi).imp (fun x=>⟨x.1,U5 E m _ _ x.2⟩) fun ⟨g,v,S1,a,b,d,e⟩=>⟨g,v,S1,a,b,d,U5 E m _ _ e⟩⟩
variable {c:Ctx} {all:Array Oper} {ops:List EOp} {af nap:List (List Nat)} {Φ:St→Prop} {m m':Nat} {ld ld':List Bool} {S S':St} {p:Prop}
theorem Rd (hr:Bx ld af 0=[]:=by exact rfl):G c all ops af (fun S'=>S'=S) m ld S:=dg (Φ:=fun S'=>S'=S) hr rfl m
theorem Rg (h:G c all ops af Φ m' ld' S') (H:HA c all ops af nap:=by assumption) (he:Ct ops af nap m ld S True=(m',ld',S',p):=by dsimp only[go_sem]<;>exact rfl) (_hn:(m'==m)=false:=by exact rfl) (hp:p:=by simp):G c all ops af Φ m ld S:=mA H.1 H.2.1 H.2.2.1 H.2.2.2 (by rw [he];exact ⟨hp,h⟩)
theorem R1 {i:Nat} {v:AV} {S1:St} {q:Prop} (h:G c all ops af Φ m ld' S') (H:HA c all ops af nap:=by assumption) (hr:Bx ld af 0=[i]:=by exact rfl) (he:I7 S (Af ops i)=some (v,S1,q):=by exact rfl) (hq:q:=by trivial)
  (hS:(Ay ld i,S1.put (Af ops i).d v)=(ld',S'):=by dsimp only[go_sem]<;>exact rfl):G c all ops af Φ (m+1) ld S:=by
 simp only [Prod.mk.injEq] at hS;obtain ⟨rfl,rfl⟩:=hS;exact GE H.1 i h hr he hq
theorem RV {i:Nat} {v:AV} {S1:St} {q:Prop} (h:G c all ops af Φ m ld' S') (H:HA c all ops af nap:=by assumption) (he:I7 S (Af ops i)=some (v,S1,q):=by exact rfl) (hq:q:=by trivial)
  (hS:(Ay ld i,S1.put (Af ops i).d v)=(ld',S'):=by dsimp only[go_sem]<;>exact rfl):GO c all ops af Φ m ld S i:=by
 simp only [Prod.mk.injEq] at hS;obtain ⟨rfl,rfl⟩:=hS;exact GV H.1 h he hq
theorem RO {i:Nat} (h:GO c all ops af Φ m ld S i) (hr:Bx ld af 0=[i]:=by exact rfl):G c all ops af Φ (m+1) ld S:=Ak i hr h
theorem R2 {i j:Nat} (h:GO c all ops af Φ m ld S i) (h2:GO c all ops af Φ m ld S j) (hr:Bx ld af 0=[i,j]:=by exact rfl):G c all ops af Φ (m+1) ld S:=Ao i j hr h h2
theorem R3 {i j k:Nat} (h:GO c all ops af Φ m ld S i) (h2:GO c all ops af Φ m ld S j) (h3:GO c all ops af Φ m ld S k) (hr:Bx ld af 0=[i,j,k]:=by exact rfl):G c all ops af Φ (m+1) ld S:=Eo i j k hr h h2 h3
theorem RL {α:Type} {l':List α} {z:Int} {y:α} {j T n off i:Nat} {x:X} {v:AV} {f:α→List AV} (h:G c all ops af Φ m ld' S') (H:HA c all ops af nap:=by assumption) (ho:(Af ops i).o = .load x:=by exact rfl) (hg:gm S (Af ops i).g:=by trivial) (hx:S.x x = .oel j (z.toNat*n) off:=by exact rfl) (hj:Ab S.ss j=some ⟨T,n,l'.map f⟩:=by exact rfl)
  (hv:Ac l' z=some y:=by first | assumption | exact FB (by assumption)) (hl:Db (f y) off 1=some [v]:=by exact rfl) (hS:(Ay ld i,S.put (Af ops i).d v)=(ld',S'):=by dsimp only[go_sem]<;>exact rfl):GO c all ops af Φ m ld S i:=by
 simp only [Prod.mk.injEq] at hS;obtain ⟨rfl,rfl⟩:=hS;exact GL H.1 f hv h ho hg hx hj hl
theorem RI {α:Type} {l':List α} {z:Int} {v:α} {T n j i:Nat} {x y:X} {f:α→List AV} (h:G c all ops af Φ m ld' S') (H:HA c all ops af nap:=by assumption) (ho:(Af ops i).o = .idx n x y:=by exact rfl) (hg:gm S (Af ops i).g:=by trivial) (hx:S.x x = .osl j:=by exact rfl) (hi:S.x y = .iv z:=by exact rfl) (hj:Ab S.ss j=some ⟨T,n,l'.map f⟩:=by exact rfl)
  (hv:Ac l' z=some v:=by first | assumption | exact FB (by assumption)) (hS:(Ay ld i,S.put (Af ops i).d (.oel j (z.toNat*n) 0))=(ld',S'):=by dsimp only[go_sem]<;>exact rfl):GO c all ops af Φ m ld S i:=by
 simp only [Prod.mk.injEq] at hS;obtain ⟨rfl,rfl⟩:=hS;exact GI H.1 f hv h ho hg hx hi hj
theorem Rx {α:Type} {l':List α} {z:Int} {v:α} {n k i:Nat} {x y:X} {f:α→List AV} {w:List Nat} (h:G c all ops af Φ m ld' S') (H:HA c all ops af nap:=by assumption) (hi:Bx ld af 0=w:=by exact rfl) (hw:EN i w=true) (ho:(Af ops i).o = .idx n x y:=by exact rfl) (hg:gm S (Af ops i).g:=by trivial) (hx:S.x x = .sl k (l'.map f):=by exact rfl) (hy:S.x y = .iv z:=by exact rfl)
  (hv:Ac l' z=some v:=by assumption) (h6:k=n:=by exact rfl) (hf:EJ ld af i (Cv nap i)=true:=by exact rfl) (hS:(Ay ld i,S.put (Af ops i).d (.elt (f v) 0))=(ld',S'):=by dsimp only[go_sem]<;>exact rfl):G c all ops af Φ (m+1) ld S:=by
 simp only [Prod.mk.injEq] at hS;obtain ⟨rfl,rfl⟩:=hS;exact BT H.1 H.2.1 H.2.2.1 H.2.2.2 i f hv (by rw [hi];exact hw) ho hg hx hy h6 hf h
theorem RC {i f:Nat} {xs:List X} {args:List AV} {res:AV} (h:G c all ops af Φ m ld' S') (H:HA c all ops af nap:=by assumption) (ho:(Af ops i).o = .call f xs:=by exact rfl) (hg:gm S (Af ops i).g:=by trivial) (hf:C4 c.P f args res:=by assumption)
  (ha:AV.le.leL (B6 S xs) args:=by first | exact AA _ | simp [go_sem]) (hp:AB args=true:=by first | rfl | simp [go_sem]) (hS:(Ay ld i,S.put (Af ops i).d res)=(ld',S'):=by dsimp only[go_sem]<;>exact rfl):GO c all ops af Φ m ld S i:=by
 simp only [Prod.mk.injEq] at hS;obtain ⟨rfl,rfl⟩:=hS;exact GC H.1 hf h ho hg ha hp
theorem RA {α:Type} {b:Nat} {l' m' v:List α} {f:α→List AV} {i e n j:Nat} {x y:X} (h:G c all ops af Φ m ld' S') (H:HA c all ops af nap:=by assumption) (ho:(Af ops i).o = .app e n b x y:=by exact rfl) (hg:gm S (Af ops i).g:=by trivial)
  (hx:S.x x = .osl j:=by exact rfl) (hj:Ab S.ss j=some ⟨e,n,l'.map f⟩:=by exact rfl) (hv:AE b l' m'=some v:=by assumption) (hy:Ef S n (S.x y)=some (m'.map f):=by exact rfl) (hS:(Ay ld i,(S.app j ⟨e,n,v.map f⟩).put (Af ops i).d (.osl (Ah S.ss)))=(ld',S'):=by dsimp only[go_sem]<;>exact rfl):GO c all ops af Φ m ld S i:=by
 simp only [Prod.mk.injEq] at hS;obtain ⟨rfl,rfl⟩:=hS;exact GA f hv H.1 h ho hg hx hj hy
theorem YS {α:Type} {l':List α} {z:Int} {v:α} {n k i:Nat} {x y:X} {f:α→List AV} {w:List Nat} (h:G c all ops af Φ m ld' S') (hi:Bx ld af 0=i::w:=by exact rfl) (ho:(Af ops i).o = .idx n x y:=by exact rfl) (H:HA c all ops af nap:=by assumption) (hg:gm S (Af ops i).g:=by trivial) (hx:S.x x = .sl k (l'.map f):=by exact rfl) (hy:S.x y = .iv z:=by exact rfl)
 (hv:Ac l' z=some v:=by assumption) (h6:k=n:=by exact rfl) (hf:EJ ld af i (Cv nap i)=true:=by exact rfl) (hS:(Ay ld i,S.put (Af ops i).d (.elt (f v) 0))=(ld',S'):=by dsimp only[go_sem]<;>exact rfl):G c all ops af Φ (m+1) ld S:=Rx h H hi (by simp [EN]) ho hg hx hy hv h6 hf hS
theorem YT {α:Type} {l':List α} {z:Int} {v:α} {n k i a:Nat} {x y:X} {f:α→List AV} {w:List Nat} (h:G c all ops af Φ m ld' S') (hi:Bx ld af 0=a::i::w:=by exact rfl) (ho:(Af ops i).o = .idx n x y:=by exact rfl) (H:HA c all ops af nap:=by assumption) (hg:gm S (Af ops i).g:=by trivial) (hx:S.x x = .sl k (l'.map f):=by exact rfl) (hy:S.x y = .iv z:=by exact rfl)
 (hv:Ac l' z=some v:=by assumption) (h6:k=n:=by exact rfl) (hf:EJ ld af i (Cv nap i)=true:=by exact rfl) (hS:(Ay ld i,S.put (Af ops i).d (.elt (f v) 0))=(ld',S'):=by dsimp only[go_sem]<;>exact rfl):G c all ops af Φ (m+1) ld S:=Rx h H hi (by simp only [EN];split<;>simp) ho hg hx hy hv h6 hf hS
theorem Gs {E:St} (h:Φ E) (h1:G c all ops af (fun S'=>S'=E) m ld S:=by
 repeat' first
  | exact Rd
  | refine Rg ?_
  | refine YS ?_
  | refine YT ?_
  | refine R1 ?_
  | refine R2 ?_ ?_
  | refine RO ?_
  | refine R3 ?_ ?_ ?_
  | refine RV ?_
  | refine RI ?_
  | refine RL ?_
  | refine RC ?_
  | refine RA ?_):G c all ops af Φ m ld S:=U5 (fun _ e=>by rw [e];exact h) _ _ _ h1
end
end NX
end Go.Proofs.YtgnjledocpbchaaGreat
/-
  Straight code walked by a tactic. No statement of the seat is proved here.
-/
namespace Go.Proofs.YtgnjledocpbchaaGreat
namespace NX
open Go
@[go_sem] def lX:AV→Bool
  | .bv _=>false
  | _=>true
@[go_sem] def cQ (S:St) (o:EOp):Bool:=
  match (match o.g with | some (t,_)=>lX (AM S.tm t) | none=>true) with
  | true=>match o.o with
    | .pick c _ _=>lX (S.x c)
    | _=>true
  | false=>false
@[go_sem] def C3 (d:Nat):Nat→List It→St→Prop→List It×St×Prop
  | 0,k,S,p=>(k,S,p)
  | _+1,[],S,p=>([],S,p)
  | m+1,.blk i::k,S,p=>match AF (Ah k+1) d with
    | true=>(.blk i::k,S,p)
    | false=>C3 d m k S p
  | m+1,.sc c::k,S,p=>match AF (Ah k+1) d with
    | true=>(.sc c::k,S,p)
    | false=>C3 d m k S p
  | _+1,.lp b n::k,S,p=>(.lp b n::k,S,p)
  | m+1,.ops []::k,S,p=>C3 d m k S p
  | m+1,.ops (o::l)::k,S,p=>match cQ S o with
    | true=>match J0 S o with
      | some r=>C3 d m (.ops l::k) r.1 (p∧r.2)
      | none=>(.ops (o::l)::k,S,p)
    | false=>(.ops (o::l)::k,S,p)
  | m+1,.code .skip::k,S,p=>match AF (Ah k+1) d with
    | true=>(.code .skip::k,S,p)
    | false=>C3 d m k S p
  | m+1,.code (.seq a b)::k,S,p=>match AF (Ah k+1) d with
    | true=>(.code (.seq a b)::k,S,p)
    | false=>C3 d m (.code a :: .code b::k) S p
  | m+1,.code (.blk id a)::k,S,p=>match AF (Ah k+1) d with
    | true=>(.code (.blk id a)::k,S,p)
    | false=>C3 d m (.code a :: .blk id::k) S p
  | m+1,.code (.reg l)::k,S,p=>match AF (Ah k+1) d with
    | true=>(.code (.reg l)::k,S,p)
    | false=>C3 d m (.ops l::k) S p
  | m+1,.code (.exit id)::k,S,p=>match AF (Ah k+1) d with
    | true=>(.code (.exit id)::k,S,p)
    | false=>match EW id k with
      | some k'=>C3 d m k' S p
      | none=>(.code (.exit id)::k,S,p)
  | m+1,.code (.ite x a b)::k,S,p=>match AF (Ah k+1) d with
    | true=>(.code (.ite x a b)::k,S,p)
    | false=>match S.x x with
      | .tt=>C3 d m (.code a::k) S p
      | .ff=>C3 d m (.code b::k) S p
      | _=>(.code (.ite x a b)::k,S,p)
  | _+1,.code c::k,S,p=>(.code c::k,S,p)
theorem FL (d:Nat):∀(m:Nat) (k:List It) (S:St) (p:Prop),∃n,run n k S p=C3 d m k S p
 | 0,k,S,p=>⟨0,by simp [run,C3]⟩
 | m+1,k,S,p=>by
   have st:∀k S p,C3 d (m+1) k S p=(k,S,p)→∃n,run n k S p=C3 d (m+1) k S p:=fun k S p h=>⟨0,by rw [h];simp [run]⟩
   match k with
   | []=>exact st _ _ _ rfl
   | .blk i::k=>
     cases hd:AF (Ah k+1) d with
     | true=>exact st _ _ _ (by simp [C3,hd])
     | false=>obtain ⟨n,h⟩:=FL d m k S p;exact ⟨n+1,by simpa [run,C3,hd] using h⟩
   | .sc i::k=>
     cases hd:AF (Ah k+1) d with
     | true=>exact st _ _ _ (by simp [C3,hd])
     | false=>obtain ⟨n,h⟩:=FL d m k S p;exact ⟨n+1,by simpa [run,C3,hd] using h⟩
   | .lp b n::k=>exact st _ _ _ rfl
   | .ops []::k=>obtain ⟨n,h⟩:=FL d m k S p;exact ⟨n+1,by simpa [run,C3] using h⟩
   | .ops (o::l)::k=>
     cases ht:cQ S o with
     | false=>exact st _ _ _ (by simp [C3,ht])
     | true=>
       cases he:J0 S o with
       | none=>exact st _ _ _ (by simp [C3,ht,he])
       | some r=>obtain ⟨n,h⟩:=FL d m (.ops l::k) r.1 (p∧r.2);exact ⟨n+1,by simpa [run,C3,ht,he] using h⟩
   | .code c::k=>
     cases hd:AF (Ah k+1) d with
     | true=>exact st _ _ _ (by cases c<;>simp [C3,hd])
     | false=>
       cases c with
       | skip=>obtain ⟨n,h⟩:=FL d m k S p;exact ⟨n+1,by simpa [run,C3,hd] using h⟩
       | seq a b=>obtain ⟨n,h⟩:=FL d m (.code a :: .code b::k) S p;exact ⟨n+1,by simpa [run,C3,hd] using h⟩
       | blk id a=>obtain ⟨n,h⟩:=FL d m (.code a :: .blk id::k) S p;exact ⟨n+1,by simpa [run,C3,hd] using h⟩
       | reg l=>obtain ⟨n,h⟩:=FL d m (.ops l::k) S p;exact ⟨n+1,by simpa [run,C3,hd] using h⟩
       | exit id=>
         cases hu:EW id k with
         | none=>exact st _ _ _ (by simp [C3,hu,hd])
         | some k'=>obtain ⟨n,h⟩:=FL d m k' S p;exact ⟨n+1,by simpa [run,C3,hu,hd] using h⟩
       | ite x a b=>
         cases hx:S.x x with
         | tt=>obtain ⟨n,h⟩:=FL d m (.code a::k) S p;exact ⟨n+1,by simpa [run,C3,hx,hd] using h⟩
         | ff=>obtain ⟨n,h⟩:=FL d m (.code b::k) S p;exact ⟨n+1,by simpa [run,C3,hx,hd] using h⟩
         | _=>exact st _ _ _ (by simp [C3,hx,hd])
       | _=>exact st _ _ _ rfl
@[go_sem] def Mb:List It→St→Bool
  | [],_=>false
  | .lp _ _::_,_=>false
  | .ops (o::_)::_,S=>match cQ S o with
    | true=>(J0 S o).isSome
    | false=>false
  | .code c::k,S=>match c with
    | .skip | .seq _ _ | .blk _ _ | .reg _=>true
    | .exit id=>(EW id k).isSome
    | .ite x _ _=>match S.x x with
      | .tt | .ff=>true
      | _=>false
    | _=>false
  | _,_=>true
@[go_sem,reducible] def eQ (f:Func) (q:cF Tryz.prog f=cF Tryz.prog f→DP f:=by intro h;(conv at h=>rhs;reduce);dsimp only[go_sem] at h;exact ⟨_,h⟩):EC:=(q rfl).1
theorem oJ (f:Nat) (fn:Func) (rs:List ERes) (np nt:Nat) {x:Code} (q:cF Tryz.prog fn=cF Tryz.prog fn→DP fn:=by intro h;(conv at h=>rhs;reduce);dsimp only[go_sem] at h;exact ⟨_,h⟩) (h:Tryz.prog.funcs[f]?=some fn:=by kernel_rfl) (hb:fn.body=some x:=by exact rfl) (hc:cC Tryz.prog x=some (q rfl).1:=by kernel_rfl) (r:FC Tryz.prog fn.results.toList=some rs:=by kernel_rfl) (t:fn.ntmps=np+nt:=by kernel_rfl):FnOK Tryz.prog f fn (q rfl).1 rs np nt:=⟨h,⟨x,hb,hc⟩,r,t⟩
theorem oK (f:Nat) (fn:Func) (body:EC) (rs:List ERes) (np nt:Nat) {x:Code} (h:Tryz.prog.funcs[f]?=some fn:=by kernel_rfl) (hb:fn.body=some x:=by exact rfl) (hc:cC Tryz.prog x=some body:=by kernel_rfl) (r:FC Tryz.prog fn.results.toList=some rs:=by kernel_rfl) (t:fn.ntmps=np+nt:=by kernel_rfl):FnOK Tryz.prog f fn body rs np nt:=⟨h,⟨x,hb,hc⟩,r,t⟩
section
variable {c:Ctx} {S S':St} {fn:Func} {K:AV→List (Option Blk)→List (Option Sl)→Prop} {k k':List It} {p:Prop} {β:Type}
theorem D5 {σ:Type} {m:σ→Option β} {r:β} {Sx:σ→St} {E:List It} (_J:∀s,m s=some r→V c fn K E (Sx s)) (h:V c fn K k' S') (_hd:AF (Ah k) (Ah E)=false:=by exact rfl) (_hg:Mb k S=true:=by exact rfl) (he:C3 (Ah E) 400 k S True=(k',S',p):=by dsimp only[go_sem]<;>exact rfl) (hp:p:=by simp<;>fail):V c fn K k S:=by obtain ⟨n,hn⟩:=FL (Ah E) 400 k S True;exact Vg n h (hn.trans he) hp
theorem Vs (h:V c fn K k' S') (_hg:Mb k S=true:=by exact rfl) (he:C3 0 400 k S True=(k',S',p):=by dsimp only[go_sem]<;>exact rfl) (hp:p:=by simp<;>fail):V c fn K k S:=by obtain ⟨n,hn⟩:=FL 0 400 k S True;exact Vg n h (hn.trans he) hp
theorem MG {t:Nat} {b:Bool} {o:EOp} {l:List EOp} {e:Bool} {A B:Option β} {r:β} (h:A0 e A B=some r) (h1:A=some r→V c fn K (.ops (o::l)::k) ⟨BC S.tm t .tt,S.bs,S.ss⟩) (h2:B=some r→V c fn K (.ops (o::l)::k) ⟨BC S.tm t .ff,S.bs,S.ss⟩) (_hg:o.g=some (t,b):=by exact rfl) (ht:AM S.tm t = .bv e:=by exact rfl):V c fn K (.ops (o::l)::k) S:=MC t h h1 h2 ht
theorem MP {t:Nat} {x y:X} {o:EOp} {l:List EOp} {e:Bool} {A B:Option β} {r:β} (h:A0 e A B=some r) (h1:A=some r→V c fn K (.ops (o::l)::k) ⟨BC S.tm t .tt,S.bs,S.ss⟩) (h2:B=some r→V c fn K (.ops (o::l)::k) ⟨BC S.tm t .ff,S.bs,S.ss⟩) (_hg:o.o = .pick (.t t) x y:=by exact rfl) (ht:AM S.tm t = .bv e:=by exact rfl):V c fn K (.ops (o::l)::k) S:=MC t h h1 h2 ht
theorem Vi {α:Type} {l':List α} {i:Int} {v:α} {d:Option Nat} {g:Option (Nat×Bool)} {n m:Nat} {x y:X} {l:List EOp} {f:α→List AV} (hv:Ac l' i=some v) (h':V c fn K (.ops l::k) (S.put d (.elt (f v) 0))) (hx:S.x x = .sl m (l'.map f):=by exact rfl) (hi:S.x y = .iv i:=by exact rfl) (h6:m=n:=by exact rfl) (hg:gm S g:=by trivial):V c fn K (.ops (⟨d,g,.idx n x y⟩::l)::k) S:=Dt f hv hg hx hi h6 h'
theorem Vj {α:Type} {l':List α} {z:Int} {v:α} {d:Option Nat} {g:Option (Nat×Bool)} {l:List EOp} {T n j:Nat} {x i:X} {f:α→List AV} (hv:Ac l' z=some v) (h':V c fn K (.ops l::k) (S.put d (.oel j (z.toNat*n) 0))) (hx:S.x x = .osl j:=by exact rfl) (hi:S.x i = .iv z:=by exact rfl) (hj:Ab S.ss j=some ⟨T,n,l'.map f⟩:=by exact rfl) (hg:gm S g:=by trivial):V c fn K (.ops (⟨d,g,.idx n x i⟩::l)::k) S:=C5 f hv hg hx hi hj h'
end
theorem Wd {P:Program} {w0:World} {H0:Frag} {f:Nat} {fn:Func} {body:EC} {rs:List ERes} {np nt:Nat} {β:Type} {e r:β} {T:AV} {S:St} {k:List It} (ok:FnOK P f fn body rs np nt) (h:some e=some r)
 (hl:e=r→Kn (DM S rs) T:=by rintro rfl;first | exact le_refl _ | (simp [go_sem]<;>fail)):V (Ctx.of P w0 H0) fn (fun x _ _=>x.le T) (.code .ret::k) S:=MD ok h hl
theorem We {P:Program} {w0:World} {H0:Frag} {f:Nat} {fn:Func} {body:EC} {rs:List ERes} {np nt:Nat} {β:Type} {e r:β} {T:AV} {S:St} (ok:FnOK P f fn body rs np nt) (h:some e=some r)
 (hl:e=r→Kn (DM S rs) T:=by rintro rfl;first | exact le_refl _ | (simp [go_sem]<;>fail)):V (Ctx.of P w0 H0) fn (fun x _ _=>x.le T) [] S:=MS ok h hl
section
variable {c:Ctx} {f:Nat} {fn:Func} {body:EC} {rs:List ERes} {np nt:Nat} {k:List It} {S:St} {v:AV} {bs':List (Option Blk)} {ss':List (Option Sl)} {β:Type} {e r:β}
theorem Td (ok:FnOK c.P f fn body rs np nt) (h:some e=some r) (hl:e=r→∃x,DM S rs=some x∧St.le ⟨[x],S.bs,S.ss⟩ ⟨[v],bs',ss'⟩:=by rintro rfl;refine ⟨_,rfl,?_⟩;(simp [go_sem]<;>fail)):V c fn (fun x b s=>St.le ⟨[x],b,s⟩ ⟨[v],bs',ss'⟩) (.code .ret::k) S:=have ⟨_,a,b⟩:=hl (Option.some.inj h);dt ok a b
theorem Ts (ok:FnOK c.P f fn body rs np nt) (h:some e=some r) (hl:e=r→∃x,DM S rs=some x∧St.le ⟨[x],S.bs,S.ss⟩ ⟨[v],bs',ss'⟩:=by rintro rfl;refine ⟨_,rfl,?_⟩;(simp [go_sem]<;>fail)):V c fn (fun x b s=>St.le ⟨[x],b,s⟩ ⟨[v],bs',ss'⟩) [] S:=have ⟨_,a,b⟩:=hl (Option.some.inj h);mN ok a b
end
section
variable {c:Ctx} {fn:Func} {K:AV→List (Option Blk)→List (Option Sl)→Prop} {k:List It} {S:St} {σ β:Type}
theorem Wt {m:σ→Option β} {r:β} {s:σ} {Sx:σ→St} (J:∀s,m s=some r→V c fn K k (Sx s)) (h:m s=some r) (hle:S.le (Sx s):=by (simp [go_sem]<;>fail)) (hok:(Sx s).ok=true:=by first | rfl | (simp [go_sem]<;>fail)) (h6:AF c.np (Ah (Sx s).bs)=true:=by rfl) (hqn:AF c.nq (Ah (Sx s).ss)=true:=by rfl):V c fn K k S:=Eh J h hle hok h6 hqn
theorem Wb {s':σ} {y:σ ⊕ β} {Sx:σ→St} (h:some (Sum.inl s')=some y) (h6:∀s',y = .inl s'→V c fn K k (Sx s')) (hle:S.le (Sx s'):=by (simp [go_sem]<;>fail)) (hok:(Sx s').ok=true:=by first | rfl | (simp [go_sem]<;>fail)) (h8:AF c.np (Ah (Sx s').bs)=true:=by rfl) (hqn:AF c.nq (Ah (Sx s').ss)=true:=by rfl):V c fn K k S:=dl h h6 hle hok h8 hqn
end
@[go_sem] def eV:List AV→List AV
  | []=>[]
  | _::l=>.any::eV l
@[go_sem] def eW:Nat→(List AV→List AV)→List AV→List AV
  | 0,f,l=>f l
  | _+1,_,[]=>[]
  | n+1,f,_::l=>.any::eW n f l
@[go_sem] def g6:Nat→(List AV→List AV)→List AV→List AV
  | 0,f,l=>f l
  | _+1,_,[]=>[]
  | n+1,f,x::l=>x::g6 n f l
@[go_sem] def kp:Bool→List Nat→List AV→List AV
  | _,[],l=>eV l
  | false,n::r,l=>eW n (kp true r) l
  | true,n::r,l=>g6 n (kp false r) l
@[go_sem] def pq:List (Nat×AV)→List AV→List AV
  | [],l=>l
  | (i,v)::r,l=>pq r (BC l i v)
theorem Vk {c:Ctx} {fn:Func} {K:AV→List (Option Blk)→List (Option Sl)→Prop} {k:List It} {S:St} {σ β:Type} {x:It} (ks:List Nat) (u:σ→List (Nat×AV)) (m:σ→Option β) (r:β) {Sx:σ→St} (E:∀s,m s=some r→V c fn K k (Sx s)) (h:(∀s,m s=some r→V c fn K k (Sx s))→V c fn K (x::k) S)
 (_hS:∀s,(⟨pq (u s) (kp false ks S.tm),S.bs,S.ss⟩:St)=Sx s:=by intro s;dsimp only[go_sem]<;>exact rfl):V c fn K (x::k) S:=h E
theorem Vl {c:Ctx} {fn:Func} {K:AV→List (Option Blk)→List (Option Sl)→Prop} {k:List It} {S:St} {σ β:Type} {x:It} (ks:List Nat) (u:σ→List (Nat×AV)×List (Option Blk)×List (Option Sl)) (m:σ→Option β) (r:β) {Sx:σ→St} (E:∀s,m s=some r→V c fn K k (Sx s)) (h:(∀s,m s=some r→V c fn K k (Sx s))→V c fn K (x::k) S)
 (_hS:∀s,(⟨pq (u s).1 (kp false ks S.tm),(u s).2.1,(u s).2.2⟩:St)=Sx s:=by intro s;dsimp only[go_sem]<;>exact rfl):V c fn K (x::k) S:=h E
theorem Ml {c:Ctx} {fn:Func} {K:AV→List (Option Blk)→List (Option Sl)→Prop} {k:List It} {S:St} {σ β:Type} {b:EC} {body:σ→Option (σ ⊕ β)} {s0:σ} {r:β} (h:loop body s0=some r) (ks:List Nat) (u:σ→List (Nat×AV)×List (Option Blk)×List (Option Sl)) {Sx:σ→St}
 (hb:∀n s y,body s=some y→(∀s',y = .inl s'→V c fn K (.lp b n::k) (Sx s'))→(∀r',y = .inr r'→r'=r)→V c fn K (.code b :: .lp b n::k) (Sx s)) (_hS:∀s,(⟨pq (u s).1 (kp false ks S.tm),(u s).2.1,(u s).2.2⟩:St)=Sx s:=by intro s;dsimp only[go_sem]<;>exact rfl)
 (h0:S.le (Sx s0):=by simp [go_sem]) (hok:∀s,(Sx s).ok=true:=by intro s;first | rfl | simp [go_sem]) (h6:AF c.np (Ah (Sx s0).bs)=true:=by rfl) (hqn:AF c.nq (Ah (Sx s0).ss)=true:=by rfl):V c fn K (.code (.loop b)::k) S:=YQ h Sx h0 hok hb h6 hqn
theorem Mk {c:Ctx} {fn:Func} {K:AV→List (Option Blk)→List (Option Sl)→Prop} {k:List It} {S:St} {σ β:Type} {b:EC} {body:σ→Option (σ ⊕ β)} {s0:σ} {r:β} (h:loop body s0=some r) (ks:List Nat) (u:σ→List (Nat×AV)) {Sx:σ→St}
 (hb:∀n s y,body s=some y→(∀s',y = .inl s'→V c fn K (.lp b n::k) (Sx s'))→(∀r',y = .inr r'→r'=r)→V c fn K (.code b :: .lp b n::k) (Sx s)) (_hS:∀s,(⟨pq (u s) (kp false ks S.tm),S.bs,S.ss⟩:St)=Sx s:=by intro s;dsimp only[go_sem]<;>exact rfl)
 (h0:S.le (Sx s0):=by simp [go_sem]) (hok:∀s,(Sx s).ok=true:=by intro s;first | rfl | simp [go_sem]) (h6:AF c.np (Ah (Sx s0).bs)=true:=by rfl) (hqn:AF c.nq (Ah (Sx s0).ss)=true:=by rfl):V c fn K (.code (.loop b)::k) S:=YQ h Sx h0 hok hb h6 hqn
theorem W {p:Prop} (hp:p:=by
 try dsimp only
 repeat' first
  | (with_reducible have h:=CU h hout3)
  | (with_reducible have h:=CU h hout2)
  | (with_reducible have h:=CU h hout1)
  | exact Wt J1 h
  | exact Wt J2 h
  | exact Wt J3 h
  | exact Wt J4 h
  | exact Wt J5 h
  | exact Wt J6 h
  | exact Wt J7 h
  | exact Wt J8 h
  | exact Wt J9 h
  | exact Wt J10 h
  | exact Wt J11 h
  | exact Wt J12 h
  | exact Wd ok h
  | exact We ok h
  | exact Td ok h
  | exact Ts ok h
  | exact Wb h hin1
  | exact Wb h hin2
  | exact Wb h hin3
  | refine D5 J12 ?_
  | refine D5 J11 ?_
  | refine D5 J10 ?_
  | refine D5 J9 ?_
  | refine D5 J8 ?_
  | refine D5 J7 ?_
  | refine D5 J6 ?_
  | refine D5 J5 ?_
  | refine D5 J4 ?_
  | refine D5 J3 ?_
  | refine D5 J2 ?_
  | refine D5 J1 ?_
  | refine Vs ?_
  | refine MI h (fun h=>?_) fun h=>?_
  | refine MG h (fun h=>?_) fun h=>?_
  | refine MP h (fun h=>?_) fun h=>?_
  | (have ⟨_,ex,h⟩:=Bs h;first | refine Vi ex ?_ | refine Vj ex ?_)):p:=hp
end NX
end Go.Proofs.YtgnjledocpbchaaGreat
/-
  Shorter ways of saying the same: what is simplified, states told by what changes. No statement of the seat is proved here.
-/
namespace Go.Proofs.YtgnjledocpbchaaGreat
namespace NX
open Go
theorem Ds {p q:Prop} (h:q) (he:p=q:=by dsimp only[go_sem]<;>exact rfl):p:=he ▸ h
@[go_sem] def ic:List (Option Blk)→Nat→Nat→AV→List (Option Blk)
  | [],_,_,_=>[]
  | none::l,0,_,_=>none::l
  | some B::l,0,o,v=>some ⟨B.T,BC B.cells o v⟩::l
  | x::l,i+1,o,v=>x::ic l i o v
@[go_sem] def bI:List (Nat×Nat×AV)→List (Option Blk)→List (Option Blk)
  | [],l=>l
  | (i,o,v)::r,l=>bI r (ic l i o v)
@[go_sem] def TC {α:Type}:List (Nat×Option α)→List (Option α)→List (Option α)
  | [],l=>l
  | (i,x)::r,l=>TC r (Av l i x)
section
variable {c:Ctx} {fn:Func} {K:AV→List (Option Blk)→List (Option Sl)→Prop} {k:List It} {S:St} {σ β:Type}
theorem Vm {x:It} (ks:List Nat) (u:σ→List (Nat×AV)×List (Nat×Nat×AV)×List (Nat×Option Blk)×List (Nat×Option Sl)) (m:σ→Option β) (r:β) {Sx:σ→St} (E:∀s,m s=some r→V c fn K k (Sx s)) (h:(∀s,m s=some r→V c fn K k (Sx s))→V c fn K (x::k) S)
 (_hS:∀s,(⟨pq (u s).1 (kp false ks S.tm),TC (u s).2.2.1 (bI (u s).2.1 S.bs),TC (u s).2.2.2 S.ss⟩:St)=Sx s:=by intro s;dsimp only[go_sem]<;>exact rfl):V c fn K (x::k) S:=h E
theorem Mm {b:EC} {body:σ→Option (σ ⊕ β)} {s0:σ} {r:β} (h:loop body s0=some r) (ks:List Nat) (u:σ→List (Nat×AV)×List (Nat×Nat×AV)×List (Nat×Option Blk)×List (Nat×Option Sl)) {Sx:σ→St}
 (hb:∀n s y,body s=some y→(∀s',y = .inl s'→V c fn K (.lp b n::k) (Sx s'))→(∀r',y = .inr r'→r'=r)→V c fn K (.code b :: .lp b n::k) (Sx s)) (_hS:∀s,(⟨pq (u s).1 (kp false ks S.tm),TC (u s).2.2.1 (bI (u s).2.1 S.bs),TC (u s).2.2.2 S.ss⟩:St)=Sx s:=by intro s;dsimp only[go_sem]<;>exact rfl)
 (h0:S.le (Sx s0):=by simp [go_sem]) (hok:∀s,(Sx s).ok=true:=by intro s;first | rfl | simp [go_sem]) (h6:AF c.np (Ah (Sx s0).bs)=true:=by rfl) (hqn:AF c.nq (Ah (Sx s0).ss)=true:=by rfl):V c fn K (.code (.loop b)::k) S:=YQ h Sx h0 hok hb h6 hqn
variable {α:Type} {d:Option Nat} {g:Option (Nat×Bool)} {l:List EOp} {f:Nat} {xs:List X} {args:List AV} {M:Option α} {F:α→Option β} {r:β} {res:α→AV} {S':St}
theorem VB (h:M.bind F=some r) (hf:∀ {x},M=some x→C4 c.P f args (res x)) (hn:∀x,M=some x→F x=some r→V c fn K (.ops l::k) (S.put d (res x)))
 (ha:AV.le.leL (B6 S xs) args:=by first | exact AA _ | simp [go_sem]) (hp:AB args=true:=by first | rfl | simp [go_sem]) (hg:gm S g:=by trivial):V c fn K (.ops (⟨d,g,.call f xs⟩::l)::k) S:=have ⟨_,e,h⟩:=Bs h;VC (hf e) (hn _ e h) ha hp hg
theorem VN (hs:CT S S') (h:M.bind F=some r) (hf:∀ {x},M=some x→C4 c.P f args (res x)) (hn:∀x,M=some x→F x=some r→V c fn K (.ops l::k) (S.put d (res x)))
 (ha:AV.le.leL (B6 S' xs) args:=by first | exact AA _ | simp [go_sem]) (hp:AB args=true:=by first | rfl | simp [go_sem]) (h6:∀x,(res x).flat=true:=by intro x;rfl) (hg:gm S g:=by trivial):V c fn K (.ops (⟨d,g,.call f xs⟩::l)::k) S:=have ⟨x,e,h⟩:=Bs h;VL hs (hf e) (hn _ e h) ha hp (h6 x) hg
theorem VR (pb ps:List Nat) (B Q:Nat) {bs:List (Option Blk)} {ss:List (Option Sl)} {v:α→AV} {bs':α→List (Option Blk)} {ss':α→List (Option Sl)} (h:M.bind F=some r) (h0:∀ {x},M=some x→CL c.P f args bs ss (v x) (bs' x) (ss' x))
  (hn:∀x,M=some x→F x=some r→V c fn K (.ops l::k) ((⟨S.tm,BA (BD pb B 0) S.bs (AI (AU B) pb (BP pb ps B Q (bs' x))),BA (BD ps Q 0) S.ss (AI (AU Q) ps (ss' x))⟩:St).put d ((v x).rnF pb ps B Q))) (hb:Ah pb=Ah bs:=by rfl) (hs:Ah ps=Ah ss:=by rfl) (hpb:Cd B pb=true:=by rfl) (hps:Cd Q ps=true:=by rfl) (hp:C8 ss=true:=by first | rfl | simp [go_sem]) (hp':∀x,C8 (ss' x)=true:=by intro x;first | rfl | simp [go_sem])
  (h6:Ax (BD pb B 0) S.bs=AI (AU B) pb (BP pb ps B Q bs):=by rfl) (h8:Ax (BD ps Q 0) S.ss=AI (AU Q) ps ss:=by rfl) (ha:AV.le.leL (B6 S xs) (Dd pb ps B Q args):=by first | exact AA _ | simp [go_sem]) (hg:gm S g:=by trivial):V c fn K (.ops (⟨d,g,.call f xs⟩::l)::k) S:=
 have ⟨x,e,h⟩:=Bs h;mQ pb ps B Q (h0 e) (hn _ e h) hb hs hpb hps hp (hp' x) h6 h8 ha hg
end
section
variable {c:Ctx} {all:Array Oper} {ops:List EOp} {af:List (List Nat)} {Φ:St→Prop} {m:Nat} {ld:List Bool} {S S':St} {α β:Type} {i f:Nat} {xs:List X} {args:List AV} {M:Option α} {F:α→Option β} {r:β} {res:α→AV}
theorem GB (h6:all.toList.mapM (AO c.P all)=some ops) (h:M.bind F=some r) (hf:∀ {x},M=some x→C4 c.P f args (res x)) (hn:∀x,M=some x→F x=some r→G c all ops af Φ m (Ay ld i) (S.put (Af ops i).d (res x))) (ho:(Af ops i).o = .call f xs:=by exact rfl) (hg:gm S (Af ops i).g:=by trivial)
 (ha:AV.le.leL (B6 S xs) args:=by first | exact AA _ | simp [go_sem]) (hp:AB args=true:=by first | rfl | simp [go_sem]):GO c all ops af Φ m ld S i:=have ⟨_,e,h⟩:=Bs h;GC h6 (hf e) (hn _ e h) ho hg ha hp
theorem GQ (h6:all.toList.mapM (AO c.P all)=some ops) (hs:CT S S') (h:M.bind F=some r) (hf:∀ {x},M=some x→C4 c.P f args (res x)) (hn:∀x,M=some x→F x=some r→G c all ops af Φ m (Ay ld i) (S.put (Af ops i).d (res x))) (ho:(Af ops i).o = .call f xs:=by exact rfl) (hg:gm S (Af ops i).g:=by trivial)
 (ha:AV.le.leL (B6 S' xs) args:=by first | exact AA _ | simp [go_sem]) (hp:AB args=true:=by first | rfl | simp [go_sem]) (h8:∀x,(res x).flat=true:=by intro x;rfl):GO c all ops af Φ m ld S i:=have ⟨x,e,h⟩:=Bs h;GK h6 hs (hf e) (hn _ e h) ho hg ha hp (h8 x)
theorem GR (h6:all.toList.mapM (AO c.P all)=some ops) (pb ps:List Nat) (B Q:Nat) {bs:List (Option Blk)} {ss:List (Option Sl)} {v:α→AV} {bs':α→List (Option Blk)} {ss':α→List (Option Sl)} (h:M.bind F=some r) (h0:∀ {x},M=some x→CL c.P f args bs ss (v x) (bs' x) (ss' x))
  (hn:∀x,M=some x→F x=some r→G c all ops af Φ m (Ay ld i) ((⟨S.tm,S.bs,BA (BD ps Q 0) S.ss (AI (AU Q) ps (ss' x))⟩:St).put (Af ops i).d ((v x).rnF pb ps B Q))) (hb:Ah pb=Ah bs:=by rfl) (hs:Ah ps=Ah ss:=by rfl) (hpb:Cd B pb=true:=by rfl) (hps:Cd Q ps=true:=by rfl) (hp:C8 ss=true:=by first | rfl | simp [go_sem]) (hp':∀x,C8 (ss' x)=true:=by intro x;first | rfl | simp [go_sem]) (ho:(Af ops i).o = .call f xs:=by exact rfl) (hg:gm S (Af ops i).g:=by trivial)
  (h8:Ax (BD pb B 0) S.bs=AI (AU B) pb (BP pb ps B Q bs):=by rfl) (h9:Ax (BD ps Q 0) S.ss=AI (AU Q) ps ss:=by rfl) (hw:∀x,BA (BD pb B 0) S.bs (AI (AU B) pb (BP pb ps B Q (bs' x)))=S.bs:=by intro x;rfl) (ha:AV.le.leL (B6 S xs) (Dd pb ps B Q args):=by first | exact AA _ | simp [go_sem]):GO c all ops af Φ m ld S i:=
 have ⟨x,e,h⟩:=Bs h;HX h6 pb ps B Q (h0 e) (hn _ e h) hb hs hpb hps hp (hp' x) ho hg h8 h9 (hw x) ha
theorem GF (h6:all.toList.mapM (AO c.P all)=some ops) (pb ps:List Nat) (B Q:Nat) {bs:List (Option Blk)} {ss:List (Option Sl)} {v:α→AV} {bs':α→List (Option Blk)} {ss':α→List (Option Sl)} (h:M.bind F=some r) (h0:∀ {x},M=some x→CL c.P f args bs ss (v x) (bs' x) (ss' x))
  (hn:∀x,M=some x→F x=some r→G c all ops af Φ m (Ay ld i) ((⟨S.tm,BA (BD pb B 0) S.bs (AI (AU B) pb (BP pb ps B Q (bs' x))),BA (BD ps Q 0) S.ss (AI (AU Q) ps (ss' x))⟩:St).put (Af ops i).d ((v x).rnF pb ps B Q))) (h8:Hh af i ops 0=true:=by kernel_rfl) (hb:Ah pb=Ah bs:=by rfl) (hs:Ah ps=Ah ss:=by rfl) (hpb:Cd B pb=true:=by rfl) (hps:Cd Q ps=true:=by rfl) (hp:C8 ss=true:=by first | rfl | simp [go_sem]) (hp':∀x,C8 (ss' x)=true:=by intro x;first | rfl | simp [go_sem]) (ho:(Af ops i).o = .call f xs:=by exact rfl) (hg:gm S (Af ops i).g:=by trivial)
  (h9:Ax (BD pb B 0) S.bs=AI (AU B) pb (BP pb ps B Q bs):=by rfl) (hw:Ax (BD ps Q 0) S.ss=AI (AU Q) ps ss:=by rfl) (ha:AV.le.leL (B6 S xs) (Dd pb ps B Q args):=by first | exact AA _ | simp [go_sem]):GO c all ops af Φ m ld S i:=
 have ⟨x,e,h⟩:=Bs h;mp h6 pb ps B Q (h0 e) (hn _ e h) h8 hb hs hpb hps hp (hp' x) ho hg h9 hw ha
end
end NX
end Go.Proofs.YtgnjledocpbchaaGreat
/-
  A slice with a third bound to which is appended: names that hold values told ahead. No statement of the seat is proved here.
-/
namespace Go.Proofs.YtgnjledocpbchaaGreat
namespace NX
open Go Go.RowKit
theorem Ft {P:Program} {f:Nat} {fn:Func} {body:EC} {rs:List ERes} {np nt:Nat} (hf:FnOK P f fn body rs np nt) {args tm:List AV} {bs bs':List (Option Blk)} {ss ss':List (Option Sl)} {v:AV}
 (h:∀w M,V (Ctx.lent P w M bs ss (Ah bs) (Ah ss)) fn (fun x b s=>St.le ⟨[x],b,s⟩ ⟨[v],bs',ss'⟩) [.code body] ⟨tm,bs,ss⟩) (he:args++Dh nt=tm:=by dsimp only[Dh,List.cons_append,List.nil_append]<;>exact rfl) (hn:args.length=np:=by exact rfl) (h1:AF (Ah bs) (Ah bs')=true:=by exact rfl) (h2:AF (Ah ss) (Ah ss')=true:=by exact rfl) (h3:St.ok ⟨[v],bs',ss'⟩=true:=by first | rfl | simp [go_sem]):CL P f args bs ss v bs' ss':=FT hf (by rw [he];exact h) hn h1 h2 h3
section
variable {c:Ctx} {M:Mem} {bs:List (Option Blk)} {ss:List (Option Sl)} {S:St} {a:Act} {w:World} {fn:Func} {K:AV→List (Option Blk)→List (Option Sl)→Prop} {k:List It}
end
section
variable {c:Ctx} {S:St} {fn:Func} {K:AV→List (Option Blk)→List (Option Sl)→Prop} {k:List It} {all:Array Oper} {ops:List EOp} {af nap:List (List Nat)} {Φ:St→Prop} {m':Nat} {ld:List Bool} {α:Type} {l v:List α} {b i j q g cap n T:Nat} {z:Int} {f:α→List AV} {x y xh xm:X}
end
section
variable {c:Ctx} {all:Array Oper} {ops:List EOp} {af nap:List (List Nat)} {Φ:St→Prop} {m:Nat} {ld ld':List Bool} {S S' S1:St} {i f:Nat} {α β:Type} {xs:List X} {args:List AV} {M:Option α} {F:α→Option β} {r:β} {res:α→AV} {Sx:α→St}
theorem B8 {l':List α} {z:Int} {y:α} {j T n off q:Nat} {x v:X} {cs0:List AV} {f:α→List AV} (cs:List AV) (y':α) (h:G c all ops af Φ m ld' S') (H:HA c all ops af nap:=by assumption) (hr:Bx ld af 0=[i]:=by exact rfl) (ho:(Af ops i).o = .store q x v:=by exact rfl) (hg:gm S (Af ops i).g:=by trivial) (hx:S.x x = .oel j (z.toNat*n) off:=by exact rfl) (hj:Ab S.ss j=some ⟨T,n,l'.map f⟩:=by exact rfl)
  (hv:Ac l' z=some y:=by first | assumption | exact FB (by assumption)) (h6:(S.x v).cells=some cs0:=by exact rfl) (h8:AV.le.leL cs0 cs:=by first | exact AA _ | (simp [go_sem];done)) (hm:Ah cs=q:=by rfl) (h1:CA cs=true:=by rfl) (hp:AB cs=true:=by rfl) (hl:BS (f y) off cs=some (f y'):=by rfl)
  (hS:(Ay ld i,(⟨S.tm,S.bs,Av S.ss j (some ⟨T,n,(l'.set z.toNat y').map f⟩)⟩:St).put (Af ops i).d .un)=(ld',S'):=by dsimp only[go_sem]<;>exact rfl):G c all ops af Φ (m+1) ld S:=by
 simp only [Prod.mk.injEq] at hS;obtain ⟨rfl,rfl⟩:=hS;exact Ak i hr (YM H.1 cs f hv ho hg hx hj h6 h8 hm h1 hp hl h)
theorem BX {l':List α} {z:Int} {y:α} {j T n off q:Nat} {x v:X} {cs0:List AV} {f:α→List AV} (cs:List AV) (y':α) (h:G c all ops af Φ m ld' S') (H:HA c all ops af nap:=by assumption) (hr:Bx ld af 0=[i]:=by exact rfl) (ho:(Af ops i).o = .store q x v:=by exact rfl) (hg:gm S (Af ops i).g:=by trivial) (hx:S.x x = .oel j (z.toNat*n) off:=by exact rfl) (hj:Ab S.ss j=some ⟨T,n,(l'.set z.toNat y).map f⟩:=by exact rfl)
  (hv:Ac (l'.set z.toNat y) z=some y:=by exact FB (by assumption)) (h6:(S.x v).cells=some cs0:=by exact rfl) (h8:AV.le.leL cs0 cs:=by first | exact AA _ | (simp [go_sem];done)) (hm:Ah cs=q:=by rfl) (h1:CA cs=true:=by rfl) (hp:AB cs=true:=by rfl) (hl:BS (f y) off cs=some (f y'):=by rfl)
  (hS:(Ay ld i,(⟨S.tm,S.bs,Av S.ss j (some ⟨T,n,(l'.set z.toNat y').map f⟩)⟩:St).put (Af ops i).d .un)=(ld',S'):=by dsimp only[go_sem]<;>exact rfl):G c all ops af Φ (m+1) ld S:=by
 simp only [Prod.mk.injEq] at hS;obtain ⟨rfl,rfl⟩:=hS;exact Ak i hr (mz H.1 cs f hv ho hg hx hj h6 h8 hm h1 hp hl h)
theorem RB (h:M.bind F=some r) (hf:∀ {x},M=some x→C4 c.P f args (res x)) (hn:∀x,M=some x→F x=some r→G c all ops af Φ m ld' (Sx x)) (H:HA c all ops af nap:=by assumption) (hr:Bx ld af 0=[i]:=by exact rfl) (ho:(Af ops i).o = .call f xs:=by exact rfl) (hg:gm S (Af ops i).g:=by trivial)
  (ha:AV.le.leL (B6 S xs) args:=by first | exact AA _ | simp [go_sem]) (hp:AB args=true:=by first | rfl | simp [go_sem]) (hS:∀x,(Ay ld i,S.put (Af ops i).d (res x))=(ld',Sx x):=by intro x;dsimp only[go_sem]<;>exact rfl):G c all ops af Φ (m+1) ld S:=
 Ak i hr (GB H.1 h hf (fun x e h'=>by have:=hn x e h';have e2:=hS x;simp only [Prod.mk.injEq] at e2;rw [←e2.1,←e2.2] at this;exact this) ho hg ha hp)
theorem RQ (hs:CT S S1) (h:M.bind F=some r) (hf:∀ {x},M=some x→C4 c.P f args (res x)) (hn:∀x,M=some x→F x=some r→G c all ops af Φ m ld' (Sx x)) (H:HA c all ops af nap:=by assumption) (hr:Bx ld af 0=[i]:=by exact rfl) (ho:(Af ops i).o = .call f xs:=by exact rfl) (hg:gm S (Af ops i).g:=by trivial)
  (ha:AV.le.leL (B6 S1 xs) args:=by first | exact AA _ | simp [go_sem]) (hp:AB args=true:=by first | rfl | simp [go_sem]) (h6:∀x,(res x).flat=true:=by intro x;rfl) (hS:∀x,(Ay ld i,S.put (Af ops i).d (res x))=(ld',Sx x):=by intro x;dsimp only[go_sem]<;>exact rfl):G c all ops af Φ (m+1) ld S:=
 Ak i hr (GQ H.1 hs h hf (fun x e h'=>by have:=hn x e h';have e2:=hS x;simp only [Prod.mk.injEq] at e2;rw [←e2.1,←e2.2] at this;exact this) ho hg ha hp h6)
theorem RR (pb ps:List Nat) (B Q:Nat) {bs:List (Option Blk)} {ss:List (Option Sl)} {v:α→AV} {bs':α→List (Option Blk)} {ss':α→List (Option Sl)} (h:M.bind F=some r) (h0:∀ {x},M=some x→CL c.P f args bs ss (v x) (bs' x) (ss' x))
  (hn:∀x,M=some x→F x=some r→G c all ops af Φ m ld' (Sx x)) (H:HA c all ops af nap:=by assumption) (hr:Bx ld af 0=[i]:=by exact rfl) (hb:Ah pb=Ah bs:=by rfl) (hs:Ah ps=Ah ss:=by rfl) (hpb:Cd B pb=true:=by rfl) (hps:Cd Q ps=true:=by rfl) (hp:C8 ss=true:=by first | rfl | simp [go_sem]) (hp':∀x,C8 (ss' x)=true:=by intro x;first | rfl | simp [go_sem]) (ho:(Af ops i).o = .call f xs:=by exact rfl) (hg:gm S (Af ops i).g:=by trivial)
  (h6:Ax (BD pb B 0) S.bs=AI (AU B) pb (BP pb ps B Q bs):=by rfl) (h8:Ax (BD ps Q 0) S.ss=AI (AU Q) ps ss:=by rfl) (h9:∀x,BA (BD pb B 0) S.bs (AI (AU B) pb (BP pb ps B Q (bs' x)))=S.bs:=by intro x;rfl) (ha:AV.le.leL (B6 S xs) (Dd pb ps B Q args):=by first | exact AA _ | simp [go_sem])
  (hS:∀x,(Ay ld i,(⟨S.tm,S.bs,BA (BD ps Q 0) S.ss (AI (AU Q) ps (ss' x))⟩:St).put (Af ops i).d ((v x).rnF pb ps B Q))=(ld',Sx x):=by intro x;dsimp only[go_sem]<;>exact rfl):G c all ops af Φ (m+1) ld S:=
 Ak i hr (GR H.1 pb ps B Q h h0 (fun x e h'=>by have:=hn x e h';have e2:=hS x;simp only [Prod.mk.injEq] at e2;rw [←e2.1,←e2.2] at this;exact this) hb hs hpb hps hp hp' ho hg h6 h8 h9 ha)
theorem RF (pb ps:List Nat) (B Q:Nat) {bs:List (Option Blk)} {ss:List (Option Sl)} {v:α→AV} {bs':α→List (Option Blk)} {ss':α→List (Option Sl)} (h:M.bind F=some r) (h0:∀ {x},M=some x→CL c.P f args bs ss (v x) (bs' x) (ss' x))
  (hn:∀x,M=some x→F x=some r→G c all ops af Φ m ld' (Sx x)) (H:HA c all ops af nap:=by assumption) (hr:Bx ld af 0=[i]:=by exact rfl) (h6:Hh af i ops 0=true:=by kernel_rfl) (hb:Ah pb=Ah bs:=by rfl) (hs:Ah ps=Ah ss:=by rfl) (hpb:Cd B pb=true:=by rfl) (hps:Cd Q ps=true:=by rfl) (hp:C8 ss=true:=by first | rfl | simp [go_sem]) (hp':∀x,C8 (ss' x)=true:=by intro x;first | rfl | simp [go_sem]) (ho:(Af ops i).o = .call f xs:=by exact rfl) (hg:gm S (Af ops i).g:=by trivial)
  (h8:Ax (BD pb B 0) S.bs=AI (AU B) pb (BP pb ps B Q bs):=by rfl) (h9:Ax (BD ps Q 0) S.ss=AI (AU Q) ps ss:=by rfl) (ha:AV.le.leL (B6 S xs) (Dd pb ps B Q args):=by first | exact AA _ | simp [go_sem])
  (hS:∀x,(Ay ld i,(⟨S.tm,BA (BD pb B 0) S.bs (AI (AU B) pb (BP pb ps B Q (bs' x))),BA (BD ps Q 0) S.ss (AI (AU Q) ps (ss' x))⟩:St).put (Af ops i).d ((v x).rnF pb ps B Q))=(ld',Sx x):=by intro x;dsimp only[go_sem]<;>exact rfl):G c all ops af Φ (m+1) ld S:=
 Ak i hr (GF H.1 pb ps B Q h h0 (fun x e h'=>by have:=hn x e h';have e2:=hS x;simp only [Prod.mk.injEq] at e2;rw [←e2.1,←e2.2] at this;exact this) h6 hb hs hpb hps hp hp' ho hg h8 h9 ha)
end
end NX
end Go.Proofs.YtgnjledocpbchaaGreat
/-
  What a walk needs is found by itself: calls by what is known of the functions, drawn regions, binds. No statement of the seat is proved here.
-/
namespace Go.Proofs.YtgnjledocpbchaaGreat
namespace NX
open Go
class KP {β:Type} (M:Option β) (f:outParam Nat) (args:outParam (List AV)) (res:outParam (β→AV)):Prop where
 k:∀ {x},M=some x→C4 Tryz.prog f args (res x)
class KT {β:Type} (M:Option β) (f:outParam Nat) (args:outParam (List AV)) (bs:outParam (List (Option Blk))) (ss:outParam (List (Option Sl))) (v:outParam (β→AV)) (bs':outParam (β→List (Option Blk))) (ss':outParam (β→List (Option Sl))):Prop where
 k:∀ {x},M=some x→CL Tryz.prog f args bs ss (v x) (bs' x) (ss' x)
class KC {α β:Type} (p:α→Option β) (g:outParam Nat) (caps:outParam (List AV)) (ar:outParam (α→List AV)) (rs:outParam (β→AV)):Prop where
 k:CloOK Tryz.prog g caps ar p rs
class PuC (l:List AV):Prop where
 h:AB l=true
@[go_sem] theorem puC_eq {l:List AV} [PuC l]:AB l=true:=PuC.h
@[go_sem] theorem puC_ren {p q:Nat} {l:List AV} [PuC l]:Fq p q l=l:=bT p q l PuC.h
@[go_sem] theorem puC_ok {nb ns:Nat} {l:List AV} [PuC l]:Cq nb ns l=true:=C2 l PuC.h
class RW (α:Type) (f:outParam (α→List AV)):Prop
instance:RW Int Am:=⟨⟩
instance:RW Bool Zd:=⟨⟩
@[go_sem] def Pb (j:Nat):List Nat→List Nat
  | []=>[j]
  | i::l=>match i==j with
    | true=>i::l
    | false=>i::Pb j l
mutual
def AV.nms:AV→List Nat×List Nat→List Nat×List Nat
 | .osl j,a=>(Pb j a.1,a.2)
 | .oel j _ _,a=>(Pb j a.1,a.2)
 | .ocs j _ _ _,a=>(Pb j a.1,a.2)
 | .ptr j _,a=>(a.1,Pb j a.2)
 | .agg l,a=>JU l a
 | .tup l,a=>JU l a
 | .clo _ l,a=>JU l a
 | .any,a=>a
 | .un,a=>a
 | .tt,a=>a
 | .ff,a=>a
 | .bv _,a=>a
 | .iv _,a=>a
 | .kv _ _,a=>a
 | .sv _,a=>a
 | .nl,a=>a
 | .nlp,a=>a
 | .fn _,a=>a
 | .elt _ _,a=>a
 | .sl _ _,a=>a
def JU:List AV→List Nat×List Nat→List Nat×List Nat
 | [],a=>a
 | x::l,a=>JU l (x.nms a)
end
attribute [go_sem] AV.nms JU
@[go_sem] def bf (bs:List (Option Blk)):List Nat→List Nat×List Nat→List Nat×List Nat
  | [],a=>a
  | j::l,a=>match Ab bs j with
    | some b=>bf bs l (JU b.cells a)
    | none=>bf bs l a
@[go_sem] def i9 (S:St) (l:List AV):List Nat×List Nat:=bf S.bs (JU l ([],[])).2 (JU l ([],[]))
@[go_sem] def Mh:List Nat→St→St
  | [],S=>S
  | j::l,S=>match Ab S.ss j with
    | some L=>Mh l (S.sealS j L)
    | none=>Mh l S
@[go_sem] def PF:List Nat→St→Prop
  | [],_=>True
  | j::l,S=>match Ab S.ss j with
    | some L=>BU L.rows=true∧PF l (S.sealS j L)
    | none=>PF l S
@[go_sem] def PC:List Nat→St→St
  | [],S=>S
  | j::l,S=>match Ab S.bs j with
    | some B=>PC l (S.sealB j B.cells)
    | none=>PC l S
@[go_sem] def PD:List Nat→St→Prop
  | [],_=>True
  | j::l,S=>match Ab S.bs j with
    | some B=>AB B.cells=true∧PD l (S.sealB j B.cells)
    | none=>PD l S
theorem ZK:∀(l:List Nat) {S S1:St},CT S S1→PF l S1→CT S (Mh l S1)
 | [],_,_,h,_=>h
 | j::l,S,S1,h,ho=>by
   unfold Mh;unfold PF at ho;cases e:Ab S1.ss j with
   | none=>rw [e] at ho;exact ZK l h ho
   | some L=>rw [e] at ho;exact ZK l (h.slice j e ho.1) ho.2
theorem ZJ:∀(l:List Nat) {S S1:St},CT S S1→PD l S1→CT S (PC l S1)
 | [],_,_,h,_=>h
 | j::l,S,S1,h,ho=>by
   unfold PC;unfold PD at ho;cases e:Ab S1.bs j with
   | none=>rw [e] at ho;exact ZJ l h ho
   | some L=>rw [e] at ho;exact ZJ l (h.block j e ho.1) ho.2
@[go_sem] def sg (n:List Nat×List Nat) (S:St):St:=PC n.2 (Mh n.1 S)
@[go_sem] def sh (n:List Nat×List Nat) (S:St):Prop:=PF n.1 S∧PD n.2 (Mh n.1 S)
@[go_sem] def Tt:List Nat→Nat→Nat→List Nat
  | [],_,_=>[]
  | _::l,0,x=>x::l
  | y::l,n+1,x=>y::Tt l n x
@[go_sem] def gY:List Nat→Nat→Nat
  | [],_=>0
  | x::_,0=>x
  | _::l,n+1=>gY l n
@[go_sem] def d9:Nat→List Nat
  | 0=>[]
  | n+1=>0::d9 n
mutual
def gV:AV→AV→List Nat×List Nat→List Nat×List Nat
 | .osl j,y,a=>match y with
   | .osl i=>(a.1,Tt a.2 j i)
   | _=>a
 | .oel j _ _,y,a=>match y with
   | .oel i _ _=>(a.1,Tt a.2 j i)
   | _=>a
 | .ocs j _ _ _,y,a=>match y with
   | .ocs i _ _ _=>(a.1,Tt a.2 j i)
   | _=>a
 | .ptr j _,y,a=>match y with
   | .ptr i _=>(Tt a.1 j i,a.2)
   | _=>a
 | .agg l,y,a=>match y with
   | .agg m=>Ln l m a
   | _=>a
 | .tup l,y,a=>match y with
   | .tup m=>Ln l m a
   | _=>a
 | .clo _ l,y,a=>match y with
   | .clo _ m=>Ln l m a
   | _=>a
 | .any,_,a=>a
 | .un,_,a=>a
 | .tt,_,a=>a
 | .ff,_,a=>a
 | .bv _,_,a=>a
 | .iv _,_,a=>a
 | .kv _ _,_,a=>a
 | .sv _,_,a=>a
 | .nl,_,a=>a
 | .nlp,_,a=>a
 | .fn _,_,a=>a
 | .elt _ _,_,a=>a
 | .sl _ _,_,a=>a
def Ln:List AV→List AV→List Nat×List Nat→List Nat×List Nat
 | [],_,a=>a
 | x::l,m,a=>match m with
   | []=>a
   | y::m=>Ln l m (gV x y a)
end
attribute [go_sem] gV Ln
@[go_sem] def XG (bs:List (Option Blk)):List (Option Blk)→Nat→List Nat×List Nat→List Nat×List Nat
  | [],_,a=>a
  | none::l,j,a=>XG bs l (j+1) a
  | some b::l,j,a=>match Ab bs (gY a.1 j) with
    | some b2=>XG bs l (j+1) (Ln b.cells b2.cells a)
    | none=>XG bs l (j+1) a
section
variable {c:Ctx} {S:St} {f:Nat} {xs:List X} {args:List AV} {res:AV}
theorem sA (hf:C4 c.P f (B6 S xs) res:=by assumption) (hp:AB (B6 S xs)=true:=by first | rfl | (simp [go_sem]<;>fail)):B3 c S (.call f xs) res S:=Ys hf (AA _) hp
theorem sB (hf:C4 c.P f args res:=by assumption) (ha:AV.le.leL (B6 S xs) args:=by first | exact AA _ | (simp [go_sem]<;>fail)) (hp:AB args=true:=by first | rfl | (simp [go_sem]<;>fail)):B3 c S (.call f xs) res S:=Ys hf ha hp
theorem sL {S':St} (e:sg (i9 S (B6 S xs)) S=S':=by dsimp only[go_sem]<;>exact rfl) (hf:C4 c.P f args res:=by first | assumption) (ha:AV.le.leL (B6 S' xs) args:=by first | exact AA _ | (simp [go_sem]<;>fail)) (ho:sh (i9 S (B6 S xs)) S:=by (simp [go_sem]<;>fail)) (hp:AB args=true:=by first | rfl | (simp [go_sem]<;>fail)) (h6:res.flat=true:=by rfl):B3 c S (.call f xs) res S:=cw (by rw [←e];exact ZJ _ (ZK _ (CT.refl S) ho.1) ho.2) hf ha hp h6
theorem sT {v:AV} {bs bs':List (Option Blk)} {ss ss':List (Option Sl)} {pb ps:List Nat} (h0:CL c.P f args bs ss v bs' ss':=by assumption) (_hm:XG S.bs bs 0 (Ln args (B6 S xs) (d9 (Ah bs),d9 (Ah ss)))=(pb,ps):=by dsimp only[go_sem]<;>exact rfl)
  (hb:Ah pb=Ah bs:=by rfl) (hs:Ah ps=Ah ss:=by rfl) (hpb:Cd (Ah S.bs) pb=true:=by rfl) (hps:Cd (Ah S.ss) ps=true:=by rfl) (hp:C8 ss=true:=by first | rfl | (simp [go_sem]<;>fail)) (hp':C8 ss'=true:=by first | rfl | (simp [go_sem]<;>fail))
  (h6:Ax (BD pb (Ah S.bs) 0) S.bs=AI (AU (Ah S.bs)) pb (BP pb ps (Ah S.bs) (Ah S.ss) bs):=by rfl) (h8:Ax (BD ps (Ah S.ss) 0) S.ss=AI (AU (Ah S.ss)) ps ss:=by rfl) (ha:AV.le.leL (B6 S xs) (Dd pb ps (Ah S.bs) (Ah S.ss) args):=by first | exact AA _ | (simp [go_sem]<;>fail)):
  B3 c S (.call f xs) (v.rnF pb ps (Ah S.bs) (Ah S.ss)) ⟨S.tm,BA (BD pb (Ah S.bs) 0) S.bs (AI (AU (Ah S.bs)) pb (BP pb ps (Ah S.bs) (Ah S.ss) bs')),BA (BD ps (Ah S.ss) 0) S.ss (AI (AU (Ah S.ss)) ps ss')⟩:=
 Yt _ _ (EY pb ps (Ah S.bs) (Ah S.ss) h0 hb hs hpb hps hp hp') h6 h8 ha
theorem sC {α β:Type} {g:Nat} {o:X} {caps:List AV} {ar:α→List AV} {p:α→Option β} {rs:β→AV} {x:α} {v:β} (ho:S.x o = .clo g caps:=by exact rfl) (hc:CloOK c.P g caps ar p rs:=by assumption) (hv:p x=some v:=by assumption)
  (ha:B6 S xs=ar x:=by exact rfl) (hp:AB (ar x)=true:=by first | rfl | (simp [go_sem]<;>fail)):B3 c S (.callv o xs) (rs v) S:=by
 have kp:∀ {a:List AV},AB a=true→AB (a++caps)=true:=by
  intro a;induction a with
  | nil=>intro _;exact hc.pu
  | cons y a ih=>intro h;simp only [AB,AS,List.cons_append] at h ⊢;exact ⟨h.1,ih h.2⟩
 exact cx ho (hc.h x v hv) hc.b (by rw [ha];exact AA _) (kp hp)
section
variable {α:Type} {l':List α} {z:Int} {v:α} {h:α→List AV} {x y:X} {n j m T:Nat}
theorem sI (hx:S.x x = .sl m (l'.map h):=by exact rfl) (hi:S.x y = .iv z:=by exact rfl) (hv:Ac l' z=some v:=by first | assumption | exact FB (by assumption)) (h6:m=n:=by exact rfl):B3 c S (.idx n x y) (.elt (h v) 0) S:=by obtain ⟨h0,hr⟩:=DD hv;exact cy (h v) hx hi h6 h0 (FJ hr)
theorem sJ (hx:S.x x = .osl j:=by exact rfl) (hi:S.x y = .iv z:=by exact rfl) (hj:Ab S.ss j=some ⟨T,n,l'.map h⟩:=by exact rfl) (hv:Ac l' z=some v:=by first | assumption | exact FB (by assumption)):B3 c S (.idx n x y) (.oel j (z.toNat*n) 0) S:=by obtain ⟨h0,hr⟩:=DD hv;have:=(List.getElem?_eq_some_iff.1 hr).1;exact cz hx hi hj rfl h0 (by simp only [List.length_map];omega)
theorem sK {off:Nat} {r:AV} (hx:S.x x = .oel j (z.toNat*n) off:=by exact rfl) (hj:Ab S.ss j=some ⟨T,n,l'.map h⟩:=by exact rfl) (hv:Ac l' z=some v:=by first | assumption | exact FB (by assumption)) (hl:Db (h v) off 1=some [r]:=by exact rfl):B3 c S (.load x) r S:=Yw hx hj rfl (FJ (DD hv).2) hl
theorem sM {off:Nat} {r:List AV} (hx:S.x x = .oel j (z.toNat*n) off:=by exact rfl) (hj:Ab S.ss j=some ⟨T,n,l'.map h⟩:=by exact rfl) (hv:Ac l' z=some v:=by first | assumption | exact FB (by assumption)) (hl:Db (h v) off m=some r:=by exact rfl):B3 c S (.loadA m x) (.agg r) S:=cA hx hj rfl (FJ (DD hv).2) hl
theorem sP {b e:Nat} {m' v:List α} (hx:S.x x = .osl j:=by exact rfl) (hj:Ab S.ss j=some ⟨e,n,l'.map h⟩:=by exact rfl) (hv:AE b l' m'=some v:=by assumption) (hy:Ef S n (S.x y)=some (m'.map h):=by exact rfl):B3 c S (.app e n b x y) (.osl (Ah S.ss)) (S.app j ⟨e,n,v.map h⟩):=by obtain ⟨h0,h1,h2⟩:=LP hv;subst h0;rw [List.map_append];exact Yr (L:=⟨e,n,l'.map h⟩) hx hj rfl rfl hy (by simpa using h1) (by simpa using h2)
theorem sQ {b e:Nat} {m' v:List α} (hx:S.x x = .nl:=by exact rfl) (hv:AE b [] m'=some v:=by assumption) (hy:Ef S n (S.x y)=some (m'.map h):=by exact rfl):B3 c S (.app e n b x y) (.osl (Ah S.ss)) (S.app0 ⟨e,n,v.map h⟩):=by obtain ⟨h0,h1,h2⟩:=LP hv;rw [List.nil_append] at h0;subst h0;exact la hx hy (by simpa using h1) (by simpa using h2)
theorem sR {b e:Nat} {m' v:List α} (hx:S.x x = .osl j:=by exact rfl) (hv:AE b l' m'=some v:=by assumption) (_hw:RW α h:=by infer_instance) (hj:Ab S.ss j=some ⟨e,n,l'.map h⟩:=by exact rfl) (hy:Ef S n (S.x y)=some (m'.map h):=by exact rfl):B3 c S (.app e n b x y) (.osl (Ah S.ss)) (S.app j ⟨e,n,v.map h⟩):=sP hx hj hv hy
theorem sS {b e:Nat} {m' v:List α} (hx:S.x x = .nl:=by exact rfl) (hv:AE b [] m'=some v:=by assumption) (_hw:RW α h:=by infer_instance) (hy:Ef S n (S.x y)=some (m'.map h):=by exact rfl):B3 c S (.app e n b x y) (.osl (Ah S.ss)) (S.app0 ⟨e,n,v.map h⟩):=sQ hx hv hy
end
end
theorem Bt {α β:Type} {o:Option α} {f:α→Option β} {r:β} {v:α} (h:o.bind f=some r) (e:o=some v):f v=some r:=by rw [e] at h;exact h
theorem Sm {p:Prop} (h:p:=by first | exact sA | exact sI | exact sJ | exact sK | exact sM | exact sP | exact sR | exact sS | exact sQ | exact sT | exact sL | exact sB | exact sC):p:=h
section
variable {c:Ctx} {S S':St} {fn:Func} {K:AV→List (Option Blk)→List (Option Sl)→Prop} {k:List It} {β:Type}
theorem Xv {d:Option Nat} {g:Option (Nat×Bool)} {o:EO} {l:List EOp} {v:AV} {S1:St} (h:V c fn K (.ops l::k) S') (hs:B3 c S o v S1:=by exact Sm) (hg:gm S g:=by trivial) (h6:S1.tm=S.tm:=by exact rfl) (hS:S1.put d v=S':=by dsimp only[go_sem]<;>exact rfl):V c fn K (.ops (⟨d,g,o⟩::l)::k) S:=Ba hg hs h6 (by rw [hS];exact h)
variable {all:Array Oper} {ops:List EOp} {af nap:List (List Nat)} {Φ:St→Prop} {m:Nat} {ld ld':List Bool}
theorem Xg {i:Nat} {o:EO} {v:AV} {S1:St} (h:G c all ops af Φ m ld' S') (H:HA c all ops af nap:=by assumption) (ho:(Af ops i).o=o:=by exact rfl) (hs:B3 c S o v S1:=by exact Sm) (hg:gm S (Af ops i).g:=by trivial) (h6:S1.tm=S.tm:=by exact rfl)
  (hk:S1.bs=S.bs∨Hh af i ops 0=true:=by first | exact .inl rfl | exact .inr (by kernel_rfl)) (hS:(Ay ld i,S1.put (Af ops i).d v)=(ld',S'):=by dsimp only[go_sem]<;>exact rfl):GO c all ops af Φ m ld S i:=by
 simp only [Prod.mk.injEq] at hS;obtain ⟨rfl,rfl⟩:=hS;rcases hk with hk | hk
 ·refine Bz (S1:=S1) H.1 hg (by rw [ho];exact hs) h6 ?_ h;intro j off n l hr hp hn;simpa [CS,hk] using hr
 ·exact de (S1:=S1) H.1 hg (by rw [ho];exact hs) h6 (fk hk) h
theorem Xr {E:St} (h:Φ E) (h1:G c all ops af (fun S'=>S'=E) m ld S:=by
 repeat' first
  | exact Rd
  | refine Rg ?_
  | refine YS ?_
  | refine YT ?_
  | refine R1 ?_
  | refine R2 ?_ ?_
  | refine RO ?_
  | refine R3 ?_ ?_ ?_
  | refine RV ?_
  | refine Xg ?_):G c all ops af Φ m ld S:=U5 (fun _ e=>by rw [e];exact h) _ _ _ h1
theorem Xm {t i:Nat} {b e:Bool} {w:List Nat} {A B:Option β} {r:β} (h:A0 e A B=some r) (h1:A=some r→G c all ops af (fun S'=>V c fn K k S') m ld ⟨BC S.tm t .tt,S.bs,S.ss⟩) (h2:B=some r→G c all ops af (fun S'=>V c fn K k S') m ld ⟨BC S.tm t .ff,S.bs,S.ss⟩)
 (_hr:Bx ld af 0=i::w:=by exact rfl) (_hg:(Af ops i).g=some (t,b):=by exact rfl) (ht:AM S.tm t = .bv e:=by exact rfl):G c all ops af (fun S'=>V c fn K k S') m ld S:=BW t h ht (fun _=>h1) fun _=>h2
theorem Xn {t i:Nat} {x y:X} {e:Bool} {w:List Nat} {A B:Option β} {r:β} (h:A0 e A B=some r) (h1:A=some r→G c all ops af (fun S'=>V c fn K k S') m ld ⟨BC S.tm t .tt,S.bs,S.ss⟩) (h2:B=some r→G c all ops af (fun S'=>V c fn K k S') m ld ⟨BC S.tm t .ff,S.bs,S.ss⟩)
 (_hr:Bx ld af 0=i::w:=by exact rfl) (_hg:(Af ops i).o = .pick (.t t) x y:=by exact rfl) (ht:AM S.tm t = .bv e:=by exact rfl):G c all ops af (fun S'=>V c fn K k S') m ld S:=BW t h ht (fun _=>h1) fun _=>h2
end
inductive Ad
 | s (j:Nat)
 | r (p q:Nat)
 | w (T n:Nat)
 | o (j o T n:Nat)
 | t (i T n:Nat)
@[go_sem] def Us (S:St):Ad→St
  | .s j=>match Ab S.ss j with
    | some L=>S.sealS j L
    | none=>S
  | .r p q=>bU S p q
  | .w T n=>⟨S.tm,S.bs,S.ss++[some ⟨T,n,[]⟩]⟩
  | .o j o T n=>match Ab S.bs j with
    | some B=>⟨S.tm,Av S.bs j (some ⟨B.T,BC B.cells o (.osl (Ah S.ss))⟩),S.ss++[some ⟨T,n,[]⟩]⟩
    | none=>S
  | .t i T n=>⟨BC S.tm i (.osl (Ah S.ss)),S.bs,S.ss++[some ⟨T,n,[]⟩]⟩
@[go_sem] def bF (S:St):Ad→Prop
  | .s j=>match Ab S.ss j with
    | some L=>BU L.rows=true
    | none=>True
  | .r p q=>(Ab S.ss p).isSome=true∧AF (q+1) (Ah S.ss)=true∧(p==q)=false∧C8 S.ss=true
  | .w _ n=>AF 1 n=true
  | .o j o _ n=>match Ab S.bs j with
    | some B=>AM B.cells o = .nl∧AF 1 n=true
    | none=>True
  | .t i _ n=>AM S.tm i = .nl∧AF 1 n=true
def ts (q0:Nat):Ad→Bool
 | .r _ q=>AF q0 q
 | _=>true
@[go_sem] def Ut:List Ad→St→St
  | [],S=>S
  | a::l,S=>Ut l (Us S a)
@[go_sem] def Y8:List Ad→St→Prop
  | [],_=>True
  | a::l,S=>bF S a∧Y8 l (Us S a)
def Tu (q0:Nat):List Ad→Bool
 | []=>true
 | a::l=>ts q0 a&&Tu q0 l
def tq:List It→Bool
 | .ops _::_=>false
 | _=>true
def AJ (_:List Ad):Prop:=True
section
variable {c:Ctx} {S S':St} {fn:Func} {K:AV→List (Option Blk)→List (Option Sl)→Prop} {k:List It}
theorem Wy {l:List Ad} (h:V c fn K k (Ut l S)) (ho:Y8 l S) (hq:Tu c.nq l=true):V c fn K k S:=by
 induction l generalizing S with
 | nil=>exact h
 | cons a l ih=>
   unfold Tu at hq;rw [Bool.and_eq_true] at hq;have h1:=ih h ho.2 hq.2;have h0:=ho.1;cases a with
   | s j=>
     dsimp only [bF] at h0;dsimp only [Us] at h1;cases e:Ab S.ss j with
     | none=>rw [e] at h1;exact h1
     | some L=>rw [e] at h0 h1;exact dw j e h1 h0
   | r p q=>exact Ub p q h1 h0.1 h0.2.1 h0.2.2.1 hq.1 h0.2.2.2
   | w T n=>exact ni T n h0 h1
   | o j o T n=>
     dsimp only [bF] at h0;dsimp only [Us] at h1;cases e:Ab S.bs j with
     | none=>rw [e] at h1;exact h1
     | some B=>rw [e] at h0 h1;exact nk j o T n e h0.1 h0.2 h1
   | t i T n=>exact Gp i T n h0.1 h0.2 h1
theorem Wj (l:List Ad) (h:V c fn K k S') (e:Ut l S=S':=by dsimp only[go_sem]<;>exact rfl) (ho:Y8 l S:=by (simp [go_sem]<;>fail)) (hq:Tu c.nq l=true:=by rfl):V c fn K k S:=Wy (e.symm ▸ h) ho hq
theorem Wz {l:List Ad} (_A:AJ l) (h:V c fn K k S') (_g:tq k=true:=by exact rfl) (e:Ut l S=S':=by dsimp only[go_sem]<;>exact rfl) (ho:Y8 l S:=by (simp [go_sem]<;>fail)) (hq:Tu c.nq l=true:=by rfl):V c fn K k S:=Wy (e.symm ▸ h) ho hq
end
theorem Wx {p:Prop} (hp:p:=by
 try have ic0:=KC.mk h6
 try have ic1:=KC.mk h8
 try have ic2:=KC.mk h9
 try have h6:=KC.k (self:=ic0)
 try have h8:=KC.k (self:=ic1)
 try have h9:=KC.k (self:=ic2)
 try have hw:=KC.k (self:=icc0)
 try have ip0:=PuC.mk (KC.k (self:=ic0)).pu
 try have ip1:=PuC.mk (KC.k (self:=ic1)).pu
 try have ip2:=PuC.mk (KC.k (self:=ic2)).pu
 try have ipc0:=PuC.mk (KC.k (self:=icc0)).pu
 try dsimp only
 repeat' first
  | (with_reducible have h:=CU h hout3)
  | (with_reducible have h:=CU h hout2)
  | (with_reducible have h:=CU h hout1)
  | exact Wt J1 h
  | exact Wt J2 h
  | exact Wt J3 h
  | exact Wt J4 h
  | exact Wt J5 h
  | exact Wt J6 h
  | exact Wt J7 h
  | exact Wt J8 h
  | exact Wt J9 h
  | exact Wt J10 h
  | exact Wt J11 h
  | exact Wt J12 h
  | exact Wd ok h
  | exact We ok h
  | exact Td ok h
  | exact Ts ok h
  | exact Wb h hin1
  | exact Wb h hin2
  | exact Wb h hin3
  | refine D5 J12 ?_
  | refine D5 J11 ?_
  | refine D5 J10 ?_
  | refine D5 J9 ?_
  | refine D5 J8 ?_
  | refine D5 J7 ?_
  | refine D5 J6 ?_
  | refine D5 J5 ?_
  | refine D5 J4 ?_
  | refine D5 J3 ?_
  | refine D5 J2 ?_
  | refine D5 J1 ?_
  | (refine Wz A1 ?_
     first
      | exact Wt J1 h
      | exact Wt J2 h
      | exact Wt J3 h
      | exact Wt J4 h
      | exact Wt J5 h
      | exact Wt J6 h
      | exact Wt J7 h
      | exact Wt J8 h
      | exact Wt J9 h
      | exact Wt J10 h
      | exact Wt J11 h
      | exact Wt J12 h
      | exact Wd ok h
      | exact We ok h
      | exact Td ok h
      | exact Ts ok h
      | exact Wb h hin1
      | exact Wb h hin2
      | exact Wb h hin3)
  | (refine Wz A2 ?_
     first
      | exact Wt J1 h
      | exact Wt J2 h
      | exact Wt J3 h
      | exact Wt J4 h
      | exact Wt J5 h
      | exact Wt J6 h
      | exact Wt J7 h
      | exact Wt J8 h
      | exact Wt J9 h
      | exact Wt J10 h
      | exact Wt J11 h
      | exact Wt J12 h
      | exact Wd ok h
      | exact We ok h
      | exact Td ok h
      | exact Ts ok h
      | exact Wb h hin1
      | exact Wb h hin2
      | exact Wb h hin3)
  | (refine Wz A3 ?_
     first
      | exact Wt J1 h
      | exact Wt J2 h
      | exact Wt J3 h
      | exact Wt J4 h
      | exact Wt J5 h
      | exact Wt J6 h
      | exact Wt J7 h
      | exact Wt J8 h
      | exact Wt J9 h
      | exact Wt J10 h
      | exact Wt J11 h
      | exact Wt J12 h
      | exact Wd ok h
      | exact We ok h
      | exact Td ok h
      | exact Ts ok h
      | exact Wb h hin1
      | exact Wb h hin2
      | exact Wb h hin3)
  | (refine Wz A4 ?_
     first
      | exact Wt J1 h
      | exact Wt J2 h
      | exact Wt J3 h
      | exact Wt J4 h
      | exact Wt J5 h
      | exact Wt J6 h
      | exact Wt J7 h
      | exact Wt J8 h
      | exact Wt J9 h
      | exact Wt J10 h
      | exact Wt J11 h
      | exact Wt J12 h
      | exact Wd ok h
      | exact We ok h
      | exact Td ok h
      | exact Ts ok h
      | exact Wb h hin1
      | exact Wb h hin2
      | exact Wb h hin3)
  | (refine Wz A5 ?_
     first
      | exact Wt J1 h
      | exact Wt J2 h
      | exact Wt J3 h
      | exact Wt J4 h
      | exact Wt J5 h
      | exact Wt J6 h
      | exact Wt J7 h
      | exact Wt J8 h
      | exact Wt J9 h
      | exact Wt J10 h
      | exact Wt J11 h
      | exact Wt J12 h
      | exact Wd ok h
      | exact We ok h
      | exact Td ok h
      | exact Ts ok h
      | exact Wb h hin1
      | exact Wb h hin2
      | exact Wb h hin3)
  | (refine Wz A6 ?_
     first
      | exact Wt J1 h
      | exact Wt J2 h
      | exact Wt J3 h
      | exact Wt J4 h
      | exact Wt J5 h
      | exact Wt J6 h
      | exact Wt J7 h
      | exact Wt J8 h
      | exact Wt J9 h
      | exact Wt J10 h
      | exact Wt J11 h
      | exact Wt J12 h
      | exact Wd ok h
      | exact We ok h
      | exact Td ok h
      | exact Ts ok h
      | exact Wb h hin1
      | exact Wb h hin2
      | exact Wb h hin3)
  | (refine Wz A7 ?_
     first
      | exact Wt J1 h
      | exact Wt J2 h
      | exact Wt J3 h
      | exact Wt J4 h
      | exact Wt J5 h
      | exact Wt J6 h
      | exact Wt J7 h
      | exact Wt J8 h
      | exact Wt J9 h
      | exact Wt J10 h
      | exact Wt J11 h
      | exact Wt J12 h
      | exact Wd ok h
      | exact We ok h
      | exact Td ok h
      | exact Ts ok h
      | exact Wb h hin1
      | exact Wb h hin2
      | exact Wb h hin3)
  | (refine Wz A8 ?_
     first
      | exact Wt J1 h
      | exact Wt J2 h
      | exact Wt J3 h
      | exact Wt J4 h
      | exact Wt J5 h
      | exact Wt J6 h
      | exact Wt J7 h
      | exact Wt J8 h
      | exact Wt J9 h
      | exact Wt J10 h
      | exact Wt J11 h
      | exact Wt J12 h
      | exact Wd ok h
      | exact We ok h
      | exact Td ok h
      | exact Ts ok h
      | exact Wb h hin1
      | exact Wb h hin2
      | exact Wb h hin3)
  | (refine Wz A9 ?_
     first
      | exact Wt J1 h
      | exact Wt J2 h
      | exact Wt J3 h
      | exact Wt J4 h
      | exact Wt J5 h
      | exact Wt J6 h
      | exact Wt J7 h
      | exact Wt J8 h
      | exact Wt J9 h
      | exact Wt J10 h
      | exact Wt J11 h
      | exact Wt J12 h
      | exact Wd ok h
      | exact We ok h
      | exact Td ok h
      | exact Ts ok h
      | exact Wb h hin1
      | exact Wb h hin2
      | exact Wb h hin3)
  | refine Vs ?_
  | refine MI h (fun h=>?_) fun h=>?_
  | refine MG h (fun h=>?_) fun h=>?_
  | refine MP h (fun h=>?_) fun h=>?_
  | refine Xv ?_
  | refine AD fun all H=>Xr ?_
  | (have h:=Bt h (by with_reducible assumption))
  | (have ⟨_,ex,h⟩:=Bs h;try first | have ey:=KP.k ex | have ey:=KT.k ex)
  | refine AD fun all H=>?_
  | (refine GD ?_;try dsimp only)
  | refine Rg ?_
  | refine YS ?_
  | refine YT ?_
  | refine R1 ?_
  | refine RO ?_
  | refine Xm h (fun h=>?_) fun h=>?_
  | refine Xn h (fun h=>?_) fun h=>?_
  | refine R2 ?_ ?_
  | refine R3 ?_ ?_ ?_
  | refine RV ?_
  | refine Xg ?_):p:=hp
end NX
end Go.Proofs.YtgnjledocpbchaaGreat
/-
  The program's data. No statement of the seat is proved here.
-/
namespace Go.Proofs.YtgnjledocpbchaaGreat
namespace NX
open Go
structure SX where
 PE:Int
 EP:Int
 SS:Int
 FK:Bool
 DY:Bool
 TO:Bool
 BO:Bool
 Ask:Bool
 deriving DecidableEq,Inhabited
def SX.row (x:SX):List AV:=[.iv x.PE,.iv x.EP,.iv x.SS,.bv x.FK,.bv x.DY,.bv x.TO,.bv x.BO,.bv x.Ask]
attribute [go_sem] SX.row
structure DI where
 ID:Int
 PH:Int
 SD:(List SX)
 deriving DecidableEq,Inhabited
def DI.row (x:DI):List AV:=[.iv x.ID,.iv x.PH,.sl 8 (List.map SX.row x.SD)]
attribute [go_sem] DI.row
structure DK where
 DI:DI
 TH:Int
 NE:(List Int)
 deriving DecidableEq,Inhabited
def DK.row (x:DK):List AV:=[.iv x.DI.ID,.iv x.DI.PH,.sl 8 (List.map SX.row x.DI.SD),.iv x.TH,.sl 1 (List.map Am x.NE)]
attribute [go_sem] DK.row
structure SE where
 ID:Int
 NE:(List Int)
 SS:Int
 Age:Int
 deriving DecidableEq,Inhabited
def SE.row (x:SE):List AV:=[.iv x.ID,.sl 1 (List.map Am x.NE),.iv x.SS,.iv x.Age]
attribute [go_sem] SE.row
structure BK where
 LA:Int
 SE:(List SE)
 deriving DecidableEq,Inhabited
def BK.row (x:BK):List AV:=[.iv x.LA,.sl 4 (List.map SE.row x.SE)]
attribute [go_sem] BK.row
structure KE where
 PE:Int
 EP:Int
 deriving DecidableEq,Inhabited
def KE.row (x:KE):List AV:=[.iv x.PE,.iv x.EP]
attribute [go_sem] KE.row
structure NO where
 DK:DK
 BK:BK
 KN:(List KE)
 TL:(List Int)
 AK:(List KE)
 deriving DecidableEq,Inhabited
def NO.row (x:NO):List AV:=[.iv x.DK.DI.ID,.iv x.DK.DI.PH,.sl 8 (List.map SX.row x.DK.DI.SD),.iv x.DK.TH,.sl 1 (List.map Am x.DK.NE),.iv x.BK.LA,.sl 4 (List.map SE.row x.BK.SE),.sl 2 (List.map KE.row x.KN),.sl 1 (List.map Am x.TL),.sl 2 (List.map KE.row x.AK)]
attribute [go_sem] NO.row
structure Msg where
 KI:Int
 EP:Int
 Num:Int
 deriving DecidableEq,Inhabited
def Msg.row (x:Msg):List AV:=[.iv x.KI,.iv x.EP,.iv x.Num]
attribute [go_sem] Msg.row
structure ML where
 From:Int
 To:Int
 Msg:Msg
 deriving DecidableEq,Inhabited
def ML.row (x:ML):List AV:=[.iv x.From,.iv x.To,.iv x.Msg.KI,.iv x.Msg.EP,.iv x.Msg.Num]
attribute [go_sem] ML.row
structure EV where
 KI:Int
 NO:Int
 ID:Int
 PE:Int
 NE:(List Int)
 deriving DecidableEq,Inhabited
def EV.row (x:EV):List AV:=[.iv x.KI,.iv x.NO,.iv x.ID,.iv x.PE,.sl 1 (List.map Am x.NE)]
attribute [go_sem] EV.row
structure node_node where
 NO:NO
 out:(List ML)
 seen:(List EV)
 e:Int
 deriving DecidableEq,Inhabited
def node_node.row (x:node_node):List AV:=[.iv x.NO.DK.DI.ID,.iv x.NO.DK.DI.PH,.sl 8 (List.map SX.row x.NO.DK.DI.SD),.iv x.NO.DK.TH,.sl 1 (List.map Am x.NO.DK.NE),.iv x.NO.BK.LA,.sl 4 (List.map SE.row x.NO.BK.SE),.sl 2 (List.map KE.row x.NO.KN),.sl 1 (List.map Am x.NO.TL),.sl 2 (List.map KE.row x.NO.AK),.sl 5 (List.map ML.row x.out),.sl 5 (List.map EV.row x.seen),.iv x.e]
attribute [go_sem] node_node.row
structure drink_drinker where
 DK:DK
 out:(List ML)
 deriving DecidableEq,Inhabited
def drink_drinker.row (x:drink_drinker):List AV:=[.iv x.DK.DI.ID,.iv x.DK.DI.PH,.sl 8 (List.map SX.row x.DK.DI.SD),.iv x.DK.TH,.sl 1 (List.map Am x.DK.NE),.sl 5 (List.map ML.row x.out)]
attribute [go_sem] drink_drinker.row
structure Do where
 KI:Int
 ID:Int
 PE:Int
 Hold:Int
 NE:(List Int)
 deriving DecidableEq,Inhabited
def Do.row (x:Do):List AV:=[.iv x.KI,.iv x.ID,.iv x.PE,.iv x.Hold,.sl 1 (List.map Am x.NE)]
attribute [go_sem] Do.row
structure HL where
 NS:(List NO)
 ML:(List ML)
 deriving DecidableEq,Inhabited
def HL.row (x:HL):List AV:=[.sl 10 (List.map NO.row x.NS),.sl 5 (List.map ML.row x.ML)]
attribute [go_sem] HL.row
structure narthexlaw19_Step where
 ML:Bool
 A:Int
 B:Int
 Do:Do
 deriving DecidableEq,Inhabited
def narthexlaw19_Step.row (x:narthexlaw19_Step):List AV:=[.bv x.ML,.iv x.A,.iv x.B,.iv x.Do.KI,.iv x.Do.ID,.iv x.Do.PE,.iv x.Do.Hold,.sl 1 (List.map Am x.Do.NE)]
attribute [go_sem] narthexlaw19_Step.row
structure Bar where
 DS:(List DK)
 ML:(List ML)
 deriving DecidableEq,Inhabited
def Bar.row (x:Bar):List AV:=[.sl 5 (List.map DK.row x.DS),.sl 5 (List.map ML.row x.ML)]
attribute [go_sem] Bar.row
structure SN where
 DZ:(List DI)
 ML:(List ML)
 deriving DecidableEq,Inhabited
def SN.row (x:SN):List AV:=[.sl 3 (List.map DI.row x.DZ),.sl 5 (List.map ML.row x.ML)]
attribute [go_sem] SN.row
structure Edge where
 A:Int
 B:Int
 deriving DecidableEq,Inhabited
def Edge.row (x:Edge):List AV:=[.iv x.A,.iv x.B]
attribute [go_sem] Edge.row
structure Graph where
 N:Int
 Edges:(List Edge)
 deriving DecidableEq,Inhabited
def Graph.row (x:Graph):List AV:=[.iv x.N,.sl 2 (List.map Edge.row x.Edges)]
attribute [go_sem] Graph.row
structure Place where
 BK:BK
 Live:(List Int)
 deriving DecidableEq,Inhabited
def Place.row (x:Place):List AV:=[.iv x.BK.LA,.sl 4 (List.map SE.row x.BK.SE),.sl 1 (List.map Am x.Live)]
attribute [go_sem] Place.row
structure Model where
 Places:(List Place)
 deriving DecidableEq,Inhabited
def Model.row (x:Model):List AV:=[.sl 3 (List.map Place.row x.Places)]
attribute [go_sem] Model.row
@[go_sem] def ux:Nat→List AV→List AV
 | 0,l=>l
 | n+1,l=>.un::ux n l
@[go_sem,reducible] def CW (x:List Place):Option Sl:=some ⟨62,3,List.map Place.row x⟩
@[go_sem,reducible] def Aj (x:List Int):AV:=.sl 1 (List.map Am x)
@[go_sem,reducible] def mL (x:List DI):AV:=.sl 3 (List.map DI.row x)
@[go_sem,reducible] def YU (x:List DI):Option Sl:=some ⟨51,3,List.map DI.row x⟩
@[go_sem,reducible] def Al (x:List SX):Option Sl:=some ⟨100,8,List.map SX.row x⟩
@[go_sem,reducible] def CV (x:List SX):AV:=.sl 8 (List.map SX.row x)
@[go_sem,reducible] def Bf (x:List KE):AV:=.sl 2 (List.map KE.row x)
@[go_sem,reducible] def C0 (x:List Place):AV:=.sl 3 (List.map Place.row x)
@[go_sem,reducible] def CM (x:List ML):AV:=.sl 5 (List.map ML.row x)
@[go_sem,reducible] def Ep (x:List NO):AV:=.sl 10 (List.map NO.row x)
@[go_sem,reducible] def ED (x:List EV):AV:=.sl 5 (List.map EV.row x)
@[go_sem,reducible] def Aq (x:List SE):AV:=.sl 4 (List.map SE.row x)
@[go_sem,reducible] def Ae (x:List Int):Option Sl:=some ⟨3,1,List.map Am x⟩
@[go_sem,reducible] def AG (x:List ML):Option Sl:=some ⟨156,5,List.map ML.row x⟩
@[go_sem,reducible] def F0 (x:List NO):Option Sl:=some ⟨60,10,List.map NO.row x⟩
@[go_sem,reducible] def B4 (x:List SE):Option Sl:=some ⟨67,4,List.map SE.row x⟩
@[go_sem,reducible] def U7 (x:List narthexlaw19_Step):AV:=.sl 8 (List.map narthexlaw19_Step.row x)
@[go_sem,reducible] def dn (x:List Edge):AV:=.sl 2 (List.map Edge.row x)
@[go_sem,reducible] def dp (x:List DK):Option Sl:=some ⟨54,5,List.map DK.row x⟩
@[go_sem,reducible] def Ai (x:List KE):Option Sl:=some ⟨147,2,List.map KE.row x⟩
@[go_sem,reducible] def Bk (x:List EV):Option Sl:=some ⟨47,5,List.map EV.row x⟩
instance:RW SX SX.row:=⟨⟩
instance:RW DI DI.row:=⟨⟩
instance:RW DK DK.row:=⟨⟩
instance:RW SE SE.row:=⟨⟩
instance:RW BK BK.row:=⟨⟩
instance:RW KE KE.row:=⟨⟩
instance:RW NO NO.row:=⟨⟩
instance:RW Msg Msg.row:=⟨⟩
instance:RW ML ML.row:=⟨⟩
instance:RW EV EV.row:=⟨⟩
instance:RW node_node node_node.row:=⟨⟩
instance:RW drink_drinker drink_drinker.row:=⟨⟩
instance:RW Do Do.row:=⟨⟩
instance:RW HL HL.row:=⟨⟩
instance:RW narthexlaw19_Step narthexlaw19_Step.row:=⟨⟩
instance:RW Bar Bar.row:=⟨⟩
instance:RW SN SN.row:=⟨⟩
instance:RW Edge Edge.row:=⟨⟩
instance:RW Graph Graph.row:=⟨⟩
instance:RW Place Place.row:=⟨⟩
instance:RW Model Model.row:=⟨⟩
abbrev FPx:=C4 Tryz.prog
abbrev FTx:=CL Tryz.prog
abbrev FOx:=Ka Tryz.prog
end NX
end Go.Proofs.YtgnjledocpbchaaGreat
namespace Go.Proofs.YtgnjledocpbchaaGreat
namespace NX
open Go Go.RowKit
section
variable {c:Ctx} {M:Mem} {S S':St} {a:Act} {w:World} {fn:Func} {K:AV→List (Option Blk)→List (Option Sl)→Prop} {k:List It} {bs:List (Option Blk)} {ss:List (Option Sl)}
theorem fR {M:Mem} {E:List Int} {vss:List (List Value)} (h:AV.isLL M 1 (E.map Am) vss):vss.flatten=E.map (Value.int .i64):=by
 induction E generalizing vss with
 | nil=>simp [AV.isLL] at h;subst h;rfl
 | cons z E ih=>obtain ⟨v,r,rfl,h1,h2,h3⟩:=h;obtain ⟨u,q,rfl,h4,h5⟩:=h2;simp only [AV.isL] at h5;simp only [AV.is] at h4;subst h5;subst h4;simp [ih h3]
theorem ZC {M:Mem}:∀(E:List Int),∃vss,AV.isLL M 1 (E.map Am) vss∧vss.flatten=E.map (Value.int .i64)
 | []=>⟨[],rfl,rfl⟩
 | z::E=>by obtain ⟨vss,h1,h2⟩:=ZC (M:=M) E;exact ⟨[.int .i64 z]::vss,⟨_,_,rfl,rfl,⟨_,_,rfl,rfl,rfl⟩,h1⟩,by simp [h2]⟩
theorem wN {ρ:Shelf.Ren} (J:Lays.n189 c.P ρ) {j T:Nat} {x:X} {E:List Int} (hx:S.x x = .osl j) (hj:Ab S.ss j=some ⟨T,1,E.map Am⟩) (hA:E.length<4611686018427387904):
  B3 c S (.call (ρ.f 189) [x]) (.tup []) ⟨S.tm,S.bs,Av S.ss j (some ⟨T,1,(E.mergeSort fun x y=>decide (x≤y)).map Am⟩)⟩:=by
 intro ro ho M a w hT next Q hn
 obtain ⟨dst,op,ty,pos,af,gd⟩:=ro;dsimp only at ho;obtain ⟨cargs,argTypes,rfl,hC,h8⟩:=LW ho;obtain ⟨q,rfl⟩:∃q,cargs = #[q]:=by
  have:cargs.toList.length=1:=by have:=congrArg List.length h8;simpa using this
  obtain ⟨l⟩:=cargs
  match l,this with
  | [q],_=>exact ⟨q,rfl⟩
 have hD:cX q=x:=by simpa using h8
 have hq:=Au hT q;rw [hD,hx] at hq;obtain ⟨hI,hq⟩:=hq;obtain ⟨g0,vss,h1,h2,h3,h4⟩:=hT.st.slc j _ hj;dsimp only at h1 h3 g0;have hE:=fR h1;have h6:(execOp a.eval ⟨dst,.call ⟨.value (.func (ρ.f 189)), #[q],argTypes⟩,ty,pos,af,gd⟩).run c.P w = .ok (.enter (ρ.f 189) (#[q].map a.eval)) w:=by have he:a.eval (.func (ρ.f 189)) = .func (.func (ρ.f 189)) #[] #[]:=rfl;generalize a.eval=ρ' at *;simp [execOp,resolve,Deferred.ofValue,invoke,he,I2 hC]
 have e1:(#[q].map a.eval) = #[M.σ j]:=by apply Array.ext';simp;exact hq
 rw [e1] at h6;unfold Oper.wp;rw [h6];show Calls c.P (ρ.f 189) #[M.σ j] w _;obtain ⟨rs,hG,h9⟩:=ZC (M:=M.sl) (E.mergeSort fun x y=>decide (x≤y));have hB:∀v∈rs.flatten,v.oneCell'=true:=by rw [h9];intro v hv;obtain ⟨z,_,rfl⟩:=List.mem_map.1 hv;rfl
 have hw:(E.mergeSort fun x y=>decide (x≤y)).length=E.length:=by simp
 rcases h3.2 with ⟨e2,e3⟩ | ⟨g,cap,cur,e2,hb,e3,e4,e5,e6,e7⟩
 ·have hz:E=[]:=by simpa using e3
  subst hz;rw [e2];refine (Any.slices_Sort_int_none J none 0 w).mono ?_;rintro e w' ⟨rfl,rfl⟩;refine hn M _ _ (.refl M) ?_ ⟨[],rfl,rfl⟩;have:Av S.ss j (some (⟨T,1,([].mergeSort fun (x y:Int)=>decide (x≤y)).map Am⟩:Sl))=S.ss:=by
   have hj':=hj;simp only [List.map_nil] at hj';have:∀(l:List (Option Sl)) (j:Nat) (L:Sl),Ab l j=some L→Av l j (some L)=l:=by
    intro l;induction l with
    | nil=>intro j L h;simp [Ab] at h
    | cons x l ih=>intro j L h;cases j with
      | zero=>simp [Ab] at h;subst h;rfl
      | succ j=>simp only [Av];rw [ih j L (by simpa [Ab] using h)]
   simpa using this _ _ _ hj'
  rw [this];exact hT.st
 ·have e4':E.length≤cap:=by simpa using e4
  rw [e2];simp only [List.length_map];rw [Nat.mul_one,List.length_map] at e7;rw [hE] at e7;refine (Any.slices_Sort_int J g 0 cap E w (holds_of_blockI e3 e7) (Array.getElem?_eq_some_iff.1 e3).1 hA).mono ?_;rintro e w' ⟨rfl,n,os,rfl⟩;refine hn M _ _ (.refl M) ?_ ⟨[],rfl,rfl⟩;refine hT.st.rewrite hj (g:=g) (by rw [e2];rfl) (grownBy_sortedI _) (vss':=rs) hG hB ?_;rw [h9,List.length_map,hw,e2,List.length_map];exact ownsRow_sortedI (ss:=E) hw hb e3 e4' e5 e6
theorem nC {ρ:Shelf.Ren} (J:Lays.n189 c.P ρ) {d:Option Nat} {g:Option (Nat×Bool)} {l:List EOp} {j T f:Nat} {x:X} (E:List Int) (hg:gm S g) (hf:f=ρ.f 189) (hx:S.x x = .osl j) (hj:Ab S.ss j=some ⟨T,1,E.map Am⟩) (h6:E.length<4611686018427387904)
  (h:V c fn K (.ops l::k) ((⟨S.tm,S.bs,Av S.ss j (some ⟨T,1,(E.mergeSort fun x y=>decide (x≤y)).map Am⟩)⟩:St).put d (.tup []))):V c fn K (.ops (⟨d,g,.call f [x]⟩::l)::k) S:=by
 subst hf;exact Ba hg (wN J hx hj h6) rfl h
theorem wH {ρ:Shelf.Ren} (J:Lays2.n20 c.P ρ) {j T:Nat} {x:X} {E:List Int} (hx:S.x x = .osl j) (hj:Ab S.ss j=some ⟨T,1,E.map Am⟩) (hL:E.length<4611686018427387904):
  B3 c S (.call (ρ.f 20) [x]) (.osl (Ah S.ss)) ⟨S.tm,S.bs,Av S.ss j none++[some ⟨T,1,(Lib.compact E).map Am⟩]⟩:=by
 intro ro ho M a w hT next Q hn
 obtain ⟨dst,op,ty,pos,af,gd⟩:=ro;dsimp only at ho;obtain ⟨cargs,argTypes,rfl,hE,h9⟩:=LW ho;obtain ⟨q,rfl⟩:∃q,cargs = #[q]:=by
  have:cargs.toList.length=1:=by have:=congrArg List.length h9;simpa using this
  obtain ⟨l⟩:=cargs
  match l,this with
  | [q],_=>exact ⟨q,rfl⟩
 have hG:cX q=x:=by simpa using h9
 have hq:=Au hT q;rw [hG,hx] at hq;obtain ⟨hN,hq⟩:=hq;have hS:=hT.st;obtain ⟨g0,vss,h1,h2,h3,h4⟩:=hS.slc j _ hj;dsimp only at h1 h3 g0;have hI:=fR h1;have h8:(execOp a.eval ⟨dst,.call ⟨.value (.func (ρ.f 20)), #[q],argTypes⟩,ty,pos,af,gd⟩).run c.P w = .ok (.enter (ρ.f 20) (#[q].map a.eval)) w:=by have he:a.eval (.func (ρ.f 20)) = .func (.func (ρ.f 20)) #[] #[]:=rfl;generalize a.eval=ρ' at *;simp [execOp,resolve,Deferred.ofValue,invoke,he,I2 hE]
 have e1:(#[q].map a.eval) = #[M.σ j]:=by apply Array.ext';simp;exact hq
 rw [e1] at h8;unfold Oper.wp;rw [h8];show Calls c.P (ρ.f 20) #[M.σ j] w _;obtain ⟨rs,hJ,h6⟩:=ZC (M:=M.sl) (Lib.compact E);have hB:∀v∈rs.flatten,v.oneCell'=true:=by rw [h6];intro v hv;obtain ⟨z,_,rfl⟩:=List.mem_map.1 hv;rfl
 have hO:=Lib.compact_length_le E;have hC:∀i N,Ab (Av S.ss j none) i=some N→Ab S.ss i=some N∧∀g,(M.σ j).ownBlock=some g→(M.σ i).ownBlock≠some g:=by
  intro i N hi;rw [Dz] at hi;split at hi
  ·simp at hi
  ·rename_i e;refine ⟨hi,fun g hg e2=>e ⟨?_,CD hj⟩⟩;exact hS.d3 i j N _ g hi hj e2 hg
 have fin:∀v' w',w.grownBy w' (M.σ j).ownBlock→v'.ownBlock=(M.σ j).ownBlock→w'.ownsRow 0 T 1 v' (Lib.compact E).length rs.flatten→next (a.put dst v') w':=fun v' w' hg hv hD=>by have hr:RelS c (M.addS v') S.bs (Av S.ss j none++[some (⟨T,1,(Lib.compact E).map Am⟩:Sl)]) w':=RelS.grown (v:=M.σ j) (vss:=rs) hS (Dg _ _ _) hC (.inr fun i B hi=>hS.d2 i j B _ hi hj) h4 hg (.inl hv) g0 hJ hB (by simpa using hD);refine hn (M.addS v') w' v' (Mem.le_addS M v') hr ?_;rw [Bl,←hS.ns];exact ⟨Nat.lt_succ_self _,by simp [Mem.addS]⟩
 rcases h3.2 with ⟨e2,e3⟩ | ⟨g,cap,cur,e2,hb,e3,e4,e5,e6,e7⟩
 ·have hz:E=[]:=by simpa using e3
  subst hz;rw [e2] at fin ⊢;refine (Any.slices_Compact_int_empty J none 0 w).mono ?_;rintro e w' ⟨rfl,rfl⟩;refine fin _ _ ⟨rfl,rfl,rfl,Nat.le_refl _,fun _ _ _=>rfl⟩ rfl ?_;rw [h6];exact World.ownsRow_nil _ _ _ _
 ·have e4':E.length≤cap:=by simpa using e4
  rw [e2] at fin ⊢;simp only [List.length_map];rw [Nat.mul_one,List.length_map] at e7;rw [hI] at e7;refine (Any.slices_Compact_int J g 0 cap E w (holds_of_blockI e3 e7) Om e4').mono ?_;rintro e w' ⟨rfl,n,rfl⟩;have hw:=grownBy_sortedI (w:=w) (g:=g) (n:=n) (os:= #[]) (Lib.compact E++List.replicate (E.length-(Lib.compact E).length) 0).toArray;have hA:=heap_sortedI (w:=w) (g:=g) (n:=n) (os:= #[]) (Lib.compact E++List.replicate (E.length-(Lib.compact E).length) 0).toArray e3;rw [Sort.grow_empty] at hw hA;refine fin _ _ hw rfl ⟨by rw [h6];simp,.inr ⟨g,cap,_,rfl,hb,hA,Om,e5,by simp [Sort.putCells,e6],?_⟩⟩;have hK:=take_putCellsI cur (Lib.compact E++List.replicate (E.length-(Lib.compact E).length) 0) (by simp;omega);rw [h6,Nat.mul_one];have:=congrArg (List.take (Lib.compact E).length) hK;rw [List.take_take,List.map_append,List.take_append_of_le_length (by simp)] at this;rw [Nat.min_eq_left (by simp)] at this;rw [this,List.take_of_length_le (by simp)]
theorem mV {ρ:Shelf.Ren} (J:Lays2.n20 c.P ρ) {d:Option Nat} {g:Option (Nat×Bool)} {l:List EOp} {j T f:Nat} {x:X} (E:List Int) (hg:gm S g) (hf:f=ρ.f 20) (hx:S.x x = .osl j) (hj:Ab S.ss j=some ⟨T,1,E.map Am⟩) (h6:E.length<4611686018427387904)
  (h:V c fn K (.ops l::k) ((⟨S.tm,S.bs,Av S.ss j none++[some ⟨T,1,(Lib.compact E).map Am⟩]⟩:St).put d (.osl (Ah S.ss)))):V c fn K (.ops (⟨d,g,.call f [x]⟩::l)::k) S:=by
 subst hf;exact Ba hg (wH J hx hj h6) rfl h
end
end NX
end Go.Proofs.YtgnjledocpbchaaGreat
/-
  The function slices.IndexFunc[[]narthex/api.Side,narthex/api.Side]: its code compiled, a model, and that the code answers as the model. Written by a program of ours (lb.py). No statement of the seat is proved here.
-/
namespace Go.Proofs.YtgnjledocpbchaaGreat
namespace NX
open Go
noncomputable section
@[go_sem] def pf:EC:=eQ Tryz.f164
theorem XU:FnOK Tryz.prog 164 Tryz.f164 pf [.t 4] 2 17:=AP
def Xw:Unit→Option Int
| ()=>some (-1)
def Xx (x1:List SX) (p1:(SX→Option Bool)):Int→Option (Int ⊕ Int)
| x5=>
 A0 (decide (x5<(ln SX.row x1))) (
 (Ac x1 x5).bind fun x6=>
 (p1 x6).bind fun x7=>
 A0 x7 (
 Option.map Sum.inr (some x5)) (
 some (.inl (wr (x5+1))))) (
 Option.map Sum.inr (Xw ()))
def IA (x1:List SX) (p1:(SX→Option Bool)):Option Int:=loop (Xx x1 p1) 0
instance k_slices_IndexFunc_Side {x1 g1 caps1 p1} [ic1:KC p1 g1 caps1 (fun z=>[.agg (SX.row z)]) (fun z=>.bv z)]:KP (IA x1 p1) 164 [CV x1,.clo g1 caps1] (fun r=>(.iv r)):=⟨fun{r} h=>by
 have hc1:=ic1.k;refine FP XU fun w0 H0=>?_;have ok:=XU;rw [IA] at h;refine Vg 11 ?_;refine Vk [] (fun _=>[]) Xw r ?_ fun J1=>?_
 ·rintro ⟨⟩ h;rw [Xw] at h;exact Wx
 ·refine Vg 1 ?_;refine Mk h [0,2,5,1] (fun x5=>[(8,.iv x5)]) ?_ (hok:=by intro x5;first | rfl | (simp [go_sem];done) | simp [go_sem,C2 _ hc1.pu]);rintro n1 x5 y1 h hin1 hout1;rw [Xx] at h;refine Vg 5 ?_;refine MI h (fun h=>?_) fun h=>?_
  ·exact Wx
  ·refine Vg 1 ?_;exact Eh J1 (CU h hout1) (hok:=by first | rfl | simp [go_sem,C2 _ hc1.pu])⟩
@[go_sem] def pA:EC:=eQ Tryz.f195
theorem XW:FnOK Tryz.prog 195 Tryz.f195 pA [.t 4] 2 17:=AP
def Xl:Unit→Option Int
| ()=>some (-1)
def Xo (x1:List KE) (p1:(KE→Option Bool)):Int→Option (Int ⊕ Int)
| x5=>
 A0 (decide (x5<(ln KE.row x1))) (
 (Ac x1 x5).bind fun x6=>
 (p1 x6).bind fun x7=>
 A0 x7 (
 Option.map Sum.inr (some x5)) (
 some (.inl (wr (x5+1))))) (
 Option.map Sum.inr (Xl ()))
def Tf (x1:List KE) (p1:(KE→Option Bool)):Option Int:=loop (Xo x1 p1) 0
instance k_slices_IndexFunc_Known {x1 g1 caps1 p1} [ic1:KC p1 g1 caps1 (fun z=>[.agg (KE.row z)]) (fun z=>.bv z)]:KP (Tf x1 p1) 195 [Bf x1,.clo g1 caps1] (fun r=>(.iv r)):=⟨fun{r} h=>by
 have hc1:=ic1.k;refine FP XW fun w0 H0=>?_;have ok:=XW;rw [Tf] at h;refine Vg 11 ?_;refine Vk [] (fun _=>[]) Xl r ?_ fun J1=>?_
 ·rintro ⟨⟩ h;rw [Xl] at h;exact Wx
 ·refine Vg 1 ?_;refine Mk h [0,2,5,1] (fun x5=>[(8,.iv x5)]) ?_ (hok:=by intro x5;first | rfl | (simp [go_sem];done) | simp [go_sem,C2 _ hc1.pu]);rintro n1 x5 y1 h hin1 hout1;rw [Xo] at h;refine Vg 5 ?_;refine MI h (fun h=>?_) fun h=>?_
  ·exact Wx
  ·refine Vg 1 ?_;exact Eh J1 (CU h hout1) (hok:=by first | rfl | simp [go_sem,C2 _ hc1.pu])⟩
@[go_sem] def qi:EC:=eQ Tryz.f97
theorem XZ:FnOK Tryz.prog 97 Tryz.f97 qi [.t 4] 2 17:=AP
def Xs:Unit→Option Int
| ()=>some (-1)
def Xt (x1:List SE) (p1:(SE→Option Bool)):Int→Option (Int ⊕ Int)
| x5=>
 A0 (decide (x5<(ln SE.row x1))) (
 (Ac x1 x5).bind fun x6=>
 (p1 x6).bind fun x7=>
 A0 x7 (
 Option.map Sum.inr (some x5)) (
 some (.inl (wr (x5+1))))) (
 Option.map Sum.inr (Xs ()))
def Oo (x1:List SE) (p1:(SE→Option Bool)):Option Int:=loop (Xt x1 p1) 0
instance k_slices_IndexFunc_Sess {x1 g1 caps1 p1} [ic1:KC p1 g1 caps1 (fun z=>[.agg (SE.row z)]) (fun z=>.bv z)]:KP (Oo x1 p1) 97 [Aq x1,.clo g1 caps1] (fun r=>(.iv r)):=⟨fun{r} h=>by
 have hc1:=ic1.k;refine FP XZ fun w0 H0=>?_;have ok:=XZ;rw [Oo] at h;refine Vg 11 ?_;refine Vk [] (fun _=>[]) Xs r ?_ fun J1=>?_
 ·rintro ⟨⟩ h;rw [Xs] at h;exact Wx
 ·refine Vg 1 ?_;refine Mk h [0,2,5,1] (fun x5=>[(8,.iv x5)]) ?_ (hok:=by intro x5;first | rfl | (simp [go_sem];done) | simp [go_sem,C2 _ hc1.pu]);rintro n1 x5 y1 h hin1 hout1;rw [Xt] at h;refine Vg 5 ?_;refine MI h (fun h=>?_) fun h=>?_
  ·exact Wx
  ·refine Vg 1 ?_;exact Eh J1 (CU h hout1) (hok:=by first | rfl | simp [go_sem,C2 _ hc1.pu])⟩
@[go_sem] def qa:EC:=eQ Tryz.f66
theorem iX:FnOK Tryz.prog 66 Tryz.f66 qa [.t 4] 2 17:=AP
def Xy:Unit→Option Int
| ()=>some (-1)
def Xz (x1:List Int) (p1:(Int→Option Bool)):Int→Option (Int ⊕ Int)
| x5=>
 A0 (decide (x5<(ln Am x1))) (
 (Ac x1 x5).bind fun x6=>
 (p1 x6).bind fun x7=>
 A0 x7 (
 Option.map Sum.inr (some x5)) (
 some (.inl (wr (x5+1))))) (
 Option.map Sum.inr (Xy ()))
def Oq (x1:List Int) (p1:(Int→Option Bool)):Option Int:=loop (Xz x1 p1) 0
instance k_slices_IndexFunc_int {x1 g1 caps1 p1} [ic1:KC p1 g1 caps1 (fun z=>[.iv z]) (fun z=>.bv z)]:KP (Oq x1 p1) 66 [Aj x1,.clo g1 caps1] (fun r=>(.iv r)):=⟨fun{r} h=>by
 have hc1:=ic1.k;refine FP iX fun w0 H0=>?_;have ok:=iX;rw [Oq] at h;refine Vg 11 ?_;refine Vk [] (fun _=>[]) Xy r ?_ fun J1=>?_
 ·rintro ⟨⟩ h;rw [Xy] at h;exact Wx
 ·refine Vg 1 ?_;refine Mk h [0,2,5,1] (fun x5=>[(8,.iv x5)]) ?_ (hok:=by intro x5;first | rfl | (simp [go_sem];done) | simp [go_sem,C2 _ hc1.pu]);rintro n1 x5 y1 h hin1 hout1;rw [Xz] at h;refine Vg 5 ?_;refine MI h (fun h=>?_) fun h=>?_
  ·exact Wx
  ·refine Vg 1 ?_;exact Eh J1 (CU h hout1) (hok:=by first | rfl | simp [go_sem,C2 _ hc1.pu])⟩
def Wa:Unit→Option Bool
| ()=>some true
def Wc (x1 x2:List Int):Int→Option (Int ⊕ Bool)
| x6=>
 A0 (decide (x6<(ln Am x1))) (
 (Ac x1 x6).bind fun x7=>
 (Ac x2 x6).bind fun x8=>
 A0 (!decide (x7=x8)) (
 Option.map Sum.inr (some false)) (
 some (.inl (wr (x6+1))))) (
 Option.map Sum.inr (Wa ()))
def Hv (x1 x2:List Int):Option Bool:=
 A0 (!decide ((ln Am x1)=(ln Am x2))) (
 some false) (
 loop (Wc x1 x2) 0)
instance k_narthexref01_Same {x1 x2}:KP (Hv x1 x2) 12 [Aj x1,Aj x2] (fun r=>(.bv r)):=⟨fun{r} h=>by
 have ok:=oJ 12 Tryz.f12 [.t 4] 2 24;refine FP ok fun w0 H0=>?_;rw [Hv] at h;refine Vg 13 ?_;refine MI h (fun h=>?_) fun h=>?_
 ·exact Wx
 ·refine Vg 6 ?_;refine Vk [] (fun _=>[]) Wa r ?_ fun J1=>?_
  ·rintro ⟨⟩ h;rw [Wa] at h;exact Wx
  ·refine Vg 1 ?_;refine Mk h [0,2] (fun x6=>[(5,.iv x6)]) ?_;rintro n1 x6 y1 h hin1 hout1;rw [Wc] at h;exact Wx⟩
@[go_sem] def eO:EC:=eQ Tryz.f52
theorem OH:FnOK Tryz.prog 52 Tryz.f52 eO [.t 2] 1 7:=AP
def Cp (x1:List Int):Option (List Int):=AE 8 [] x1
theorem El {x1 r} (h:Cp x1=some r):FOx 52 [Aj x1] 3 1 (List.map Am r):=by
 refine EX OH rfl fun w0 H0=>?_;rw [Cp] at h;refine As 100 ?_;dsimp only [eO,go_sem];refine ⟨by simp,?_⟩;refine Kc trivial rfl (fun hn=>?_) ?_
 ·refine As 100 ?_;dsimp only[go_sem];refine ⟨by simp,?_⟩;refine Gp 2 3 1 rfl rfl ?_;dsimp only[go_sem];have hn:x1=[]:=by simpa using hn
  subst hn;exact De Am (e:=[]) OH (by simpa [AE] using h) rfl rfl
 ·refine As 100 ?_;dsimp only[go_sem];refine ⟨by simp,?_⟩;refine Er Am h trivial rfl rfl rfl ?_;refine As 100 ?_;dsimp only[go_sem];refine ⟨by simp,?_⟩;exact De Am OH (rfl:some r=some r) rfl rfl
theorem Bi {x1 r} (h:Cp x1=some r):FPx 52 [Aj x1] (Aj r):=(El h).sealed
instance {x1}:KP (Cp x1) 52 [Aj x1] (fun r=>(Aj r)):=⟨fun h=>Bi h⟩
@[go_sem] def px:EC:=eQ Tryz.f182
theorem iB:FnOK Tryz.prog 182 Tryz.f182 px [.t 4] 2 25:=AP
def XA:Unit→Option Int
| ()=>some (-1)
def XB (x1:List Int) (x2:Int):Int→Option (Int ⊕ Int)
| x5=>
 A0 (decide (x5<(ln Am x1))) (
 (Ac x1 x5).bind fun x6=>
 A0 (decide (x2=x6)) (
 Option.map Sum.inr (some x5)) (
 some (.inl (wr (x5+1))))) (
 Option.map Sum.inr (XA ()))
def Tj (x1:List Int) (x2:Int):Option Int:=loop (XB x1 x2) 0
instance k_slices_Index_int {x1 x2}:KP (Tj x1 x2) 133 [Aj x1,.iv x2] (fun r=>(.iv r)):=⟨fun{r} h=>by
 have ok:=oJ 133 Tryz.f133 [.t 4] 2 17;refine FP ok fun w0 H0=>?_;rw [Tj] at h;refine Vg 11 ?_;refine Vk [] (fun _=>[]) XA r ?_ fun J1=>?_
 ·rintro ⟨⟩ h;rw [XA] at h;exact Wx
 ·refine Vg 1 ?_;refine Mk h [0,2,5,1] (fun x5=>[(8,.iv x5)]) ?_;rintro n1 x5 y1 h hin1 hout1;rw [XB] at h;exact Wx⟩
def SJ (x1:Int) (pc0:(Int→Option Bool)):Option Bool:=
 (pc0 x1).bind fun x2=>
 some (!x2)
instance k_set_keep_1 {x1 gc0 capsc0 pc0} [icc0:KC pc0 gc0 capsc0 (fun z=>[.iv z]) (fun z=>.bv z)]:KP (SJ x1 pc0) 135 [.iv x1,.elt [.clo gc0 capsc0] 0] (fun r=>(.bv r)):=⟨fun{r} h=>by have ok:=oJ 135 Tryz.f135 [.t 3] 2 6;refine FP ok fun w0 H0=>?_;rw [SJ] at h;exact Wx⟩
instance {gc0 capsc0 pc0} [icc0:KC pc0 gc0 capsc0 (fun z=>[.iv z]) (fun z=>.bv z)]:KC (fun z=>SJ z pc0) 135 [.elt [.clo gc0 capsc0] 0] (fun z=>[.iv z]) (fun z=>(.bv z)):=⟨⟨by kernel_rfl,by have ip:=PuC.mk (KC.k (self:=icc0)).pu;simp [go_sem],fun z r hz=>k_set_keep_1.k hz⟩⟩
def aQ:Unit→Option Bool
| ()=>some true
def JP (x6:Int):Bool→Option (Int ⊕ Bool)
| x9=>
 A0 x9 (
 Option.map Sum.inr (some false)) (
 some (.inl (wr (x6+1))))
def JQ (x1:List Int):Int→Option (Int ⊕ Bool)
| x6=>
 A0 (decide (x6<(ln Am x1))) (
 A0 (decide (0<x6)) (
 (Ac x1 (wr (x6-1))).bind fun x7=>
 (Ac x1 x6).bind fun x8=>
 (JP x6) (decide (x8≤x7))) (
 (JP x6) false)) (
 Option.map Sum.inr (aQ ()))
def HF (x1:List Int):Option Bool:=loop (JQ x1) 0
instance k_set_Valid {x1}:KP (HF x1) 35 [Aj x1] (fun r=>(.bv r)):=⟨fun{r} h=>by
 have ok:=oJ 35 Tryz.f35 [.t 2] 1 23;refine FP ok fun w0 H0=>?_;rw [HF] at h;refine Vg 11 ?_;refine Vk [] (fun _=>[]) aQ r ?_ fun J1=>?_
 ·rintro ⟨⟩ h;rw [aQ] at h;exact Wx
 ·refine Vg 1 ?_;refine Mk h [0,1,4,1] (fun x6=>[(6,.iv x6)]) ?_;rintro n1 x6 y1 h hin1 hout1;rw [JQ] at h;refine Vg 5 ?_;refine MI h (fun h=>?_) fun h=>?_
  ·refine Vg 9 ?_;refine Vk [0,1,4,2] (fun x9=>[(22,.bv x9)]) (JP x6) y1 ?_ fun J2=>?_
   ·intro x9 h;rw [JP] at h;exact Wx
   ·exact Wx
  ·exact Wx⟩
@[go_sem] def eP:EC:=eQ Tryz.f53
def Gc (x1:List SE):Option (List SE):=AE 48 [] x1
theorem II {x1 r} (h:Gc x1=some r):FOx 53 [Aq x1] 67 4 (List.map SE.row r):=by
 have ok:=oK 53 Tryz.f53 eP [.t 2] 1 7;refine EX ok rfl fun w0 H0=>?_;rw [Gc] at h;refine As 100 ?_;dsimp only [eP,go_sem];refine ⟨by simp,?_⟩;refine Kc trivial rfl (fun hn=>?_) ?_
 ·refine As 100 ?_;dsimp only[go_sem];refine ⟨by simp,?_⟩;refine Gp 2 67 4 rfl rfl ?_;dsimp only[go_sem];have hn:x1=[]:=by simpa using hn
  subst hn;exact De SE.row (e:=[]) ok (by simpa [AE] using h) rfl rfl
 ·refine As 100 ?_;dsimp only[go_sem];refine ⟨by simp,?_⟩;refine Er SE.row h trivial rfl rfl rfl ?_;refine As 100 ?_;dsimp only[go_sem];refine ⟨by simp,?_⟩;exact De SE.row ok (rfl:some r=some r) rfl rfl
theorem rT {x1 r} (h:Gc x1=some r):FPx 53 [Aq x1] (Aq r):=(II h).sealed
instance {x1}:KP (Gc x1) 53 [Aq x1] (fun r=>(Aq r)):=⟨fun h=>rT h⟩
def SF (x1:Int):Option Bool:=some (decide (x1<0))
instance k_sess_odd_1 {x1}:KP (SF x1) 98 [.iv x1] (fun r=>(.bv r)):=⟨fun{r} h=>by have ok:=oJ 98 Tryz.f98 [.t 2] 1 4;refine FP ok fun w0 H0=>?_;rw [SF] at h;exact Wx⟩
instance :KC (fun z=>SF z) 98 [] (fun z=>[.iv z]) (fun z=>(.bv z)):=⟨⟨by kernel_rfl,rfl,fun z r hz=>k_sess_odd_1.k hz⟩⟩
@[go_sem] def oY:EC:=eQ Tryz.f131
theorem im:FnOK Tryz.prog 131 Tryz.f131 oY [.t 6] 3 30:=AP
def SC (x1:SE) (x2:Int):Option Bool:=some (decide (x1.ID=x2))
instance k_sess_find_1 {x1 x2}:KP (SC x1 x2) 183 [.agg (SE.row x1),.elt (Am x2) 0] (fun r=>(.bv r)):=⟨fun{r} h=>by have ok:=oJ 183 Tryz.f183 [.t 3] 2 6;refine FP ok fun w0 H0=>?_;rw [SC] at h;exact Wx⟩
instance {x2}:KC (fun z=>SC z x2) 183 [.elt (Am x2) 0] (fun z=>[.agg (SE.row z)]) (fun z=>(.bv z)):=⟨⟨by kernel_rfl,rfl,fun z r hz=>k_sess_find_1.k hz⟩⟩
@[go_sem] def pV:EC:=.seq (.reg [Qa 14 (.bin .lss (.t 13) (.t 12))]) (.seq (.ite (.t 14) (.skip) (.exit 0)) (.seq (.blk 1 (.seq (.reg [Qm 15 13,Qm 5 15]) (.seq (.drw [Qm 16 0,Qm 17 5,Qk 18 8 16 17,Qe 19 8 18,Qm 20 1,Qm 21 5,Qk 22 8 20 21,Qe 23 8 22,Qa 24 (.eqs true [true,true,true,false,false,false,false,false] (.t 19) (.t 23))] [[],[],[0,1],[2,0,1],[],[],[4,5],[6,4,5],[3,7,2,0,1,6,4,5]] [[2],[2],[0,1,3],[2,8],[6],[6],[4,5,7],[6,8],[3,7]]) (.ite (.t 24) (.seq (.reg [Qa 4 (.mv (.c .ff))]) (.ret)) (.skip))))) (.reg [Qv 25 13 1,Qm 13 25])))
@[go_sem] def pU:EC:=.seq (.reg [Qa 4 (.mv (.c .ff))]) (.seq (.seq (.reg [Qm 6 0,Qa 7 (.len (.t 6)),Qm 8 1,Qa 9 (.len (.t 8)),Qa 10 (.bin .neq (.t 7) (.t 9))]) (.ite (.t 10) (.seq (.reg [Qa 4 (.mv (.c .ff))]) (.ret)) (.skip))) (.seq (.seq (.reg [Qm 11 0,Qa 12 (.len (.t 11)),Qi 13 0]) (.blk 0 (.loop pV))) (.seq (.reg [Qa 4 (.mv (.c .tt))]) (.ret))))
def Xb:Unit→Option Bool
| ()=>some true
def Xc (x1 x2:List SX):Int→Option (Int ⊕ Bool)
| x6=>
 A0 (decide (x6<(ln SX.row x1))) (
 (Ac x1 x6).bind fun x7=>
 (Ac x2 x6).bind fun x8=>
 A0 (!(decide (x7.PE=x8.PE)&&(decide (x7.EP=x8.EP)&&(decide (x7.SS=x8.SS)&&((x7.FK==x8.FK)&&((x7.DY==x8.DY)&&((x7.TO==x8.TO)&&((x7.BO==x8.BO)&&((x7.Ask==x8.Ask)&&true))))))))) (
 Option.map Sum.inr (some false)) (
 some (.inl (wr (x6+1))))) (
 Option.map Sum.inr (Xb ()))
def T8 (x1 x2:List SX):Option Bool:=
 A0 (!decide ((ln SX.row x1)=(ln SX.row x2))) (
 some false) (
 loop (Xc x1 x2) 0)
instance k_slices_Equal_Side {x1 x2}:KP (T8 x1 x2) 227 [CV x1,CV x2] (fun r=>(.bv r)):=⟨fun{r} h=>by
 have ok:=oK 227 Tryz.f227 pU [.t 4] 2 24;refine FP ok fun w0 H0=>?_;rw [T8] at h;refine Vg 13 ?_;refine MI h (fun h=>?_) fun h=>?_
 ·exact Wx
 ·refine Vg 8 ?_;refine Vk [] (fun _=>[]) Xb r ?_ fun J1=>?_
  ·rintro ⟨⟩ h;rw [Xb] at h;exact Wx
  ·refine Vg 1 ?_;refine Mk h [0,2,10,1] (fun x6=>[(13,.iv x6)]) ?_;rintro n1 x6 y1 h hin1 hout1;rw [Xc] at h;exact Wx⟩
@[go_sem] def pz:EC:=eQ Tryz.f194
theorem iC:FnOK Tryz.prog 194 Tryz.f194 pz [.t 4] 3 47:=AP
def Q6:Bool→Option Bool
| x4=>some x4
def MA (x1:SX) (x2:Int) (x3:Msg):Option Bool:=
 A0 (decide (x1.PE=x2)) (
 Q6 (decide (x1.EP=x3.EP))) (
 Q6 false)
instance k_dine_Get_1 {x1 x2 x3}:KP (MA x1 x2 x3) 217 [.agg (SX.row x1),.elt (Am x2) 0,.elt (Msg.row x3) 0] (fun r=>(.bv r)):=⟨fun{r} h=>by
 have ok:=oJ 217 Tryz.f217 [.t 4] 3 13;refine FP ok fun w0 H0=>?_;rw [MA] at h;refine Vg 12 ?_;refine Vl [] (fun x4=>([(4,.bv x4)],[],[])) Q6 r ?_ fun J1=>?_
 ·intro x4 h;rw [Q6] at h;exact Wx
 ·exact Wx⟩
instance {x2 x3}:KC (fun z=>MA z x2 x3) 217 [.elt (Am x2) 0,.elt (Msg.row x3) 0] (fun z=>[.agg (SX.row z)]) (fun z=>(.bv z)):=⟨⟨by kernel_rfl,rfl,fun z r hz=>k_dine_Get_1.k hz⟩⟩
@[go_sem] def eI:EC:=eQ Tryz.f107
theorem Oy:FnOK Tryz.prog 107 Tryz.f107 eI [.t 2] 1 7:=AP
def Ew (x1:List SX):Option (List SX):=AE 32 [] x1
theorem Tw {x1 r} (h:Ew x1=some r):FOx 107 [CV x1] 100 8 (List.map SX.row r):=by
 refine EX Oy rfl fun w0 H0=>?_;rw [Ew] at h;refine As 100 ?_;dsimp only [eI,go_sem];refine ⟨by simp,?_⟩;refine Kc trivial rfl (fun hn=>?_) ?_
 ·refine As 100 ?_;dsimp only[go_sem];refine ⟨by simp,?_⟩;refine Gp 2 100 8 rfl rfl ?_;dsimp only[go_sem];have hn:x1=[]:=by simpa using hn
  subst hn;exact De SX.row (e:=[]) Oy (by simpa [AE] using h) rfl rfl
 ·refine As 100 ?_;dsimp only[go_sem];refine ⟨by simp,?_⟩;refine Er SX.row h trivial rfl rfl rfl ?_;refine As 100 ?_;dsimp only[go_sem];refine ⟨by simp,?_⟩;exact De SX.row Oy (rfl:some r=some r) rfl rfl
theorem UM {x1 r} (h:Ew x1=some r):FPx 107 [CV x1] (CV r):=(Tw h).sealed
instance {x1}:KP (Ew x1) 107 [CV x1] (fun r=>(CV r)):=⟨fun h=>UM h⟩
def Qn (x1:SX):Option Bool:=some (decide (x1.SS=1))
instance k_drink_drinker_once_1 {x1}:KP (Qn x1) 224 [.agg (SX.row x1)] (fun r=>(.bv r)):=⟨fun{r} h=>by have ok:=oJ 224 Tryz.f224 [.t 2] 1 5;refine FP ok fun w0 H0=>?_;rw [Qn] at h;exact Wx⟩
instance :KC (fun z=>Qn z) 224 [] (fun z=>[.agg (SX.row z)]) (fun z=>(.bv z)):=⟨⟨by kernel_rfl,rfl,fun z r hz=>k_drink_drinker_once_1.k hz⟩⟩
@[go_sem] def pW:EC:=eQ Tryz.f230
theorem iQ:FnOK Tryz.prog 230 Tryz.f230 pW [] 4 17:=AP
@[go_sem] def pX:EC:=eQ Tryz.f231
theorem iR:FnOK Tryz.prog 231 Tryz.f231 pX [] 3 25:=AP
def Qc (x1:SX) (x2:Int):Option Bool:=some (decide (x1.PE=x2))
instance k_drink_Check_1_1 {x1 x2}:KP (Qc x1 x2) 151 [.agg (SX.row x1),.elt (Am x2) 0] (fun r=>(.bv r)):=⟨fun{r} h=>by have ok:=oJ 151 Tryz.f151 [.t 3] 2 6;refine FP ok fun w0 H0=>?_;rw [Qc] at h;exact Wx⟩
instance {x2}:KC (fun z=>Qc z x2) 151 [.elt (Am x2) 0] (fun z=>[.agg (SX.row z)]) (fun z=>(.bv z)):=⟨⟨by kernel_rfl,rfl,fun z r hz=>k_drink_Check_1_1.k hz⟩⟩
def Xd:Unit→Option Bool
| ()=>some true
def Xe (x1 x2:List Int):Int→Option (Int ⊕ Bool)
| x6=>
 A0 (decide (x6<(ln Am x1))) (
 (Ac x1 x6).bind fun x7=>
 (Ac x2 x6).bind fun x8=>
 A0 (!decide (x7=x8)) (
 Option.map Sum.inr (some false)) (
 some (.inl (wr (x6+1))))) (
 Option.map Sum.inr (Xd ()))
def Iz (x1 x2:List Int):Option Bool:=
 A0 (!decide ((ln Am x1)=(ln Am x2))) (
 some false) (
 loop (Xe x1 x2) 0)
instance k_slices_Equal_int {x1 x2}:KP (Iz x1 x2) 40 [Aj x1,Aj x2] (fun r=>(.bv r)):=⟨fun{r} h=>by
 have ok:=oJ 40 Tryz.f40 [.t 4] 2 24;refine FP ok fun w0 H0=>?_;rw [Iz] at h;refine Vg 13 ?_;refine MI h (fun h=>?_) fun h=>?_
 ·exact Wx
 ·refine Vg 8 ?_;refine Vk [] (fun _=>[]) Xd r ?_ fun J1=>?_
  ·rintro ⟨⟩ h;rw [Xd] at h;exact Wx
  ·refine Vg 1 ?_;refine Mk h [0,2,10,1] (fun x6=>[(13,.iv x6)]) ?_;rintro n1 x6 y1 h hin1 hout1;rw [Xe] at h;exact Wx⟩
@[go_sem] def eJ:EC:=eQ Tryz.f108
theorem Oz:FnOK Tryz.prog 108 Tryz.f108 eJ [.t 2] 1 7:=AP
def Ek (x1:List KE):Option (List KE):=AE 16 [] x1
theorem H1 {x1 r} (h:Ek x1=some r):FOx 108 [Bf x1] 147 2 (List.map KE.row r):=by
 refine EX Oz rfl fun w0 H0=>?_;rw [Ek] at h;refine As 100 ?_;dsimp only [eJ,go_sem];refine ⟨by simp,?_⟩;refine Kc trivial rfl (fun hn=>?_) ?_
 ·refine As 100 ?_;dsimp only[go_sem];refine ⟨by simp,?_⟩;refine Gp 2 147 2 rfl rfl ?_;dsimp only[go_sem];have hn:x1=[]:=by simpa using hn
  subst hn;exact De KE.row (e:=[]) Oz (by simpa [AE] using h) rfl rfl
 ·refine As 100 ?_;dsimp only[go_sem];refine ⟨by simp,?_⟩;refine Er KE.row h trivial rfl rfl rfl ?_;refine As 100 ?_;dsimp only[go_sem];refine ⟨by simp,?_⟩;exact De KE.row Oz (rfl:some r=some r) rfl rfl
theorem CH {x1 r} (h:Ek x1=some r):FPx 108 [Bf x1] (Bf r):=(H1 h).sealed
instance {x1}:KP (Ek x1) 108 [Bf x1] (fun r=>(Bf r)):=⟨fun h=>CH h⟩
@[go_sem] def oQ:EC:=eQ Tryz.f114
theorem OA:FnOK Tryz.prog 114 Tryz.f114 oQ [.t 6] 3 22:=AP
def S9 (x1:SX) (x2:Int):Option Bool:=some (decide (x1.PE=x2))
instance k_node_node_place_1 {x1 x2}:KP (S9 x1 x2) 165 [.agg (SX.row x1),.elt (Am x2) 0] (fun r=>(.bv r)):=⟨fun{r} h=>by have ok:=oJ 165 Tryz.f165 [.t 3] 2 6;refine FP ok fun w0 H0=>?_;rw [S9] at h;exact Wx⟩
instance {x2}:KC (fun z=>S9 z x2) 165 [.elt (Am x2) 0] (fun z=>[.agg (SX.row z)]) (fun z=>(.bv z)):=⟨⟨by kernel_rfl,rfl,fun z r hz=>k_node_node_place_1.k hz⟩⟩
@[go_sem] def oS:EC:=eQ Tryz.f120
theorem OC:FnOK Tryz.prog 120 Tryz.f120 oS [] 3 22:=AP
@[go_sem] def pc:EC:=eQ Tryz.f158
theorem JV:FnOK Tryz.prog 158 Tryz.f158 pc [.c 2 (some 4),.t 3] 1 14:=AP
def RD (x1:NO):Option (SE×Bool):=
 A0 (decide ((ln SE.row x1.BK.SE)=0)) (
 some ((SE.mk 0 (([]:List Int)) 0 0),false)) (
 (Ac x1.BK.SE 0).bind fun x2=>
 some (x2,true))
instance k_node_first {x1}:KP (RD x1) 158 [.agg (NO.row x1)] (fun r=>(.tup [.agg (SE.row r.1),.bv r.2])):=⟨fun{r} h=>by refine FP JV fun w0 H0=>?_;have ok:=JV;rw [RD] at h;exact Wx⟩
@[go_sem] def pk:EC:=eQ Tryz.f171
theorem OE:FnOK Tryz.prog 171 Tryz.f171 pk [] 3 22:=AP
end
end NX
end Go.Proofs.YtgnjledocpbchaaGreat
