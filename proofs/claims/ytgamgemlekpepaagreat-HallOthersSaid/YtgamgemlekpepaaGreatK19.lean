/-
  Compiled code, written by computing it. No statement of the seat is proved here.
-/
import Derived.KernelRfl
import Derived.Test.YtgamgemlekpepaaGreatK18
namespace Go.Proofs.YtgamgemlekpepaaGreat
namespace NX
open Go
attribute [go_sem_proc] Int.reduceOfNat Int.reduceNegSucc
def opsZ:Op→List Operand
 | .call c | .go c | .defer c=>(match c.callee with | .value f=>[f] | .invoke r _=>[r] | .builtin _=>[])++c.args.toList
 | .makeFunc _ a b=>a.toList++b.toList
 | .slice _ x l h m=>x::(l.toList++h.toList++m.toList)
 | .select _ _=>[]
 | o=>o.operands.toList
def Zcj (ops:List Oper) (o:Oper):List Nat:=(opsZ o.op).filterMap (fun x=>match x with | .tmp t=>some t | _=>none)++(match o.guard with | some (g,_)=>(match ops[g]? with | some x=>x.dst.toList | none=>[]) | none=>[])
def Zdj (ops:List Oper) (x y:Oper):Bool:=(match x.dst with | some d=>!Zf d (Zcj ops y)&&(match y.dst with | some e=>!(e==d) | none=>true) | none=>true)&&(match y.dst with | some d=>!Zf d (Zcj ops x) | none=>true)
def Zej:Nat→List Nat→List Nat
 | 0,l=>l
 | n+1,l=>Zej n (n::l)
def Zfj (ops:List Oper):List (List Nat):=
 (Zej ops.length []).map fun i=>(Zej ops.length []).filter fun j=>match ops[i]?,ops[j]? with
   | some x,some y=>!(i==j)&&!(Zdj ops x y)
   | _,_=>false
def cZ (P:Program):Code→Option EC
 | .skip=>some .skip
 | .region _ ops draw=>match ops.toList.mapM (Ze P ops) with
   | some l=>match draw with
     | true=>some (.drw l (Zl ops) (Zfj ops.toList))
     | false=>some (.reg l)
   | none=>none
 | .seq a b=>match cZ P a,cZ P b with | some x,some y=>some (.seq x y) | _,_=>none
 | .cond c a b=>match cZ P a,cZ P b with | some x,some y=>some (.ite (cX c) x y) | _,_=>none
 | .block id a=>(cZ P a).map (.blk id)
 | .loop a=>(cZ P a).map .loop
 | .exit id=>some (.exit id)
 | .scope a=>(cZ P a).map .scope
 | .label l=>some (.label l)
 | .goto l=>some (.goto l)
 | .ret=>some .ret
 | _=>some .bad
def cF (P:Program) (f:Func):Option EC:=match f.body with | some c=>cZ P c | none=>none
theorem okA {P:Program} {f:Nat} {fn:Func} {body:EC} {rs:List ERes} {np nt:Nat} {x:Code} (h:P.funcs[f]?=some fn:=by kernel_rfl) (hb:fn.body=some x:=by exact rfl) (hc:cC P x=some body:=by kernel_rfl) (r:Zq1 P fn.results.toList=some rs:=by kernel_rfl) (t:fn.ntmps=np+nt:=by kernel_rfl):FnOK P f fn body rs np nt:=⟨h,⟨x,hb,hc⟩,r,t⟩
theorem hF (f:Func):cF Tryz.prog f=cF Tryz.prog f:=rfl
abbrev DP (f:Func):= {x:EC // cF Tryz.prog f=some x}
abbrev HA (c:Ctx) (all:Array Oper) (ops:List EOp) (af nap:List (List Nat)):Prop:=all.toList.mapM (Ze c.P all)=some ops∧Region.noSelect all=true∧af=Zl all∧nap=Zm all
section
variable {c:Ctx} {all:Array Oper} {ops:List EOp} {af nap:List (List Nat)} {Φ:St→Prop} {m:Nat} {ld:List Bool} {S:St}
theorem GE (h6:all.toList.mapM (Ze c.P all)=some ops) (i:Nat) {v:AV} {S1:St} {q:Prop} (h:G c all ops af Φ m (Zu1 ld i) (S1.put (Zy1 ops i).d v)) (hr:rdy ld af 0=[i]:=by exact rfl) (he:geO S (Zy1 ops i)=some (v,S1,q):=by exact rfl) (hq:q:=by trivial):G c all ops af Φ (m+1) ld S:=Zna i hr (Zua h6 he hq h)
theorem GV (h6:all.toList.mapM (Ze c.P all)=some ops) {i:Nat} {v:AV} {S1:St} {q:Prop} (h:G c all ops af Φ m (Zu1 ld i) (S1.put (Zy1 ops i).d v)) (he:geO S (Zy1 ops i)=some (v,S1,q):=by exact rfl) (hq:q:=by trivial):GO c all ops af Φ m ld S i:=Zua h6 he hq h
theorem GD (h:Φ S) (hr:rdy ld af 0=[]:=by exact rfl):G c all ops af Φ m ld S:=Zma hr h m
theorem GN (H:HA c all ops af nap) (m r:Nat) (h:(Zja ops af nap m ld S True).2.2.2∧G c all ops af Φ ((Zja ops af nap m ld S True).1+r) (Zja ops af nap m ld S True).2.1 (Zja ops af nap m ld S True).2.2.1):G c all ops af Φ (m+r) ld S:=Z6e H.1 H.2.1 H.2.2.1 H.2.2.2 m r h
theorem GP (H:HA c all ops af nap) (m r:Nat) (b:List Nat) (u:List (Nat×List AV)) (h:G c all ops af Φ r (rl b) ⟨pt u S.tm,S.bs,S.ss⟩) (he:Zja ops af nap m ld S True=(0,rl b,⟨pt u S.tm,S.bs,S.ss⟩,tN m):=by kernel_rfl):G c all ops af Φ (m+r) ld S:=Z9e H.1 H.2.1 H.2.2.1 H.2.2.2 m r b u he h
theorem GA {α:Type} {b:Nat} {l' m' v:List α} (f:α→List AV) (hv:Z8c b l' m'=some v) (h6:all.toList.mapM (Ze c.P all)=some ops) {i e n j:Nat} {x y:X} (h:G c all ops af Φ m (Zu1 ld i) ((S.app j ⟨e,n,v.map f⟩).put (Zy1 ops i).d (.osl (Zw S.ss)))) (J:(Zy1 ops i).o = .app e n b x y:=by exact rfl) (hg:gm S (Zy1 ops i).g:=by trivial)
 (hx:S.x x = .osl j:=by exact rfl) (hj:Zp S.ss j=some ⟨e,n,l'.map f⟩:=by exact rfl) (hy:Zp1 S n (S.x y)=some (m'.map f):=by exact rfl):GO c all ops af Φ m ld S i:=Znc f hv h6 J hg hx hj hy h
theorem GL (h6:all.toList.mapM (Ze c.P all)=some ops) {i:Nat} {α:Type} {l':List α} {z:Int} {y:α} {j T n off:Nat} {x:X} {v:AV} (f:α→List AV) (hv:at_ l' z=some y) (h:G c all ops af Φ m (Zu1 ld i) (S.put (Zy1 ops i).d v)) (J:(Zy1 ops i).o = .load x:=by exact rfl) (hg:gm S (Zy1 ops i).g:=by trivial) (hx:S.x x = .oel j (z.toNat*n) off:=by exact rfl) (hj:Zp S.ss j=some ⟨T,n,l'.map f⟩:=by exact rfl)
 (hl:Zt (f y) off 1=some [v]:=by exact rfl):GO c all ops af Φ m ld S i:=Zuf h6 f hv J hg hx hj hl h
theorem GI (h6:all.toList.mapM (Ze c.P all)=some ops) {i:Nat} {α:Type} {l':List α} {z:Int} {v:α} {T n j:Nat} {x y:X} (f:α→List AV) (hv:at_ l' z=some v) (h:G c all ops af Φ m (Zu1 ld i) (S.put (Zy1 ops i).d (.oel j (z.toNat*n) 0))) (J:(Zy1 ops i).o = .idx n x y:=by exact rfl) (hg:gm S (Zy1 ops i).g:=by trivial) (hx:S.x x = .osl j:=by exact rfl) (hi:S.x y = .iv z:=by exact rfl) (hj:Zp S.ss j=some ⟨T,n,l'.map f⟩:=by exact rfl):GO c all ops af Φ m ld S i:=Ztf h6 f hv J hg hx hi hj h
end
section
variable {c:Ctx} {S:St} {fn:Func} {K:AV→List (Option Blk)→List (Option Sl)→Prop} {k:List It} {β:Type}
theorem Zgj {ops:List EOp} {af nap:List (List Nat)} (h:∀all,HA c all ops af nap→G c all ops af (fun S'=>V c fn K k S') (Zw ops) (Za9 (Zw ops)) S) (hm:c.P.follows .mixedOrders=true:=by kernel_rfl):V c fn K (.code (.drw ops af nap)::k) S:=Ze9 hm fun all h6 hs h8 h9=>h all ⟨h6,hs,h9,h8⟩
@[go_sem] def Zhj (S:St) (p q:Nat):St:=match Zp S.ss p with | some L=>S.renS p q L | none=>S
theorem Zij (p q:Nat) (h:V c fn K k (Zhj S p q)) (hp:(Zp S.ss p).isSome=true:=by exact rfl) (hq:Z5 (q+1) (Zw S.ss)=true:=by exact rfl) (h6:(p==q)=false:=by exact rfl) (hqn:Z5 c.nq q=true:=by rfl) (h8:Zk1 S.ss=true:=by first | rfl | simp [go_sem]):V c fn K k S:=by
 cases hL:Zp S.ss p with
 | none=>rw [hL] at hp;simp at hp
 | some L=>unfold Zhj at h;rw [hL] at h;exact Zbb p q hL hq h6 h hqn h8
theorem Zjj (j:Nat) {L:Sl} (h:V c fn K k (S.sealS j L)) (hj:Zp S.ss j=some L:=by exact rfl) (h6:Zj1 L.rows=true:=by first | rfl | simp [go_sem]):V c fn K k S:=Zd8 j hj h h6
theorem Zkj (j o T n:Nat) {B:Blk} (h:V c fn K k ⟨S.tm,Zq S.bs j (some ⟨B.T,Zo B.cells o (.osl (Zw S.ss))⟩),S.ss++[some ⟨T,n,[]⟩]⟩) (hj:Zp S.bs j=some B:=by exact rfl) (ho:Zn B.cells o = .nl:=by exact rfl) (hn:Z5 1 n=true:=by exact rfl):V c fn K k S:=Zdb j o T n hj ho hn h
theorem Zlj (T n:Nat) (h:V c fn K k ⟨S.tm,S.bs,S.ss++[some ⟨T,n,[]⟩]⟩) (J:Z5 1 n=true:=by exact rfl):V c fn K k S:=Zyf T n J h
theorem MI {o:X} {a b:EC} {e:Bool} {A B:Option β} {r:β} (h:ifb e A B=some r) (h1:A=some r→V c fn K (.code a::k) S) (h2:B=some r→V c fn K (.code b::k) S) (hx:S.x o = .bv e:=by exact rfl):V c fn K (.code (.ite o a b)::k) S:=Zgc h hx (fun _=>h1) fun _=>h2
theorem MC (t:Nat) {e:Bool} {A B:Option β} {r:β} (h:ifb e A B=some r) (h1:A=some r→V c fn K k ⟨Zo S.tm t .tt,S.bs,S.ss⟩) (h2:B=some r→V c fn K k ⟨Zo S.tm t .ff,S.bs,S.ss⟩) (ht:Zn S.tm t = .bv e:=by exact rfl):V c fn K k S:=Zqc t h ht (fun _=>h1) fun _=>h2
theorem Zmj {f:Nat} {fn:Func} {body:EC} {rs:List ERes} {np nt:Nat} {x v:AV} {bs':List (Option Blk)} {ss':List (Option Sl)} (ok:FnOK c.P f fn body rs np nt) (h:Zs1 S rs=some x:=by exact rfl) (hle:St.le ⟨[x],S.bs,S.ss⟩ ⟨[v],bs',ss'⟩:=by simp [go_sem]):V c fn (fun x b s=>St.le ⟨[x],b,s⟩ ⟨[v],bs',ss'⟩) (.code .ret::k) S:=Z3f ok h hle
end
theorem FT {P:Program} {f:Nat} {fn:Func} {body:EC} {rs:List ERes} {np nt:Nat} (J:FnOK P f fn body rs np nt) {args:List AV} {bs bs':List (Option Blk)} {ss ss':List (Option Sl)} {v:AV}
 (h:∀w M,V (Ctx.lent P w M bs ss (Zw bs) (Zw ss)) fn (fun x b s=>St.le ⟨[x],b,s⟩ ⟨[v],bs',ss'⟩) [.code body] ⟨args++lun nt,bs,ss⟩) (U:args.length=np:=by exact rfl) (h1:Z5 (Zw bs) (Zw bs')=true:=by exact rfl) (h2:Z5 (Zw ss) (Zw ss')=true:=by exact rfl) (h3:St.ok ⟨[v],bs',ss'⟩=true:=by first | rfl | simp [go_sem]):Z1f P f args bs ss v bs' ss':=Z2f J U h1 h2 h3 h
theorem FP {P:Program} {f:Nat} {fn:Func} {body:EC} {rs:List ERes} {np nt:Nat} (J:FnOK P f fn body rs np nt) {args:List AV} {res:AV} (h:∀w0 H0,V (Ctx.of P w0 H0) fn (fun x _ _=>x.le res) [.code body] (St.init args nt)) (U:args.length=np:=by exact rfl) (hp:res.pu=true:=by exact rfl):Zz6 P f args res:=Z57 J U hp h
@[go_sem] def mkm (l:List Nat):Nat→Nat→List Bool
  | 0,_=>[]
  | n+1,i=>Zf i l::mkm l n (i+1)
attribute [go_sem] Zf
section
variable {c:Ctx} {S:St} {fn:Func} {K:AV→List (Option Blk)→List (Option Sl)→Prop} {k:List It}
theorem V_cR {d:Option Nat} {g:Option (Nat×Bool)} {l:List EOp} {f:Nat} {xs:List X} {args:List AV} {v:AV} {bs bs':List (Option Blk)} {ss ss':List (Option Sl)} (pb ps:List Nat) (B Q:Nat) (h0:Z1f c.P f args bs ss v bs' ss')
  (h:V c fn K (.ops l::k) ((⟨S.tm,mrg (mkm pb B 0) S.bs (spr (Zki B) pb (Zji pb ps B Q bs')),mrg (mkm ps Q 0) S.ss (spr (Zki Q) ps ss')⟩:St).put d (v.rnF pb ps B Q))) (hb:Zw pb=Zw bs:=by rfl) (hs:Zw ps=Zw ss:=by rfl) (hpb:Zmi B pb=true:=by rfl) (hps:Zmi Q ps=true:=by rfl) (hp:Zk1 ss=true:=by first | rfl | simp [go_sem]) (hp':Zk1 ss'=true:=by first | rfl | simp [go_sem])
  (h6:msk (mkm pb B 0) S.bs=spr (Zki B) pb (Zji pb ps B Q bs):=by rfl) (h8:msk (mkm ps Q 0) S.ss=spr (Zki Q) ps ss:=by rfl) (ha:AV.le.leL (Z71 S xs) (Zii pb ps B Q args):=by first | exact Zrb _ | simp [go_sem]) (hg:gm S g:=by trivial):V c fn K (.ops (⟨d,g,.call f xs⟩::l)::k) S:=
 Z9f (mkm pb B 0) (mkm ps Q 0) hg (Zbj pb ps B Q h0 hb hs hpb hps hp hp') h6 h8 ha h
end
section
variable {c:Ctx} {all:Array Oper} {ops:List EOp} {af:List (List Nat)} {Φ:St→Prop} {m':Nat} {ld:List Bool} {S:St}
theorem Znj (h6:all.toList.mapM (Ze c.P all)=some ops) {i f:Nat} {xs:List X} {args:List AV} {v:AV} {bs bs':List (Option Blk)} {ss ss':List (Option Sl)} (pb ps:List Nat) (B Q:Nat) (h0:Z1f c.P f args bs ss v bs' ss')
  (h:G c all ops af Φ m' (Zu1 ld i) ((⟨S.tm,S.bs,mrg (mkm ps Q 0) S.ss (spr (Zki Q) ps ss')⟩:St).put (Zy1 ops i).d (v.rnF pb ps B Q))) (hb:Zw pb=Zw bs:=by rfl) (hs:Zw ps=Zw ss:=by rfl) (hpb:Zmi B pb=true:=by rfl) (hps:Zmi Q ps=true:=by rfl) (hp:Zk1 ss=true:=by first | rfl | simp [go_sem]) (hp':Zk1 ss'=true:=by first | rfl | simp [go_sem]) (ho:(Zy1 ops i).o = .call f xs:=by exact rfl) (hg:gm S (Zy1 ops i).g:=by trivial)
  (h8:msk (mkm pb B 0) S.bs=spr (Zki B) pb (Zji pb ps B Q bs):=by rfl) (h9:msk (mkm ps Q 0) S.ss=spr (Zki Q) ps ss:=by rfl) (hc:mrg (mkm pb B 0) S.bs (spr (Zki B) pb (Zji pb ps B Q bs'))=S.bs:=by rfl) (ha:AV.le.leL (Z71 S xs) (Zii pb ps B Q args):=by first | exact Zrb _ | simp [go_sem]):GO c all ops af Φ m' ld S i:=
 Zsg h6 (mkm pb B 0) (mkm ps Q 0) ho hg (Zbj pb ps B Q h0 hb hs hpb hps hp hp') h8 h9 hc ha h
theorem Zoj (h6:all.toList.mapM (Ze c.P all)=some ops) {i f:Nat} {xs:List X} {args:List AV} {v:AV} {bs bs':List (Option Blk)} {ss ss':List (Option Sl)} (pb ps:List Nat) (B Q:Nat) (h0:Z1f c.P f args bs ss v bs' ss')
  (h:G c all ops af Φ m' (Zu1 ld i) ((⟨S.tm,mrg (mkm pb B 0) S.bs (spr (Zki B) pb (Zji pb ps B Q bs')),mrg (mkm ps Q 0) S.ss (spr (Zki Q) ps ss')⟩:St).put (Zy1 ops i).d (v.rnF pb ps B Q))) (h8:Zoh af i ops 0=true:=by kernel_rfl) (hb:Zw pb=Zw bs:=by rfl) (hs:Zw ps=Zw ss:=by rfl) (hpb:Zmi B pb=true:=by rfl) (hps:Zmi Q ps=true:=by rfl) (hp:Zk1 ss=true:=by first | rfl | simp [go_sem]) (hp':Zk1 ss'=true:=by first | rfl | simp [go_sem]) (ho:(Zy1 ops i).o = .call f xs:=by exact rfl) (hg:gm S (Zy1 ops i).g:=by trivial)
  (h9:msk (mkm pb B 0) S.bs=spr (Zki B) pb (Zji pb ps B Q bs):=by rfl) (hc:msk (mkm ps Q 0) S.ss=spr (Zki Q) ps ss:=by rfl) (ha:AV.le.leL (Z71 S xs) (Zii pb ps B Q args):=by first | exact Zrb _ | simp [go_sem]):GO c all ops af Φ m' ld S i:=
 Zrh h6 h8 (mkm pb B 0) (mkm ps Q 0) ho hg (Zbj pb ps B Q h0 hb hs hpb hps hp hp') h9 hc ha h
end
section
variable {c:Ctx} {S S':St} {fn:Func} {K:AV→List (Option Blk)→List (Option Sl)→Prop} {k:List It}
theorem LR {S:St}:Zxc S S:=Zxc.refl S
theorem VC {d:Option Nat} {g:Option (Nat×Bool)} {f:Nat} {xs:List X} {l:List EOp} {args:List AV} {res:AV} (J:Zz6 c.P f args res) (h:V c fn K (.ops l::k) (S.put d res))
 (ha:AV.le.leL (Z71 S xs) args:=by first | exact Zrb _ | simp [go_sem]) (hp:puL args=true:=by first | rfl | simp [go_sem]) (hg:gm S g:=by trivial):V c fn K (.ops (⟨d,g,.call f xs⟩::l)::k) S:=Zg7 hg J ha hp h
theorem VL {d:Option Nat} {g:Option (Nat×Bool)} {f:Nat} {xs:List X} {l:List EOp} {args:List AV} {res:AV} (hs:Zxc S S') (J:Zz6 c.P f args res) (h:V c fn K (.ops l::k) (S.put d res))
 (ha:AV.le.leL (Z71 S' xs) args:=by first | exact Zrb _ | simp [go_sem]) (hp:puL args=true:=by first | rfl | simp [go_sem]) (h6:res.flat=true:=by rfl) (hg:gm S g:=by trivial):V c fn K (.ops (⟨d,g,.call f xs⟩::l)::k) S:=Z0d hg hs J ha hp h6 h
end
section
variable {c:Ctx} {all:Array Oper} {ops:List EOp} {af:List (List Nat)} {Φ:St→Prop} {m:Nat} {ld:List Bool} {S S':St}
theorem GC (h6:all.toList.mapM (Ze c.P all)=some ops) {i f:Nat} {xs:List X} {args:List AV} {res:AV} (J:Zz6 c.P f args res) (h:G c all ops af Φ m (Zu1 ld i) (S.put (Zy1 ops i).d res)) (U:(Zy1 ops i).o = .call f xs:=by exact rfl) (hg:gm S (Zy1 ops i).g:=by trivial)
 (ha:AV.le.leL (Z71 S xs) args:=by first | exact Zrb _ | simp [go_sem]) (hp:puL args=true:=by first | rfl | simp [go_sem]):GO c all ops af Φ m ld S i:=Zva h6 U hg J ha hp h
theorem GK (h6:all.toList.mapM (Ze c.P all)=some ops) {i f:Nat} {xs:List X} {args:List AV} {res:AV} (hs:Zxc S S') (J:Zz6 c.P f args res) (h:G c all ops af Φ m (Zu1 ld i) (S.put (Zy1 ops i).d res)) (U:(Zy1 ops i).o = .call f xs:=by exact rfl) (hg:gm S (Zy1 ops i).g:=by trivial)
 (ha:AV.le.leL (Z71 S' xs) args:=by first | exact Zrb _ | simp [go_sem]) (hp:puL args=true:=by first | rfl | simp [go_sem]) (h8:res.flat=true:=by rfl):GO c all ops af Φ m ld S i:=Z1d h6 U hg hs J ha hp h8 h
end
end NX
end Go.Proofs.YtgamgemlekpepaaGreat
/-
  Runs whose end is told by simplifying it. No statement of the seat is proved here.
-/
namespace Go.Proofs.YtgamgemlekpepaaGreat
namespace NX
open Go
section
variable {c:Ctx} {S S':St} {fn:Func} {K:AV→List (Option Blk)→List (Option Sl)→Prop} {k k':List It} {p:Prop}
theorem Vg (m:Nat) (h:V c fn K k' S') (he:run m k S True=(k',S',p):=by dsimp only[go_sem]<;>exact rfl) (hp:p:=by simp):V c fn K k S:=Zg6 m (by rw [he];exact ⟨hp,h⟩)
end
section
variable {c:Ctx} {all:Array Oper} {ops:List EOp} {af nap:List (List Nat)} {Φ:St→Prop} {m:Nat} {ld ld':List Bool} {S S':St} {p:Prop}
theorem Gn (H:HA c all ops af nap) (m r:Nat) (h:G c all ops af Φ r ld' S') (he:Zja ops af nap m ld S True=(0,ld',S',p):=by dsimp only[go_sem]<;>exact rfl) (hp:p:=by simp):G c all ops af Φ (m+r) ld S:=GN H m r (by rw [he];exact ⟨hp,by simpa using h⟩)
end
theorem MD {P:Program} {w0:World} {H0:Frag} {f:Nat} {fn:Func} {body:EC} {rs:List ERes} {np nt:Nat} {β:Type} {e r:β} {T:AV} {S:St} {k:List It} (ok:FnOK P f fn body rs np nt) (h:some e=some r)
 (hl:e=r→leO (Zs1 S rs) T:=by rintro rfl;first | exact le_refl _ | simp [go_sem]):V (Ctx.of P w0 H0) fn (fun x _ _=>x.le T) (.code .ret::k) S:=Znb ok (hl (Option.some.inj h))
theorem MS {P:Program} {w0:World} {H0:Frag} {f:Nat} {fn:Func} {body:EC} {rs:List ERes} {np nt:Nat} {β:Type} {e r:β} {T:AV} {S:St} (ok:FnOK P f fn body rs np nt) (h:some e=some r)
 (hl:e=r→leO (Zs1 S rs) T:=by rintro rfl;first | exact le_refl _ | simp [go_sem]):V (Ctx.of P w0 H0) fn (fun x _ _=>x.le T) [] S:=Zob ok (hl (Option.some.inj h))
end NX
end Go.Proofs.YtgamgemlekpepaaGreat
/-
  Drawn regions that end alike whichever way they go: their games are played by a tactic. No statement of the seat is proved here.
-/
namespace Go.Proofs.YtgamgemlekpepaaGreat
namespace NX
open Go
section
theorem Zpj {c:Ctx} {all:Array Oper} {ops:List EOp} {af:List (List Nat)} {Φ Ψ:St→Prop} (J:∀S,Φ S→Ψ S):∀(m:Nat) (ld:List Bool) (S:St),G c all ops af Φ m ld S→G c all ops af Ψ m ld S
 | 0,_,_,h=>⟨h.1,J _ h.2⟩
 | m+1,_,_,h=>⟨fun e=>J _ (h.1 e),fun i hi=>(h.2 i hi).imp (fun x=>⟨x.1,Zpj J m _ _ x.2⟩) fun ⟨g,v,S1,a,b,d,e⟩=>⟨g,v,S1,a,b,d,Zpj J m _ _ e⟩⟩
variable {c:Ctx} {all:Array Oper} {ops:List EOp} {af nap:List (List Nat)} {Φ:St→Prop} {m m':Nat} {ld ld':List Bool} {S S':St} {p:Prop}
theorem Rd (hr:rdy ld af 0=[]:=by exact rfl):G c all ops af (fun S'=>S'=S) m ld S:=Zma (Φ:=fun S'=>S'=S) hr rfl m
theorem Rg (h:G c all ops af Φ m' ld' S') (H:HA c all ops af nap:=by assumption) (he:Zja ops af nap m ld S True=(m',ld',S',p):=by dsimp only[go_sem]<;>exact rfl) (_hn:(m'==m)=false:=by exact rfl) (hp:p:=by simp):G c all ops af Φ m ld S:=G_go H.1 H.2.1 H.2.2.1 H.2.2.2 (by rw [he];exact ⟨hp,h⟩)
theorem R1 {i:Nat} {v:AV} {S1:St} {q:Prop} (h:G c all ops af Φ m ld' S') (H:HA c all ops af nap:=by assumption) (hr:rdy ld af 0=[i]:=by exact rfl) (he:geO S (Zy1 ops i)=some (v,S1,q):=by exact rfl) (hq:q:=by trivial)
  (hS:(Zu1 ld i,S1.put (Zy1 ops i).d v)=(ld',S'):=by dsimp only[go_sem]<;>exact rfl):G c all ops af Φ (m+1) ld S:=by
 simp only [Prod.mk.injEq] at hS;obtain ⟨rfl,rfl⟩:=hS;exact GE H.1 i h hr he hq
theorem RV {i:Nat} {v:AV} {S1:St} {q:Prop} (h:G c all ops af Φ m ld' S') (H:HA c all ops af nap:=by assumption) (he:geO S (Zy1 ops i)=some (v,S1,q):=by exact rfl) (hq:q:=by trivial)
  (hS:(Zu1 ld i,S1.put (Zy1 ops i).d v)=(ld',S'):=by dsimp only[go_sem]<;>exact rfl):GO c all ops af Φ m ld S i:=by
 simp only [Prod.mk.injEq] at hS;obtain ⟨rfl,rfl⟩:=hS;exact GV H.1 h he hq
theorem RO {i:Nat} (h:GO c all ops af Φ m ld S i) (hr:rdy ld af 0=[i]:=by exact rfl):G c all ops af Φ (m+1) ld S:=Zna i hr h
theorem R2 {i j:Nat} (h:GO c all ops af Φ m ld S i) (h2:GO c all ops af Φ m ld S j) (hr:rdy ld af 0=[i,j]:=by exact rfl):G c all ops af Φ (m+1) ld S:=Zoa i j hr h h2
theorem R3 {i j k:Nat} (h:GO c all ops af Φ m ld S i) (h2:GO c all ops af Φ m ld S j) (h3:GO c all ops af Φ m ld S k) (hr:rdy ld af 0=[i,j,k]:=by exact rfl):G c all ops af Φ (m+1) ld S:=Zpa i j k hr h h2 h3
theorem RL {α:Type} {l':List α} {z:Int} {y:α} {j T n off i:Nat} {x:X} {v:AV} {f:α→List AV} (h:G c all ops af Φ m ld' S') (H:HA c all ops af nap:=by assumption) (ho:(Zy1 ops i).o = .load x:=by exact rfl) (hg:gm S (Zy1 ops i).g:=by trivial) (hx:S.x x = .oel j (z.toNat*n) off:=by exact rfl) (hj:Zp S.ss j=some ⟨T,n,l'.map f⟩:=by exact rfl)
  (hv:at_ l' z=some y:=by first | assumption | exact Zfe (by assumption)) (hl:Zt (f y) off 1=some [v]:=by exact rfl) (hS:(Zu1 ld i,S.put (Zy1 ops i).d v)=(ld',S'):=by dsimp only[go_sem]<;>exact rfl):GO c all ops af Φ m ld S i:=by
 simp only [Prod.mk.injEq] at hS;obtain ⟨rfl,rfl⟩:=hS;exact GL H.1 f hv h ho hg hx hj hl
theorem RI {α:Type} {l':List α} {z:Int} {v:α} {T n j i:Nat} {x y:X} {f:α→List AV} (h:G c all ops af Φ m ld' S') (H:HA c all ops af nap:=by assumption) (ho:(Zy1 ops i).o = .idx n x y:=by exact rfl) (hg:gm S (Zy1 ops i).g:=by trivial) (hx:S.x x = .osl j:=by exact rfl) (hi:S.x y = .iv z:=by exact rfl) (hj:Zp S.ss j=some ⟨T,n,l'.map f⟩:=by exact rfl)
  (hv:at_ l' z=some v:=by first | assumption | exact Zfe (by assumption)) (hS:(Zu1 ld i,S.put (Zy1 ops i).d (.oel j (z.toNat*n) 0))=(ld',S'):=by dsimp only[go_sem]<;>exact rfl):GO c all ops af Φ m ld S i:=by
 simp only [Prod.mk.injEq] at hS;obtain ⟨rfl,rfl⟩:=hS;exact GI H.1 f hv h ho hg hx hi hj
theorem Rx {α:Type} {l':List α} {z:Int} {v:α} {n k i:Nat} {x y:X} {f:α→List AV} {w:List Nat} (h:G c all ops af Φ m ld' S') (H:HA c all ops af nap:=by assumption) (hi:rdy ld af 0=w:=by exact rfl) (hw:Zw1 i w=true) (ho:(Zy1 ops i).o = .idx n x y:=by exact rfl) (hg:gm S (Zy1 ops i).g:=by trivial) (hx:S.x x = .sl k (l'.map f):=by exact rfl) (hy:S.x y = .iv z:=by exact rfl)
  (hv:at_ l' z=some v:=by assumption) (h6:k=n:=by exact rfl) (hf:frB ld af i (Zx1 nap i)=true:=by exact rfl) (hS:(Zu1 ld i,S.put (Zy1 ops i).d (.elt (f v) 0))=(ld',S'):=by dsimp only[go_sem]<;>exact rfl):G c all ops af Φ (m+1) ld S:=by
 simp only [Prod.mk.injEq] at hS;obtain ⟨rfl,rfl⟩:=hS;exact Zkc H.1 H.2.1 H.2.2.1 H.2.2.2 i f hv (by rw [hi];exact hw) ho hg hx hy h6 hf h
theorem RC {i f:Nat} {xs:List X} {args:List AV} {res:AV} (h:G c all ops af Φ m ld' S') (H:HA c all ops af nap:=by assumption) (ho:(Zy1 ops i).o = .call f xs:=by exact rfl) (hg:gm S (Zy1 ops i).g:=by trivial) (hf:Zz6 c.P f args res:=by assumption)
  (ha:AV.le.leL (Z71 S xs) args:=by first | exact Zrb _ | simp [go_sem]) (hp:puL args=true:=by first | rfl | simp [go_sem]) (hS:(Zu1 ld i,S.put (Zy1 ops i).d res)=(ld',S'):=by dsimp only[go_sem]<;>exact rfl):GO c all ops af Φ m ld S i:=by
 simp only [Prod.mk.injEq] at hS;obtain ⟨rfl,rfl⟩:=hS;exact GC H.1 hf h ho hg ha hp
theorem RA {α:Type} {b:Nat} {l' m' v:List α} {f:α→List AV} {i e n j:Nat} {x y:X} (h:G c all ops af Φ m ld' S') (H:HA c all ops af nap:=by assumption) (ho:(Zy1 ops i).o = .app e n b x y:=by exact rfl) (hg:gm S (Zy1 ops i).g:=by trivial)
  (hx:S.x x = .osl j:=by exact rfl) (hj:Zp S.ss j=some ⟨e,n,l'.map f⟩:=by exact rfl) (hv:Z8c b l' m'=some v:=by assumption) (hy:Zp1 S n (S.x y)=some (m'.map f):=by exact rfl) (hS:(Zu1 ld i,(S.app j ⟨e,n,v.map f⟩).put (Zy1 ops i).d (.osl (Zw S.ss)))=(ld',S'):=by dsimp only[go_sem]<;>exact rfl):GO c all ops af Φ m ld S i:=by
 simp only [Prod.mk.injEq] at hS;obtain ⟨rfl,rfl⟩:=hS;exact GA f hv H.1 h ho hg hx hj hy
theorem Rx1 {α:Type} {l':List α} {z:Int} {v:α} {n k i:Nat} {x y:X} {f:α→List AV} {w:List Nat} (h:G c all ops af Φ m ld' S') (hi:rdy ld af 0=i::w:=by exact rfl) (ho:(Zy1 ops i).o = .idx n x y:=by exact rfl) (H:HA c all ops af nap:=by assumption) (hg:gm S (Zy1 ops i).g:=by trivial) (hx:S.x x = .sl k (l'.map f):=by exact rfl) (hy:S.x y = .iv z:=by exact rfl)
 (hv:at_ l' z=some v:=by assumption) (h6:k=n:=by exact rfl) (hf:frB ld af i (Zx1 nap i)=true:=by exact rfl) (hS:(Zu1 ld i,S.put (Zy1 ops i).d (.elt (f v) 0))=(ld',S'):=by dsimp only[go_sem]<;>exact rfl):G c all ops af Φ (m+1) ld S:=Rx h H hi (by simp [Zw1]) ho hg hx hy hv h6 hf hS
theorem Rx2 {α:Type} {l':List α} {z:Int} {v:α} {n k i a:Nat} {x y:X} {f:α→List AV} {w:List Nat} (h:G c all ops af Φ m ld' S') (hi:rdy ld af 0=a::i::w:=by exact rfl) (ho:(Zy1 ops i).o = .idx n x y:=by exact rfl) (H:HA c all ops af nap:=by assumption) (hg:gm S (Zy1 ops i).g:=by trivial) (hx:S.x x = .sl k (l'.map f):=by exact rfl) (hy:S.x y = .iv z:=by exact rfl)
 (hv:at_ l' z=some v:=by assumption) (h6:k=n:=by exact rfl) (hf:frB ld af i (Zx1 nap i)=true:=by exact rfl) (hS:(Zu1 ld i,S.put (Zy1 ops i).d (.elt (f v) 0))=(ld',S'):=by dsimp only[go_sem]<;>exact rfl):G c all ops af Φ (m+1) ld S:=Rx h H hi (by simp only [Zw1];split<;>simp) ho hg hx hy hv h6 hf hS
theorem Gs {S0:St} (h:Φ S0) (h1:G c all ops af (fun S'=>S'=S0) m ld S:=by
 repeat' first
  | exact Rd
  | refine Rg ?_
  | refine Rx1 ?_
  | refine Rx2 ?_
  | refine R1 ?_
  | refine R2 ?_ ?_
  | refine RO ?_
  | refine R3 ?_ ?_ ?_
  | refine RV ?_
  | refine RI ?_
  | refine RL ?_
  | refine RC ?_
  | refine RA ?_):G c all ops af Φ m ld S:=Zpj (fun _ e=>by rw [e];exact h) _ _ _ h1
end
end NX
end Go.Proofs.YtgamgemlekpepaaGreat
