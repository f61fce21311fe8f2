/-
  The symbolic machine: functions, calls, slices. No statement of the seat is proved here.
-/
import Derived.Test.YtgamgemlekpepaaGreatK4
namespace Go.Proofs.YtgamgemlekpepaaGreat
namespace NX
open Go Go.RowKit
def Zz6 (P:Program) (f:Nat) (args:List AV) (res:AV):Prop:=
 ∀(H:Frag) (w:World) (vs:List Value),(∀k o,H k=some o→w.heap[k]?=some o)→Z1 P H→AV.isL (Z2 H) args vs→
  Calls P f vs.toArray w fun e w'=>∃v H',e = .returned v∧Below w.heap.size w w'∧(∀k o,H' k=some o→w'.heap[k]?=some o)∧
   (∀k,k<w.heap.size→H' k=H k)∧res.is (Z2 H') v
structure FnOK (P:Program) (f:Nat) (fn:Func) (body:EC) (rs:List ERes) (np nt:Nat):Prop where
 h:P.funcs[f]?=some fn
 b:∃x,fn.body=some x∧cC P x=some body
 r:Zq1 P fn.results.toList=some rs
 t:fn.ntmps=np+nt
theorem Z07:∀(a b:List AV) (t:Nat),Zn (a++b) t=if t<a.length then Zn a t else Zn b (t-a.length)
 | [],b,t=>by simp
 | x::a,b,0=>rfl
 | x::a,b,t+1=>by simp [Zn,Z07 a b t]
theorem Z17:∀(n t:Nat),Zn (lun n) t = .un∨(n≤t∧Zn (lun n) t = .any)
 | 0,t=>.inr ⟨Nat.zero_le _,rfl⟩
 | n+1,0=>.inl rfl
 | n+1,t+1=>by
   rcases Z17 n t with h | ⟨h1,h2⟩
   ·exact .inl h
   ·exact .inr ⟨by omega,h2⟩
theorem Z27:∀n,(lun n).length=n
 | 0=>rfl
 | n+1=>by simp [lun,Z27 n]
theorem Z37 {M:Mem}:∀ {l:List AV} {vs:List Value},AV.isL M l vs→∀t,t<l.length→(Zn l t).is M (vs.getD t undef)
 | [],_,_,t,h=>by simp at h
 | x::l,_,⟨v,r,hv,h1,h2⟩,t,h=>by
   subst hv;cases t with
   | zero=>exact h1
   | succ t=>simpa [Zn] using Z37 h2 t (by simpa using h)
theorem Z47 {P:Program} {w:World} {H:Frag} {args:List AV} {vs:List Value} {nt:Nat} (hH:∀k o,H k=some o→w.heap[k]?=some o) (h6:Z1 P H) (ha:AV.isL (Z2 H) args vs):
  RelT ⟨P,w,H,fun _=>False,0,fun _=>0,0,fun _=>.nilFunc⟩ (Z2 H) (St.init args nt) {tmps:=vs.toArray++Array.replicate nt undef,defers:=[]} w:=by
 have hl:=Ze2 ha;refine ⟨by simp [St.init,Z27,hl],fun t=>?_,rfl,⟨rfl,rfl,fun j hj=>absurd hj (Nat.not_lt_zero _),rfl,rfl,rfl,Nat.le_refl _,fun _ _ _=>rfl,hH,fun _ _ _=>rfl,fun j B h=>by simp [St.init,Zp] at h,fun j B h=>by simp [St.init,Zp] at h,fun i j B C h=>by simp [St.init,Zp] at h,fun i j B C h=>by simp [St.init,Zp] at h,fun i j B C g h=>by simp [St.init,Zp] at h,⟨Nat.zero_le _,fun _ h=>absurd h (Nat.not_lt_zero _),Nat.zero_le _,fun _ h=>absurd h (Nat.not_lt_zero _),h6⟩⟩⟩;simp only [St.init,Z07,Array.getD_eq_getD_getElem?,Array.getElem?_append,List.size_toArray];by_cases h:t<args.length
 ·rw [if_pos h,if_pos (by omega)];have:=Z37 ha t h;simpa [List.getD_eq_getElem?_getD] using this
 ·rw [if_neg h,if_neg (by omega)];rcases Z17 nt (t-args.length) with h1 | ⟨_,h1⟩
  ·rw [h1];simp only [AV.is,Array.getElem?_replicate];split<;>rfl
  ·rw [h1];trivial
def Ctx.of (P:Program) (w0:World) (H0:Frag):Ctx:=⟨P,w0,H0,fun _=>False,0,fun _=>0,0,fun _=>.nilFunc⟩
theorem Z57 {P:Program} {f:Nat} {fn:Func} {body:EC} {rs:List ERes} {np nt:Nat} (J:FnOK P f fn body rs np nt) {args:List AV} {res:AV} (U:args.length=np) (hp:res.pu=true)
  (h:∀w0 H0,V (Ctx.of P w0 H0) fn (fun x _ _=>x.le res) [.code body] (St.init args nt)):Zz6 P f args res:=by
 intro H w vs hH h6 ha;obtain ⟨x,hb,hx⟩:=J.b;have hl:=Ze2 ha;refine calls_of_wp J.h hb ?_;have hT:=Z47 (P:=P) (nt:=nt) hH h6 ha;have e1:fn.ntmps-vs.toArray.size=nt:=by rw [J.t];simp;omega
 rw [e1];refine wp_mono (h w H [.code x] _ _ w ⟨_,_,rfl,hx,rfl⟩ hT) ?_;have mono:∀e w',RK (Ctx.of P w H) (fun x _ _=>x.le res) e w'→∃v H',e = .returned v∧Below w.heap.size w w'∧(∀k o,H' k=some o→w'.heap[k]?=some o)∧
   (∀k,k<w.heap.size→H' k=H k)∧res.is (Z2 H') v:=by
  rintro e w' ⟨v,M,bs,ss,y,rfl,hS,hv,hle⟩;exact ⟨v,M.H,rfl,⟨hS.os,hS.tape,hS.output,hS.size,fun k hk=>hS.block k hk (fun h=>h)⟩,hS.hle,fun k hk=>hS.hold k hk (fun h=>h),Zt2 _ _ (Zh6 _ _ _ hle hv) hp⟩
 intro e a w' hq;cases e with
 | normal=>obtain ⟨h1,v,h2,h3⟩:=hq;exact ⟨h1,v,h2,mono _ _ h3⟩
 | ret=>obtain ⟨h1,v,h2,h3⟩:=hq;exact ⟨h1,v,h2,mono _ _ h3⟩
 | panic ch=>obtain ⟨h1,h2⟩:=hq;exact ⟨h1,mono _ _ h2⟩
 | outgrown=>exact mono _ _ hq
 | exit id=>exact hq
 | goto l=>exact hq
theorem Zz6.le {P:Program} {f:Nat} {args J:List AV} {res U:AV} (h:Zz6 P f args res) (ha:AV.le.leL J args) (hr:res.le U):Zz6 P f J U:=by intro H w vs hH h6 hv;refine (h H w vs hH h6 (Zi6 _ _ _ ha hv)).mono ?_;rintro e w' ⟨v,H',h1,h2,h3,h4,h5⟩;exact ⟨v,H',h1,h2,h3,h4,Zh6 _ _ _ hr h5⟩
section
variable {c:Ctx} {M:Mem} {S S':St} {a:Act} {w:World} {fn:Func} {K:AV→List (Option Blk)→List (Option Sl)→Prop} {k:List It}
theorem RelS.sealed (h:RelS c M S.bs S.ss w) {w':World} {J:Frag} (hb:Below w.heap.size w w') (h1:∀k o,J k=some o→w'.heap[k]?=some o) (h2:∀k,k<w.heap.size→J k=M.H k):
  RelS c {M with H:=J} S.bs S.ss w'∧M.le {M with H:=J}:=by
 have hle:M.le {M with H:=J}:=⟨Nat.le_refl _,Nat.le_refl _,fun _ _=>rfl,fun _ _=>rfl,fun k o hk=>by have:=(Array.getElem?_eq_some_iff.1 (h.hle k o hk)).1;exact (h2 k this).trans hk⟩
 have g:=h.grow hb;refine ⟨⟨g.nb,g.ns,g.so,g.os,g.tape,g.output,g.size,g.block,h1,?_,?_,?_,g.d1,g.d2,g.d3,g.pin.le hle⟩,hle⟩
 ·intro k hk hn;exact (h2 k (Nat.lt_of_lt_of_le hk h.size)).trans (h.hold k hk hn)
 ·intro j B hj;obtain ⟨g1,g2,vs,g3,g4,g5⟩:=g.blk j B hj;exact ⟨g1,(h2 _ (h.blk_lt hj)).trans g2,vs,Zo2 hle _ _ g3,g4,g5⟩
 ·intro j L hj;obtain ⟨g0,vss,g1,g2,g3,g4⟩:=g.slc j L hj;exact ⟨g0,vss,Zp2 hle.sl _ _ _ g1,g2,g3,fun gg hg=>⟨(g4 gg hg).1,(h2 _ (h.slc_lt hj hg)).trans (g4 gg hg).2⟩⟩
def gm (S:St):Option (Nat×Bool)→Prop
 | none=>True
 | some (t,f)=>match lgt S.tm t,f with
   | .tt,true=>True
   | .ff,false=>True
   | _,_=>False
theorem Z67 {d:Option Nat} {g:Option (Nat×Bool)} {o:EO} {l:List EOp} (h9:gm S g)
  (h:∀(ro:Oper),ro.dst=d→cO c.P ro.op=o→∀M a w,RelT c M S a w→∀(J:Act→World→Prop) (Q:Exit→Act→World→Prop),
    (∀M' w' v x bs ss,M.le M'→RelS c M' bs ss w'→v.is M' x→V c fn K (.ops l::k) ((⟨S.tm,bs,ss⟩:St).put d v)→J (a.put d x) w')→ro.wp c.P a w J Q):V c fn K (.ops (⟨d,g,o⟩::l)::k) S:=by
 rintro rk M a w ⟨y,r,rfl,hy,hr⟩ hT;cases y with
 | code x=>exact hy.elim
 | blk i=>exact hy.elim
 | lp _ _=>exact hy.elim
 | sc _=>exact hy.elim
 | ops all rl=>
   obtain ⟨ro,rl',rfl,ho,hl⟩:=mapM_cons hy;show wpList c.P all (Z73 c.P fn (RK c K) r) (ro::rl') a w;have fin:Region.wanted ro (yielded all a.tmps)=true→ro.dst=d→cO c.P ro.op=o→wpList c.P all (Z73 c.P fn (RK c K) r) (ro::rl') a w:=by intro hw h1 h2;unfold wpList;rw [if_pos hw];refine .inl (h ro h1 h2 M a w hT _ _ ?_);intro M' w' v x bs ss hM hS hv hV;exact hV (.ops all rl'::r) M' _ w' ⟨_,_,rfl,hl,hr⟩ (hT.put d hM hS hv)
   unfold Ze at ho;cases hg:ro.guard with
   | none=>rw [hg] at ho;simp only [Option.some.injEq,EOp.mk.injEq] at ho;exact fin (by simp [Region.wanted,hg]) ho.1 ho.2.2
   | some jf=>
     obtain ⟨j,f⟩:=jf;rw [hg] at ho;dsimp only at ho;split at ho
     ·rename_i t ht;simp only [Option.some.injEq,EOp.mk.injEq] at ho;obtain ⟨h1,h2,h3⟩:=ho;subst h2;have h6:=Zd6 (a:=a) ht;have h8:=Zf1 (hT.tm t);simp only [gm] at h9;split at h9
      ·rename_i hv;rw [hv] at h8;exact fin (by rw [show a.tmps.getD t undef = .bool true from h8] at h6;simp [Region.wanted,hg,h6]) h1 h3
      ·rename_i hv;rw [hv] at h8;exact fin (by rw [show a.tmps.getD t undef = .bool false from h8] at h6;simp [Region.wanted,hg,h6]) h1 h3
      ·exact h9.elim
     ·simp at ho
def Z77 (c:Ctx) (S:St) (o:EO) (v:AV) (S1:St):Prop:=
 ∀(ro:Oper),cO c.P ro.op=o→∀M a w,RelT c M S a w→∀(next:Act→World→Prop) (Q:Exit→Act→World→Prop),
  (∀M' w' x,M.le M'→RelS c M' S1.bs S1.ss w'→v.is M' x→next (a.put ro.dst x) w')→ro.wp c.P a w next Q
theorem Z87 {d:Option Nat} {g:Option (Nat×Bool)} {o:EO} {l:List EOp} {v:AV} {S1:St} (h6:gm S g) (hs:Z77 c S o v S1) (h8:S1.tm=S.tm)
  (h:V c fn K (.ops l::k) (S1.put d v)):V c fn K (.ops (⟨d,g,o⟩::l)::k) S:=
 Z67 h6 fun ro hd ho M a w hT next Q hn=>hs ro ho M a w hT next Q fun M' w' x h1 h2 h3=>by have:=hn M' w' v x S1.bs S1.ss h1 h2 h3 (by rw [←h8];exact h);rw [hd];exact this
theorem Z97 {o:EO} {v:AV} {S1:St} {q:Prop} (he:ev S o=some (v,S1,q)) (hq:q):Z77 c S o v S1:=by
 intro ro ho M a w hT next Q hn
 subst ho;obtain ⟨d,op,ty,pos,af,g⟩:=ro;obtain ⟨x,M',w',h6,hM,hS,h8,hv⟩:=Za6 hT op he hq d ty pos af g;unfold Oper.wp;rcases h6 with h6 | ⟨h6,hx⟩
 ·rw [h6];exact hn M' w' x hM hS hv
 ·rw [h6];subst hx;exact hn M' w' _ hM hS hv
theorem Za7 {P:Program} {w:World} {f:Nat} {args:Array Value} (J:(P.funcs[f]?).any (fun fn=>fn.body.isSome&&!(fn.name == "runtime.NumGoroutine"))=true):
  (callFunc f args).run P w = .ok (.enter f args) w:=by
 unfold callFunc;cases h:P.funcs[f]? with
 | none=>simp [h] at J
 | some fn=>
   simp only [h,Option.any_some,Bool.and_eq_true,Bool.not_eq_true'] at J;simp only [Sem.run_bind,run_program,Result.andThen_ok,h];rw [if_neg (by simp [J.2])];cases hb:fn.body with
   | none=>simp [hb] at J
   | some x=>simp
theorem Zb7 {P:Program} {op:Op} {f:Nat} {xs:List X} (J:cO P op = .call f xs):
  ∃cargs argTypes,op = .call ⟨.value (.func f),cargs,argTypes⟩∧(P.funcs[f]?).any (fun fn=>fn.body.isSome&&!(fn.name == "runtime.NumGoroutine"))=true∧cargs.toList.map cX=xs:=by
 cases op
 case call ci=>
  obtain ⟨callee,cargs,argTypes⟩:=ci;cases callee with
  | value o=>
    cases o with
    | func f'=>
      simp only [cO] at J;split at J
      ·rename_i hf;simp only [EO.call.injEq] at J;obtain ⟨rfl,rfl⟩:=J;exact ⟨cargs,argTypes,rfl,hf,rfl⟩
      ·simp at J
    | _=>simp [cO] at J
  | invoke _ _=>simp [cO] at J
  | builtin b=>cases b<;>simp only [cO] at J<;>(repeat' (split at J))<;>simp at J
 all_goals (simp only [cO] at J;(repeat' (split at J))<;>simp at J)
theorem Zc7 {P:Program} {op:Op} {f:X} {xs:List X} (J:cO P op = .callv f xs):
  ∃t cargs argTypes,op = .call ⟨.value (.tmp t),cargs,argTypes⟩∧f = .t t∧cargs.toList.map cX=xs:=by
 cases op
 case call ci=>
  obtain ⟨callee,cargs,argTypes⟩:=ci;cases callee with
  | value o=>
    cases o with
    | tmp t=>simp only [cO,EO.callv.injEq] at J;obtain ⟨rfl,rfl⟩:=J;exact ⟨t,cargs,argTypes,rfl,rfl,rfl⟩
    | func f'=>simp only [cO] at J;(repeat' (split at J))<;>simp at J
    | _=>simp [cO] at J
  | invoke _ _=>simp [cO] at J
  | builtin b=>cases b<;>simp only [cO] at J<;>(repeat' (split at J))<;>simp at J
 all_goals (simp only [cO] at J;(repeat' (split at J))<;>simp at J)
theorem Zd7 {P:Program} {op:Op} {n:Nat} {x i:X} (J:cO P op = .idx n x i):
  ∃T y j e,op = .indexAddr T y j∧P.underlying T=some (.slice e)∧Z9 P e=some n∧cX y=x∧cX j=i:=by
 cases op<;>simp only [cO] at J<;>(repeat' (split at J))<;>(try (simp at J;done));rename_i T y j _ e hT _ n' hn;simp only [EO.idx.injEq] at J;obtain ⟨rfl,rfl,rfl⟩:=J;exact ⟨T,y,j,e,rfl,hT,hn,rfl,rfl⟩
theorem Ze7 {P:Program} {op:Op} {e n b:Nat} {x y:X} (J:cO P op = .app e n b x y):
  ∃t p q i z,op = .call ⟨.builtin .append, #[p,q], #[t,t]⟩∧P.underlying t=some (.slice e)∧P.info? e=some i∧i.zero=some z∧i.size=n∧i.bytes=b∧z.cells.size=n∧0<n∧cX p=x∧cX q=y:=by
 cases op
 case call ci=>
  obtain ⟨callee,cargs,argTypes⟩:=ci;cases callee with
  | value o=>
    cases o with
    | func f'=>simp only [cO] at J;(repeat' (split at J))<;>simp at J
    | _=>simp [cO] at J
  | invoke _ _=>simp [cO] at J
  | builtin b=>
    cases b
    case append=>
     simp only [cO] at J;split at J
     ·rename_i t0 t1 p q h1 h2;split at J
      ·rename_i ht;split at J
       ·rename_i e' hu;split at J
        ·rename_i i hi;split at J
         ·rename_i z hz;split at J
          ·rename_i h6;simp only [EO.app.injEq] at J;obtain ⟨rfl,rfl,rfl,rfl,rfl⟩:=J;subst ht;have e1:cargs = #[p,q]:=by apply Array.ext';simpa using h2
           have e2:argTypes = #[t0,t0]:=by apply Array.ext';simpa using h1
           subst e1;subst e2;exact ⟨t0,p,q,i,z,rfl,hu,hi,hz,rfl,rfl,h6.1,h6.2,rfl,rfl⟩
          ·simp at J
         ·simp at J
        ·simp at J
       ·simp at J
      ·(repeat' (split at J))<;>simp at J
     ·simp at J
    all_goals (simp only [cO] at J;(repeat' (split at J))<;>simp at J)
 all_goals (simp only [cO] at J;(repeat' (split at J))<;>simp at J)
theorem Zf7 {f:Nat} {xs:List X} {args:List AV} {res:AV} (J:Zz6 c.P f args res)
  (ha:AV.le.leL (Z71 S xs) args) (hp:puL args=true):Z77 c S (.call f xs) res S:=by
 intro ro ho M a w hT next Q hn
 obtain ⟨dst,op,ty,pos,af,gd⟩:=ro;dsimp only at ho;obtain ⟨cargs,argTypes,rfl,h8,rfl⟩:=Zb7 ho;have hm:=Zu2 _ _ (Zi6 _ _ _ ha (Zp5 hT cargs.toList)) hp;have hc:=J M.H w _ hT.st.hle hT.st.pin.gl hm;have h6:(execOp a.eval ⟨dst,.call ⟨.value (.func f),cargs,argTypes⟩,ty,pos,af,gd⟩).run c.P w = .ok (.enter f (cargs.map a.eval)) w:=by have he:a.eval (.func f) = .func (.func f) #[] #[]:=rfl;generalize a.eval=ρ at *;simp [execOp,resolve,Deferred.ofValue,invoke,he,Za7 h8]
 unfold Oper.wp;rw [h6];show Calls c.P f (cargs.map a.eval) w _;have e1:(cargs.toList.map a.eval).toArray=cargs.map a.eval:=by apply Array.ext';simp
 rw [←e1];refine hc.mono ?_;rintro e w' ⟨v,H',rfl,hb,h1,h2,h3⟩;obtain ⟨hS,hle⟩:=hT.st.sealed hb h1 h2;exact hn _ w' v hle hS (Zn2 (Zm2 _) _ _ h3)
theorem Zg7 {d:Option Nat} {g:Option (Nat×Bool)} {f:Nat} {xs:List X} {l:List EOp} {args:List AV} {res:AV} (hg:gm S g) (J:Zz6 c.P f args res)
  (ha:AV.le.leL (Z71 S xs) args:=by first | exact Zrb _ | simp [go_sem]) (hp:puL args=true:=by first | rfl | simp [go_sem]) (h:V c fn K (.ops l::k) (S.put d res)):V c fn K (.ops (⟨d,g,.call f xs⟩::l)::k) S:=
 Z87 hg (Zf7 J ha hp) rfl h
theorem Zh7 {f:Nat} {o:X} {xs:List X} {caps args:List AV} {res:AV} (U:S.x o = .clo f caps) (J:Zz6 c.P f args res)
  (h9:(c.P.funcs[f]?).any (fun fn=>fn.body.isSome&&!(fn.name == "runtime.NumGoroutine"))=true)
  (ha:AV.le.leL (Z71 S xs++caps) args) (hp:puL args=true):Z77 c S (.callv o xs) res S:=by
 intro ro h6 M a w hT next Q hn
 obtain ⟨dst,op,ty,pos,af,gd⟩:=ro;dsimp only at h6;obtain ⟨t,cargs,argTypes,rfl,rfl,rfl⟩:=Zc7 h6;have hx:=Z34 hT (.tmp t);rw [show S.x (cX (.tmp t)) = .clo f caps from U] at hx;obtain ⟨cv,hx1,hd⟩:=hx;have hm:=Zu2 _ _ (Zi6 _ _ _ ha (Zh2 (Zp5 hT cargs.toList) hd)) hp;have hc:=J M.H w _ hT.st.hle hT.st.pin.gl hm;have h8:(execOp a.eval ⟨dst,.call ⟨.value (.tmp t),cargs,argTypes⟩,ty,pos,af,gd⟩).run c.P w = .ok (.enter f (cargs.map a.eval++cv.toArray)) w:=by generalize a.eval=ρ at *;simp [execOp,resolve,Deferred.ofValue,invoke,hx1,Za7 h9]
 unfold Oper.wp;rw [h8];show Calls c.P f (cargs.map a.eval++cv.toArray) w _;have e1:(cargs.toList.map a.eval++cv).toArray=cargs.map a.eval++cv.toArray:=by apply Array.ext';simp
 rw [←e1];refine hc.mono ?_;rintro e w' ⟨v,H',rfl,hb,h1,h2,h3⟩;obtain ⟨hS,hle⟩:=hT.st.sealed hb h1 h2;exact hn _ w' v hle hS (Zn2 (Zm2 _) _ _ h3)
theorem Zi7 {d:Option Nat} {g:Option (Nat×Bool)} {f:Nat} {o:X} {xs:List X} {l:List EOp} {caps args:List AV} {res:AV} (hg:gm S g) (U:S.x o = .clo f caps) (J:Zz6 c.P f args res)
  (h6:(c.P.funcs[f]?).any (fun fn=>fn.body.isSome&&!(fn.name == "runtime.NumGoroutine"))=true)
  (ha:AV.le.leL (Z71 S xs++caps) args:=by first | exact Zrb _ | simp [go_sem]) (hp:puL args=true:=by first | rfl | simp [go_sem]) (h:V c fn K (.ops l::k) (S.put d res)):V c fn K (.ops (⟨d,g,.callv o xs⟩::l)::k) S:=
 Z87 hg (Zh7 U J h6 ha hp) rfl h
theorem Zj7 {M:Mem} {n:Nat}:∀ {rows:List (List AV)} {vss:List (List Value)},AV.isLL M n rows vss→∀(j:Nat) row,rows[j]?=some row→
  ∃vs,vss[j]?=some vs∧vs.length=n∧AV.isL M row vs∧∀(m:Nat) v,vs[m]?=some v→vss.flatten[j*n+m]?=some v
 | [],_,_,j,row,h=>by simp at h
 | r::rows,_,⟨v,vs,hv,h0,h1,h2⟩,j,row,h=>by
   subst hv;cases j with
   | zero=>simp at h;subst h;refine ⟨v,by simp,h0,h1,fun m u hm=>?_⟩;simp only [List.flatten_cons,Nat.zero_mul,Nat.zero_add];rw [List.getElem?_append_left (List.getElem?_eq_some_iff.1 hm).1];exact hm
   | succ j=>obtain ⟨us,g1,g2,g3,g4⟩:=Zj7 h2 j row (by simpa using h);refine ⟨us,by simpa using g1,g2,g3,fun m u hm=>?_⟩;simp only [List.flatten_cons];rw [List.getElem?_append_right (by rw [h0,Nat.add_mul];omega),h0,show (j+1)*n+m-n=j*n+m from by rw [Nat.add_mul];omega];exact g4 m u hm
theorem Zk7 {P:Program} {w:World} {T e n:Nat} (hu:P.underlying T=some (.slice e)) (hs:Z9 P e=some n) {x i:Operand} {ρ:Operand→Value} {ad:Addr} {len cp:Nat} {j:Int}
  (hx:ρ x = .slice (some ad) len cp) (hi:ρ i = .int .i64 j) (h0:0≤j) (h1:j<len) (d:Option Tmp) (ty:TypeId) (pos:String) (af:Array Edge) (J:Option (Nat×Bool)):
  (execOp ρ ⟨d,.indexAddr T x i,ty,pos,af,J⟩).run P w = .ok (.value (.pointer (some (ad.add (j.toNat*n))))) w:=by
 simp [execOp,Instr.indexAt,asIntOf,hx,hi,run_underlying hu,Z74 hs,h0,h1]
theorem Zl7 {n m:Nat} {x i:X} {rows:List (List AV)} {j:Int} (row:List AV) (hx:S.x x = .sl m rows) (hi:S.x i = .iv j) (h9:m=n)
  (h0:0≤j) (hr:rows[j.toNat]?=some row):Z77 c S (.idx n x i) (.elt row 0) S:=by
 intro ro h6 M a w hT next Q hn
 obtain ⟨dst,op,ty,pos,af,gd⟩:=ro;dsimp only at h6;subst h9;obtain ⟨T,y,z,e,rfl,hu,hs,rfl,rfl⟩:=Zd7 h6;have h1:=Z34 hT y;have h2:=Z34 hT z;rw [hx] at h1;rw [hi] at h2;obtain ⟨ad,cp,g1,g2,g3⟩:=h1;have hc:=(List.getElem?_eq_some_iff.1 hr).1;obtain ⟨ad,vss,rfl,g4,g5⟩:=g3 (by intro e;subst e;simp at hc);obtain ⟨vs,q1,q2,q3,q4⟩:=Zj7 g4 _ row hr;have h8:=Zk7 (P:=c.P) (w:=w) hu hs g1 h2 h0 (by omega) dst ty pos af gd;unfold Oper.wp;rw [h8];refine hn M w _ (.refl M) hT.st ?_;obtain ⟨s1,s2,cs,T',fr,s3,s4⟩:=g5;have hd:ad.add (j.toNat*m)=⟨ad.block,ad.off+j.toNat*m,none⟩:=by obtain ⟨b,o,sp⟩:=ad;dsimp only at s1;subst s1;exact Addr.add_lit _ _ _
 refine ⟨⟨ad.block,ad.off+j.toNat*m,none⟩,vs,by rw [hd];rfl,q3,rfl,?_,cs,T',fr,s3,?_⟩
 ·intro v hv;obtain ⟨t,ht⟩:=List.mem_iff_getElem?.1 hv;exact s2 v (List.mem_iff_getElem?.2 ⟨_,q4 t v ht⟩)
 ·intro t v ht;have:=s4 _ v (q4 t v ht);dsimp only;rw [show ad.off+j.toNat*m+t=ad.off+(j.toNat*m+t) from by omega];exact this
theorem Zm7 {d:Option Nat} {g:Option (Nat×Bool)} {n m:Nat} {x i:X} {l:List EOp} {rows:List (List AV)} {j:Int} (row:List AV) (hg:gm S g) (hx:S.x x = .sl m rows) (hi:S.x i = .iv j) (h6:m=n)
  (h0:0≤j) (hr:rows[j.toNat]?=some row) (h:V c fn K (.ops l::k) (S.put d (.elt row 0))):V c fn K (.ops (⟨d,g,.idx n x i⟩::l)::k) S:=
 Z87 hg (Zl7 row hx hi h6 h0 hr) rfl h
end
end NX
end Go.Proofs.YtgamgemlekpepaaGreat
