/-
  The symbolic machine: what grows. No statement of the seat is proved here.
-/
import Derived.Test.YtjemlejoladlcaaGreatL6
namespace Go.Proofs.YtjemlejoladlcaaGreat
namespace NX
open Go Go.RowKit
def fc (w:World) (J:Nat) (u:Value) (m:Nat) (E:List Value):Prop:=E.length=m*J∧(u = .slice none 0 0∧m=0∨∃a c,u = .slice (some a) m c∧∀(j:Nat) x,E[j]?=some x→w.cell? (a.add j)=some x)
theorem fy {P:Program} {w:World} {t ty e:TypeId} {i:TypeInfo} {z:Value} (hu:P.underlying t=some (.slice e)) (hi:P.info? e=some i) (hz:i.zero=some z) (hw:z.cells.size=i.size) (h0:0<i.size)
  {v:Value} {len:Nat} {xs:List Value} (h6:w.ownsRow 0 e i.size v len xs) {u:Value} {m:Nat} {E:List Value} (hA:fc w i.size u m E) (h1:∀x∈E,x.oneCell'=true)
  (h9:len+m≤maxLen) (hb:(len+m)*i.bytes≤140737488355328):
  ∃v' w',(Builtin.append_ #[t,t] ty #[v,u]).run P w = .ok v' w'∧w'.ownsRow 0 e i.size v' (len+m) (xs++E)∧w.grownBy w' v.ownBlock∧(v'.ownBlock=v.ownBlock∨∀g,v'.ownBlock=some g→w.heap.size≤g):=by
 obtain ⟨hl,hs⟩:=hA;rcases hs with ⟨rfl,rfl⟩ | ⟨a,c,rfl,hc⟩
 ·have hn:E=[]:=List.length_eq_zero_iff.1 (by simpa using hl);subst hn;refine ⟨v,w,run_append_owned_none w 0 t ty e i i.size hu hi v len xs h6,by simpa using h6,⟨rfl,rfl,rfl,Nat.le_refl _,fun _ _ _=>rfl⟩,.inl rfl⟩
 ·obtain ⟨v',w',r1,r2,r3,_⟩:=run_append_own (P:=P) w 0 t ty e i z i.size i.bytes hu hi hz rfl rfl hw h0 v len xs h6 a m c E hl hc h1 h9 hb (Nat.zero_le _);refine ⟨v',w',r1,r2,r3,?_⟩;rcases h6.2 with ⟨rfl,rfl⟩ | ⟨g,cap,cur,rfl,hE,hg,hG,hI,hC,hD⟩
  ·obtain ⟨v2,w2,q1,q2,_,_⟩:=run_append_own (P:=P) w w.heap.size t ty e i z i.size i.bytes hu hi hz rfl rfl hw h0 (.slice none 0 0) 0 xs ⟨h6.1,.inl ⟨rfl,rfl⟩⟩ a m c E hl hc h1 h9 hb (Nat.le_refl _);rw [r1] at q1;simp only [Result.ok.injEq] at q1;obtain ⟨rfl,rfl⟩:=q1;right;intro g hg;exact (World.ownsRow.lt q2 g hg).1
  ·by_cases h8:len+m≤cap
   ·have hB:len*i.size+E.length≤cur.size:=by rw [hl,hC,←Nat.add_mul];exact Nat.mul_le_mul_right _ h8
    have hr:=run_append_room (P:=P) w t ty e i hu hi g len cap cur hg a m c E hl hc h1 h8 hB;rw [r1] at hr;simp only [Result.ok.injEq] at hr;obtain ⟨rfl,_⟩:=hr;exact .inl rfl
   ·have hd:∀j u,xs[j]?=some u→w.cell? ((⟨g,0,none⟩:Addr).add j)=some u:=h6.cells (g:=g) rfl;have hr:=run_append_grow (P:=P) w t ty e i z hu hi hz ⟨g,0,none⟩ len cap xs h6.1 hd a m c E hl hc Om (by simp only [maxLen] at h9;omega) (growslice_fits Om hb);rw [r1] at hr;simp only [Result.ok.injEq] at hr;obtain ⟨rfl,_⟩:=hr;right;intro g' hg';simp [Value.ownBlock] at hg';omega
theorem Jn {M:Mem} {n:Nat}:∀ {a b:List (List AV)} {x y:List (List Value)},AV.isLL M n a x→AV.isLL M n b y→AV.isLL M n (a++b) (x++y)
 | [],_,_,_,h,k=>by simp [AV.isLL] at h;subst h;simpa using k
 | _::_,_,_,_,⟨v,r,h0,h1,h2,h3⟩,k=>by subst h0;exact ⟨v,r++_,rfl,h1,h2,Jn h3 k⟩
theorem Dl {M:Mem} {n:Nat}:∀ {a:List (List AV)} {x:List (List Value)},AV.isLL M n a x→x.flatten.length=a.length*n
 | [],_,h=>by simp [AV.isLL] at h;subst h;simp
 | _::a,_,⟨v,r,h0,h1,h2,h3⟩=>by subst h0;have:=Dl h3;rw [List.flatten_cons,List.length_append,this,h1,List.length_cons,Nat.add_mul,Nat.one_mul,Nat.add_comm]
section
variable {c:Ctx} {M:Mem} {S S':St} {a:Act} {w:World} {fn:Func} {K:AV→List (Option Blk)→List (Option Sl)→Prop} {k:List It}
theorem nD (E:RelT c M S a w) {x:AV} {u:Value} (hx:x.is M u) {n:Nat} {rows:List (List AV)} (h:Gh S n x=some rows):
  ∃vss,AV.isLL M.sl n rows vss∧fc w n u rows.length vss.flatten∧∀v∈vss.flatten,v.oneCell'=true:=by
 unfold Gh at h;split at h
 ·simp at h;subst h;simp only [AV.is] at hx;subst hx;exact ⟨[],rfl,⟨by simp,.inl ⟨rfl,rfl⟩⟩,by simp⟩
 ·rename_i m rows';split at h<;>simp at h;rename_i hm;simp at hm;subst h;subst hm;obtain ⟨ad,cp,rfl,⟨h1,h2⟩,h3⟩:=hx;by_cases hne:rows'=[]
  ·subst hne;refine ⟨[],rfl,⟨by simp,?_⟩,by simp⟩;cases ad with
   | none=>left;rw [h2 rfl];exact ⟨rfl,rfl⟩
   | some ad=>right;exact ⟨ad,cp,rfl,by simp⟩
  ·obtain ⟨ad,vss,rfl,g1,g2⟩:=h3 hne;refine ⟨vss,EG (Lx M) _ _ _ g1,⟨Dl g1,.inr ⟨ad,cp,rfl,fun j x hj=>?_⟩⟩,g2.2.1⟩;have h6:=g2.1;have:=fT E.st g2 j x hj;obtain ⟨b,o,sp⟩:=ad;dsimp only at h6;subst h6;rw [Addr.add_lit];exact this
 ·rename_i j;split at h
  ·rename_i L hL;split at h<;>simp at h;rename_i hm;simp at hm;subst h;subst hm;obtain ⟨_,vss,g1,g2,g3,_⟩:=E.st.slc j L hL;refine ⟨vss,g1,⟨Dl g1,?_⟩,g2⟩;rw [hx.2];rcases g3.2 with ⟨e1,e2⟩ | ⟨g,cp,cur,e1,_⟩
   ·left;exact ⟨e1,e2⟩
   ·right;refine ⟨⟨g,0,none⟩,cp,e1,fun j x hj=>?_⟩;exact World.ownsRow.cells g3 (g:=g) (by rw [e1];rfl) j x hj
  ·simp at h
 ·simp at h
theorem ZM {P:Program} {w w':World} {t:TypeId} {p q:Operand} {ρ:Operand→Value} {v:Value} (d:Option Tmp) (ty:TypeId) (pos:String) (af:Array Edge) (E:Option (Nat×Bool))
  (h:(Builtin.append_ #[t,t] ty #[ρ p,ρ q]).run P w = .ok v w'):(execOp ρ ⟨d,.call ⟨.builtin .append, #[p,q], #[t,t]⟩,ty,pos,af,E⟩).run P w = .ok (.value v) w':=by
 simp [execOp,resolve,invoke,builtin,h]
theorem RelS.grown (h:RelS c M S.bs S.ss w) {w':World} {v v':Value} {L:Sl} {vss:List (List Value)} {ss:List (Option Sl)}
  (hA:ss.length=S.ss.length) (h6:∀j N,A2 ss j=some N→A2 S.ss j=some N∧∀g,v.ownBlock=some g→(M.σ j).ownBlock≠some g)
  (hv:v.ownBlock=none∨∀i B,A2 S.bs i=some B→v.ownBlock≠some (M.ρ i)) (hd:∀g,v.ownBlock=some g→Fl c g∧M.H g=none)
  (hg:w.grownBy w' v.ownBlock) (h9:v'.ownBlock=v.ownBlock∨∀g,v'.ownBlock=some g→w.heap.size≤g)
  (h0:0<L.n) (h1:AV.isLL M.sl L.n L.rows vss) (h2:∀x∈vss.flatten,x.oneCell'=true) (h3:w'.ownsRow 0 L.T L.n v' L.rows.length vss.flatten):
  RelS c (M.addS v') S.bs (ss++[some L]) w':=by
 have h8:∀k,k<w.heap.size→v.ownBlock≠some k→w'.heap[k]?=w.heap[k]?:=fun k hk hne=>hg.block k hk (fun e=>hne e.symm);have base:RelS c M S.bs ss w':=by
  refine ⟨h.nb,by rw [h.ns,hA],h.so,hg.os.trans h.os,hg.tape.trans h.tape,hg.output.trans h.output,Nat.le_trans h.size hg.size,?_,?_,h.hold,?_,?_,h.d1,?_,?_,h.pin⟩
  ·intro k hk hb;rw [h8 k (Nat.lt_of_lt_of_le hk h.size)]
   ·exact h.block k hk hb
   ·intro e;rcases (hd k e).1 with h | h
    ·omega
    ·exact hb h
  ·intro k o hk;rw [h8 k (Array.getElem?_eq_some_iff.1 (h.hle k o hk)).1]
   ·exact h.hle k o hk
   ·intro e;rw [(hd k e).2] at hk;simp at hk
  ·intro j B hj;obtain ⟨g1,g2,vs,g3,g4,g5⟩:=h.blk j B hj;refine ⟨g1,g2,vs,g3,?_,g5⟩;rw [h8 _ (h.blk_lt hj)]
   ·exact g4
   ·rcases hv with hv | hv
    ·rw [hv];simp
    ·exact hv j B hj
  ·intro j N hj;obtain ⟨hj,hne⟩:=h6 j N hj;obtain ⟨q0,us,q1,q2,q3,q4⟩:=h.slc j N hj;refine ⟨q0,us,q1,q2,World.ownsRow.kept q3 hg ?_,q4⟩;cases hB:v.ownBlock with
   | none=>
     cases ho:(M.σ j).ownBlock with
     | none=>exact .inl rfl
     | some g=>right;simp
   | some g=>right;exact hne g hB
  ·intro i j B N hi hj;exact h.d2 i j B N hi (h6 j N hj).1
  ·intro i j N O g hi hj e1 e2;exact h.d3 i j N O g (h6 i N hi).1 (h6 j O hj).1 e1 e2
 refine base.name L v' vss h0 h1 h2 h3 ?_ ?_ ?_
 ·intro g hw;rcases h9 with e | e
  ·exact hd g (by rw [←e];exact hw)
  ·exact ⟨.inl (Nat.le_trans h.size (e g hw)),h.Hnew (e g hw)⟩
 ·intro i B hi e;rcases h9 with e1 | e1
  ·rw [e1] at e;rcases hv with hv | hv
   ·rw [hv] at e;simp at e
   ·exact hv i B hi e
  ·have:=e1 _ e;have:=h.blk_lt hi;omega
 ·intro j N g hj e1 e2;obtain ⟨hj,hne⟩:=h6 j N hj;rcases h9 with e3 | e3
  ·exact hne g (by rw [←e3];exact e1) e2
  ·have:=e3 g e1;have:=h.slc_lt hj e2;omega
def St.app (S:St) (j:Nat) (L:Sl):St:=⟨S.tm,S.bs,Ar S.ss j none++[some L]⟩
def St.app0 (S:St) (L:Sl):St:=⟨S.tm,S.bs,S.ss++[some L]⟩
attribute [go_sem] St.app St.app0
theorem mW {e n b j:Nat} {x y:X} {L:Sl} {rows:List (List AV)} (hx:S.x x = .osl j) (hj:A2 S.ss j=some L) (E:L.T=e) (hn:L.n=n) (hy:Gh S n (S.x y)=some rows)
  (hb:(L.rows.length+rows.length)*b≤140737488355328) (hC:L.rows.length+rows.length≤9223372036854775807):Bi c S (.app e n b x y) (.osl (Aa S.ss)) (S.app j ⟨e,n,L.rows++rows⟩):=by
 intro ro h9 M a w h6 next Q hw
 obtain ⟨dst,op,ty,pos,af,gd⟩:=ro;dsimp only at h9;obtain ⟨t,p,q,i,z,rfl,hu,hi,hz,h8,hA,hB,hD,rfl,rfl⟩:=ZX h9;subst E;subst hn;have h1:=Ak h6 p;have h2:=Ak h6 q;rw [hx] at h1;obtain ⟨vss,g1,g2,g3⟩:=nD h6 h2 hy;have hS:=h6.st;obtain ⟨k0,us,k1,k2,k3,k4⟩:=hS.slc j L hj;have k3':=k3;rw [←h1.2] at k3';obtain ⟨v',w',r1,r2,r3,r4⟩:=fy (ty:=ty) hu hi hz (by rw [hB,h8]) Om (by rw [h8];exact k3') (by rw [h8];exact g2) g3 (by unfold maxLen;omega) (by rw [hA];exact hb);rw [h8] at r2;have hd:=ZM dst ty pos af gd r1;unfold Oper.wp;rw [hd];rw [h1.2] at r3 r4;have hr:RelS c (M.addS v') S.bs (Ar S.ss j none++[some (⟨L.T,L.n,L.rows++rows⟩:Sl)]) w':=by
  refine RelS.grown (v:=M.σ j) (vss:=us++vss) hS (Dd _ _ _) ?_ ?_ k4 r3 r4 k0 (Jn k1 g1) ?_ ?_
  ·intro i N hi;rw [Du] at hi;split at hi
   ·simp at hi
   ·rename_i e;refine ⟨hi,fun g hg e2=>e ⟨?_,Cu hj⟩⟩;exact hS.d3 i j N L g hi hj e2 hg
  ·right;intro i B hi;exact hS.d2 i j B L hi hj
  ·intro x hx;rw [List.flatten_append,List.mem_append] at hx;rcases hx with hx | hx
   ·exact k2 x hx
   ·exact g3 x hx
  ·rw [List.flatten_append,List.length_append];exact r2
 refine hw (M.addS v') w' v' (Mem.le_addS M v') hr ?_;rw [Bh,←hS.ns];exact ⟨Nat.lt_succ_self _,by simp [Mem.addS]⟩
theorem Z0E {e n b:Nat} {x y:X} {rows:List (List AV)} (hx:S.x x = .nl) (hy:Gh S n (S.x y)=some rows)
  (hb:rows.length*b≤140737488355328) (hD:rows.length≤9223372036854775807):Bi c S (.app e n b x y) (.osl (Aa S.ss)) (S.app0 ⟨e,n,rows⟩):=by
 intro ro h9 M a w h6 next Q hw
 obtain ⟨dst,op,ty,pos,af,gd⟩:=ro;dsimp only at h9;obtain ⟨t,p,q,i,z,rfl,hu,hi,hz,h8,hA,hB,hC,rfl,rfl⟩:=ZX h9;have h1:=Ak h6 p;have h2:=Ak h6 q;rw [hx] at h1;simp only [AV.is] at h1;obtain ⟨vss,g1,g2,g3⟩:=nD h6 h2 hy;have hS:=h6.st;obtain ⟨v',w',r1,r2,r3,r4⟩:=fy (w:=w) (ty:=ty) (v:=a.eval p) (len:=0) (xs:=[]) hu hi hz (by rw [hB,h8]) Om (by rw [h1];exact World.ownsRow_nil _ _ _ _) (by rw [h8];exact g2) g3 (by unfold maxLen;omega) (by rw [hA,Nat.zero_add];exact hb);rw [h8,Nat.zero_add,List.nil_append] at r2;have hd:=ZM dst ty pos af gd r1;unfold Oper.wp;rw [hd];rw [h1] at r3 r4;have hr:RelS c (M.addS v') S.bs (S.ss++[some (⟨e,n,rows⟩:Sl)]) w':=by
  refine RelS.grown (v:=.slice none 0 0) (vss:=vss) hS rfl ?_ (.inl rfl) ?_ r3 r4 hC g1 g3 r2
  ·intro i N hi;exact ⟨hi,fun g hg=>by simp [Value.ownBlock] at hg⟩
  ·intro g hg;simp [Value.ownBlock] at hg
 refine hw (M.addS v') w' v' (Mem.le_addS M v') hr ?_;rw [Bh,←hS.ns];exact ⟨Nat.lt_succ_self _,by simp [Mem.addS]⟩
theorem p9 {d:Option Nat} {g:Option (Nat×Bool)} {l:List EOp} {e n b j:Nat} {x y:X} {L:Sl} {rows:List (List AV)} (hg:gm S g) (hx:S.x x = .osl j) (hj:A2 S.ss j=some L) (E:L.T=e) (hn:L.n=n) (hy:Gh S n (S.x y)=some rows)
  (hb:(L.rows.length+rows.length)*b≤140737488355328) (h6:L.rows.length+rows.length≤9223372036854775807)
  (h:V c fn K (.ops l::k) ((S.app j ⟨e,n,L.rows++rows⟩).put d (.osl (Aa S.ss)))):V c fn K (.ops (⟨d,g,.app e n b x y⟩::l)::k) S:=
 AU hg (mW hx hj E hn hy hb h6) rfl h
theorem oz {all:Array Oper} {ops:List EOp} {af:List (List Nat)} {Φ:St→Prop} {m:Nat} {ld:List Bool} (h6:all.toList.mapM (AL c.P all)=some ops) {i e n b j:Nat} {x y:X} {L:Sl} {rows:List (List AV)} (ho:(A8 ops i).o = .app e n b x y) (hg:gm S (A8 ops i).g)
  (hx:S.x x = .osl j) (hj:A2 S.ss j=some L) (E:L.T=e) (hn:L.n=n) (hy:Gh S n (S.x y)=some rows)
  (hb:(L.rows.length+rows.length)*b≤140737488355328) (h8:L.rows.length+rows.length≤9223372036854775807)
  (h:G c all ops af Φ m (Au ld i) ((S.app j ⟨e,n,L.rows++rows⟩).put (A8 ops i).d (.osl (Aa S.ss)))):GO c all ops af Φ m ld S i:=
 Bk (S1:=S.app j ⟨e,n,L.rows++rows⟩) h6 hg (by rw [ho];exact mW hx hj E hn hy hb h8) rfl (by rw [ho];exact fun _ _ _ _ h _ _=>h) h
end
mutual
theorem lN {M M':Mem} {p q:Nat} (hM:M'.pure=M.pure) (hb:M'.nb=M.nb) (hs:M'.ns=M.ns) (hρ:∀i,M'.ρ i=M.ρ i) (hσ:∀i,i≠q→M'.σ i=M.σ i) (hq:M'.σ q=M.σ p) (hqn:q<M.ns) (hH:M'.H=M.H):
  ∀(x:AV) (v:Value),x.is M v→(AV.ren p q x).is M' v
 | .any,_,_=>trivial
 | .un,_,k=>k
 | .tt,_,k=>k
 | .ff,_,k=>k
 | .bv _,_,k=>k
 | .iv _,_,k=>k
 | .kv _ _,_,k=>k
 | .sv _,_,k=>k
 | .nl,_,k=>k
 | .nlp,_,k=>k
 | .fn _,_,k=>k
 | .ptr i o,_,k=>⟨by rw [hb];exact k.1,by rw [hρ i];exact k.2⟩
 | .osl i,v,k=>by
   simp only [AV.ren];split
   ·rename_i h;simp at h;subst h;exact ⟨by rw [hs];exact hqn,by rw [hq];exact k.2⟩
   ·split
    ·trivial
    ·rename_i h;simp at h;exact ⟨by rw [hs];exact k.1,by rw [hσ i h];exact k.2⟩
 | .oel i a b,v,k=>by
   simp only [AV.ren];split
   ·rename_i h;simp at h;subst h;exact ⟨by rw [hs];exact hqn,by rw [hq];exact k.2⟩
   ·split
    ·trivial
    ·rename_i h;simp at h;exact ⟨by rw [hs];exact k.1,by rw [hσ i h];exact k.2⟩
 | .ocs i a n b,v,k=>by
   simp only [AV.ren];split
   ·rename_i h;simp at h;subst h;exact ⟨by rw [hs];exact hqn,by rw [hq];exact k.2⟩
   ·split
    ·trivial
    ·rename_i h;simp at h;exact ⟨by rw [hs];exact k.1,by rw [hσ i h];exact k.2⟩
 | .elt row o,_,⟨a,vs,h1,h2,h3⟩=>⟨a,vs,h1,by rw [hM];exact h2,by rw [hH];exact h3⟩
 | .sl n rows,_,⟨a,c,h1,h2,h3⟩=>⟨a,c,h1,h2,fun hne=>let ⟨ad,vss,g1,g2,g3⟩:=h3 hne;⟨ad,vss,g1,by rw [hM];exact g2,by rw [hH];exact g3⟩⟩
 | .agg l,_,⟨vs,h1,h2⟩=>⟨vs,h1,Ua hM hb hs hρ hσ hq hqn hH l vs h2⟩
 | .tup l,_,⟨vs,h1,h2⟩=>⟨vs,h1,Ua hM hb hs hρ hσ hq hqn hH l vs h2⟩
 | .clo _ l,_,⟨vs,h1,h2⟩=>⟨vs,h1,Ua hM hb hs hρ hσ hq hqn hH l vs h2⟩
theorem Ua {M M':Mem} {p q:Nat} (hM:M'.pure=M.pure) (hb:M'.nb=M.nb) (hs:M'.ns=M.ns) (hρ:∀i,M'.ρ i=M.ρ i) (hσ:∀i,i≠q→M'.σ i=M.σ i) (hq:M'.σ q=M.σ p) (hqn:q<M.ns) (hH:M'.H=M.H):
  ∀(l:List AV) (vs:List Value),AV.isL M l vs→AV.isL M' (FE p q l) vs
 | [],_,k=>k
 | x::l,_,⟨v,vs,h1,h2,h3⟩=>⟨v,vs,h1,lN hM hb hs hρ hσ hq hqn hH x v h2,Ua hM hb hs hρ hσ hq hqn hH l vs h3⟩
end
theorem lK (p q:Nat):∀(l:List AV) (t:Nat),AJ (FE p q l) t=AV.ren p q (AJ l t)
 | [],_=>rfl
 | _::_,0=>rfl
 | _::l,t+1=>lK p q l t
theorem lL (p q:Nat):∀(l:List AV),(FE p q l).length=l.length
 | []=>rfl
 | _::l=>by simp [FE,lL p q l]
section
variable {c:Ctx} {S:St} {fn:Func} {K:AV→List (Option Blk)→List (Option Sl)→Prop} {k:List It}
theorem pK (p q:Nat) {L:Sl} (hp:A2 S.ss p=some L) (hq:AA (q+1) (Aa S.ss)=true) (hA:(p==q)=false) (h:V c fn K k (S.renS p q L)) (hqn:AA c.nq q=true:=by rfl) (hpr:C7 S.ss=true:=by first | rfl | simp [go_sem]):V c fn K k S:=by
 intro rk M a w hc hT;have hS:=hT.st;rw [D0,Bh] at hq;have hne:p≠q:=by simpa using hA
 have hd:=Cu hp
 let M':Mem:= {M with σ:=fun i=>if i=q then M.σ p else M.σ i}
 have hq':M'.σ q=M.σ p:=if_pos rfl;have hσ:∀i,i≠q→M'.σ i=M.σ i:=fun i hi=>if_neg hi;have hw:=lN (M:=M) (M':=M') (p:=p) (q:=q) rfl rfl rfl (fun _=>rfl) hσ hq' (by rw [hS.ns];omega) rfl;have h9:=Ua (M:=M) (M':=M') (p:=p) (q:=q) rfl rfl rfl (fun _=>rfl) hσ hq' (by rw [hS.ns];omega) rfl;have live:∀i N,A2 (Ar (Ar S.ss p none) q (some L)) i=some N→(i=q∧N=L)∨(i≠q∧i≠p∧A2 S.ss i=some N):=by
  intro i N hi;rw [Du,Du,Dd] at hi;split at hi
  ·rename_i e;left;exact ⟨e.1,by simpa using hi.symm⟩
  ·rename_i e;split at hi
   ·simp at hi
   ·rename_i e2;right;exact ⟨fun x=>e ⟨x,Om⟩,fun x=>e2 ⟨x,hd⟩,hi⟩
 have back:∀i N,A2 (Ar (Ar S.ss p none) q (some L)) i=some N→∃i',A2 S.ss i'=some N∧M'.σ i=M.σ i'∧(i=q→i'=p)∧(i≠q→i'=i∧i≠p):=by
  intro i N hi;rcases live i N hi with ⟨rfl,rfl⟩ | ⟨h1,h2,h3⟩
  ·exact ⟨p,hp,hq',fun _=>rfl,fun h=>absurd rfl h⟩
  ·exact ⟨i,h3,hσ i h1,fun h=>absurd h h1,fun _=>⟨rfl,h2⟩⟩
 refine h rk M' a w hc ⟨by simp only [St.renS,lL];exact hT.len,fun t=>?_,hT.df,?_⟩
 ·simp only [St.renS,lK];exact hw _ _ (hT.tm t)
 refine ⟨by simp only [St.renS,IH];exact hS.nb,by simp only [St.renS,Dd];exact hS.ns,?_,hS.os,hS.tape,hS.output,hS.size,hS.block,hS.hle,hS.hold,?_,?_,?_,?_,?_,⟨hS.pin.nb,hS.pin.ρ,hS.pin.ns,fun j hj=>by rw [hσ j (by rw [D0] at hqn;omega)];exact hS.pin.σ j hj,hS.pin.gl⟩⟩
 ·intro i hi;by_cases e:i=q
  ·rw [e,hq'];exact hS.so p (by rw [hS.ns];exact hd)
  ·rw [hσ i e];exact hS.so i hi
 ·intro i B hi;obtain ⟨C,hC,rfl⟩:=Fa _ _ _ _ hi;obtain ⟨g1,g2,vs,g3,g4,g5⟩:=hS.blk i C hC;exact ⟨g1,g2,vs,h9 _ _ g3,g4,g5⟩
 ·intro i N hi;obtain ⟨i',h1,h2,_⟩:=back i N hi;rw [h2];obtain ⟨q0,us,q1,q2,q3,q4⟩:=hS.slc i' N h1;exact ⟨q0,us,EG (Lx M') _ _ _ (YN (M:=M) _ _ q1 (dj hpr h1)),q2,q3,q4⟩
 ·intro i t B C hi ht e;obtain ⟨B',hB,_⟩:=Fa _ _ _ _ hi;obtain ⟨C',hC,_⟩:=Fa _ _ _ _ ht;exact hS.d1 i t B' C' hB hC e
 ·intro i t B N hi ht;obtain ⟨B',hB,_⟩:=Fa _ _ _ _ hi;obtain ⟨t',h1,h2,_⟩:=back t N ht;rw [h2];exact hS.d2 i t' B' N hB h1
 ·intro i t N O g hi ht e1 e2;obtain ⟨i',h1,h2,h3,h4⟩:=back i N hi;obtain ⟨t',k1,k2,k3,k4⟩:=back t O ht;rw [h2] at e1;rw [k2] at e2;have e:=hS.d3 i' t' N O g h1 k1 e1 e2;by_cases h6:i=q<;>by_cases h8:t=q
  ·rw [h6,h8]
  ·have:=h3 h6;have:=(k4 h8).1;have:=(k4 h8).2;omega
  ·have:=k3 h8;have:=(h4 h6).1;have:=(h4 h6).2;omega
  ·have:=(h4 h6).1;have:=(k4 h8).1;omega
theorem CV (t T n:Nat) (ht:AJ S.tm t = .nl) (hn:AA 1 n=true) (h:V c fn K k ⟨BL S.tm t (.osl (Aa S.ss)),S.bs,S.ss++[some ⟨T,n,[]⟩]⟩):V c fn K k S:=by
 intro rk M a w hc hT;have hS:=hT.st;rw [D0] at hn;have hr:=hS.name ⟨T,n,[]⟩ (.slice none 0 0) [] hn rfl (by simp) (World.ownsRow_nil w 0 T n) (fun g hg=>by simp [Value.ownBlock] at hg) (fun i B _=>by simp [Value.ownBlock]) (fun j N g _ hg=>by simp [Value.ownBlock] at hg);have hle:=Mem.le_addS M (.slice none 0 0);refine h rk _ a w hc ⟨by rw [I8];exact hT.len,fun u=>?_,hT.df,hr⟩;rw [F6];split
 ·rename_i e;have:=hT.tm t;rw [ht] at this;rw [e.1,Bh,←hS.ns];refine ⟨Nat.lt_succ_self _,?_⟩;simp only [Mem.addS,if_true];exact this
 ·exact Dm hle _ _ (hT.tm u)
theorem pH (j o T n:Nat) {B:Blk} (hj:A2 S.bs j=some B) (ho:AJ B.cells o = .nl) (hn:AA 1 n=true) (h:V c fn K k ⟨S.tm,Ar S.bs j (some ⟨B.T,BL B.cells o (.osl (Aa S.ss))⟩),S.ss++[some ⟨T,n,[]⟩]⟩):V c fn K k S:=by
 intro rk M a w hc hT;have hS:=hT.st;rw [D0] at hn;have hr:=hS.name ⟨T,n,[]⟩ (.slice none 0 0) [] hn rfl (by simp) (World.ownsRow_nil w 0 T n) (fun g hg=>by simp [Value.ownBlock] at hg) (fun i B _=>by simp [Value.ownBlock]) (fun j N g _ hg=>by simp [Value.ownBlock] at hg);have hle:=Mem.le_addS M (.slice none 0 0);obtain ⟨m1,m2,vs,m3,m4,m5⟩:=hr.blk j B hj;have h6:AV.isL (M.addS (.slice none 0 0)) (BL B.cells o (.osl (Aa S.ss))) vs:=by
  have hl:=D5 m3;refine aR (by rw [I8];exact hl.symm) fun i x v hx hv=>?_;have hlt:i<B.cells.length:=by rw [←hl];exact (List.getElem?_eq_some_iff.1 hv).1
  have gl:∀(l:List AV) (i:Nat) (x:AV),l[i]?=some x→AJ l i=x:=by
   intro l;induction l with
   | nil=>intro i x h;simp at h
   | cons y l ih=>intro i x h;cases i with
     | zero=>simpa [AJ] using h
     | succ i=>exact ih i x (by simpa using h)
  have e1:=gl _ _ _ hx;rw [F6] at e1;split at e1
  ·rename_i e;obtain ⟨rfl,_⟩:=e;subst e1;have h8:B.cells[i]?=some (.nl):=by rw [List.getElem?_eq_getElem hlt];have:=gl _ _ _ (List.getElem?_eq_getElem hlt);rw [←this,ho]
   have:=aQ m3 i .nl v h8 hv;rw [Bh,←hS.ns];refine ⟨Nat.lt_succ_self _,?_⟩;simp only [Mem.addS,if_true];exact this
  ·have:=PX m3 i hlt;rw [e1] at this;rw [List.getD_eq_getElem?_getD,hv] at this;exact this
 have hlt:=Cu hj;refine h rk _ a w hc ⟨hT.len,fun u=>Dm hle _ _ (hT.tm u),hT.df,?_⟩;have old:∀i C,A2 (Ar S.bs j (some (⟨B.T,BL B.cells o (.osl (Aa S.ss))⟩:Blk))) i=some C→(i=j∧C=⟨B.T,BL B.cells o (.osl (Aa S.ss))⟩)∨(i≠j∧A2 S.bs i=some C):=by
  intro i C hi;rw [Du] at hi;split at hi
  ·rename_i e;left;exact ⟨e.1,by simpa using hi.symm⟩
  ·rename_i e;right;exact ⟨fun x=>e ⟨x,hlt⟩,hi⟩
 have live:∀i C,A2 (Ar S.bs j (some (⟨B.T,BL B.cells o (.osl (Aa S.ss))⟩:Blk))) i=some C→∃D,A2 S.bs i=some D:=by
  intro i C hi;rcases old i C hi with ⟨rfl,_⟩ | ⟨_,h⟩
  ·exact ⟨B,hj⟩
  ·exact ⟨_,h⟩
 refine ⟨by rw [Dd];exact hr.nb,hr.ns,hr.so,hr.os,hr.tape,hr.output,hr.size,hr.block,hr.hle,hr.hold,?_,hr.slc,?_,?_,hr.d3,hr.pin⟩
 ·intro i C hi;rcases old i C hi with ⟨rfl,rfl⟩ | ⟨_,h⟩
  ·exact ⟨m1,m2,vs,h6,m4,m5⟩
  ·exact hr.blk i C h
 ·intro i t C D hi ht e;obtain ⟨C',hC⟩:=live i C hi;obtain ⟨D',hD⟩:=live t D ht;exact hr.d1 i t C' D' hC hD e
 ·intro i t C N hi ht;obtain ⟨C',hC⟩:=live i C hi;exact hr.d2 i t C' N hC ht
end
end NX
end Go.Proofs.YtjemlejoladlcaaGreat
/-
  The symbolic machine: a slice that is built and sealed at once. No statement of the seat is proved here.
-/
namespace Go.Proofs.YtjemlejoladlcaaGreat
namespace NX
open Go Go.RowKit
section
variable {c:Ctx} {S:St}
mutual
theorem Z1d (j:Nat) (r:AV):∀(x:AV),x.pu=true→AV.subO j r x=x:=by
 intro x h;cases x<;>simp_all [AV.pu,AV.subO]
 all_goals exact Um j r _ h
theorem Um (j:Nat) (r:AV):∀(l:List AV),AD l=true→CL j r l=l
 | [],_=>rfl
 | x::l,h=>by simp only [AD] at h;cases hx:x.pu<;>simp [hx,BS] at h;simp [CL,Z1d j r x hx,Um j r l h]
end
theorem Z0H {T n len:Nat} {z:List AV} {ps:List (Nat×X)} {S1:St} {j:Nat} {L:Sl} {q:Prop} (he:ev S (.bsl T n len z ps)=some (.osl j,S1,q)) (hq:q) (hj:A2 S1.ss j=some L) (hpr:C1 L.rows=true):
  Bi c S (.bsl T n len z ps) (.sl L.n L.rows) ⟨S.tm,Cn (CL j (.sl L.n L.rows)) S1.bs,Ar S1.ss j none⟩:=by
 intro ro h6 M a w hT next Q hn
 refine Z7 he hq ro h6 M a w hT next Q fun M' w' x h1 h2 h3=>?_
 obtain ⟨M2,k1,k2,k3⟩:=Z2 (S:=⟨[],S1.bs,S1.ss⟩) (a:=a) j hj hpr ⟨by simp,fun t=>by cases t<;>trivial,hT.df,h2⟩;refine hn M2 w' x (h1.trans k1) k2.st ?_;simp only [AV.is] at h3;rw [h3.2];exact k3
theorem cJ (f:List AV→List AV):∀(l:List (Option Blk)) (j:Nat),A2 (Cn f l) j=(A2 l j).map fun B=>⟨B.T,f B.cells⟩
 | [],j=>by simp [Cn,A2]
 | none::l,0=>by simp [Cn,A2]
 | some C::l,0=>by simp [Cn,A2]
 | none::l,j+1=>by simpa [Cn,A2] using cJ f l j
 | some _::l,j+1=>by simpa [Cn,A2] using cJ f l j
theorem jC (j:Nat) (r:AV):∀(n:Nat) (l s:List AV),Fz n l=some s→Fz n (CL j r l)=some (CL j r s)
 | 0,l,s,h=>by simp [Fz] at h ⊢;subst h;rfl
 | n+1,[],s,h=>by simp [Fz] at h
 | n+1,x::l,s,h=>by simp only [Fz,Option.map_eq_some_iff] at h;obtain ⟨t,ht,rfl⟩:=h;simp [CL,Fz,jC j r n l t ht]
theorem jc (j:Nat) (r:AV):∀(n:Nat) (l s:List AV),G1 n l=some s→G1 n (CL j r l)=some (CL j r s)
 | 0,l,s,h=>by simp [G1] at h ⊢;subst h;rfl
 | n+1,[],s,h=>by simp [G1] at h
 | n+1,x::l,s,h=>by simp only [G1] at h;simp [CL,G1,jc j r n l s h]
theorem wX (j:Nat) (r:AV) {l s:List AV} {o n:Nat} (h:Dr l o n=some s):Dr (CL j r l) o n=some (CL j r s):=by
 unfold Dr at h ⊢;split at h
 ·rename_i t ht;rw [jc j r o l t ht];exact jC j r n t s h
 ·simp at h
theorem wh {T n len:Nat} {z:List AV} {ps:List (Nat×X)} (j:Nat) (r:AV) (ss:List (Option Sl)):keeps S ⟨S.tm,Cn (CL j r) S.bs,ss⟩ (.bsl T n len z ps):=by
 intro i off m l h1 h2 _;simp only [D3] at h1 ⊢;rw [cJ];split at h1
 ·rename_i B hB;rw [hB];have:=wX j r h1;rw [Um j r l h2] at this;exact this
 ·simp at h1
section
variable {all:Array Oper} {ops:List EOp} {af:List (List Nat)} {Φ:St→Prop} {m:Nat} {ld:List Bool}
theorem FR (h6:all.toList.mapM (AL c.P all)=some ops) {i T n len:Nat} {z:List AV} {ps:List (Nat×X)} {L:Sl} {q:Prop} (ho:(A8 ops i).o = .bsl T n len z ps) (hg:gm S (A8 ops i).g)
  (he:ev S (.bsl T n len z ps)=some (.osl (Aa S.ss),⟨S.tm,S.bs,S.ss++[some L]⟩,q)) (hq:q) (h:G c all ops af Φ m (Au ld i) (St.put ⟨S.tm,Cn (CL (Aa S.ss) (.sl L.n L.rows)) S.bs,S.ss++[none]⟩ (A8 ops i).d (.sl L.n L.rows))) (hpr:C1 L.rows=true:=by first | rfl | simp [go_sem]):GO c all ops af Φ m ld S i:=by
 have hj:A2 (S.ss++[some L]) (Aa S.ss)=some L:=by rw [Bh,OK,if_pos rfl]
 have hp:Ar (S.ss++[some L]) (Aa S.ss) none=S.ss++[none]:=by
  rw [Bh];generalize S.ss=l;induction l with
  | nil=>rfl
  | cons x l ih=>simp [Ar,ih]
 have hs:=Z0H (c:=c) he hq hj hpr;dsimp only at hs;rw [hp] at hs;exact Bk (S1:=⟨S.tm,Cn (CL (Aa S.ss) (.sl L.n L.rows)) S.bs,S.ss++[none]⟩) h6 hg (by rw [ho];exact hs) rfl (by rw [ho];exact wh _ _ _) h
end
end
end NX
end Go.Proofs.YtjemlejoladlcaaGreat
/-
  The symbolic machine: all of it. No statement of the seat is proved here.
-/
namespace Go.Proofs.YtjemlejoladlcaaGreat
namespace NX
attribute [go_sem] St.init D6 run Dk Gm Jf ev St.x St.put AJ BL AV.cells Aa Cs AV.one D3 A2 Ar Dr tf Gu Kn UV PV Gk GJ Fz G1 F7 BM Px EZ Py HK Hx Vf Ph BS AA Fr B8 II G8 IK Q6 Q1 Kj Hk AV.pu AD ET AV.ok Cp K2 C4 K3 C1 C7 St.ok HD DD AV.subO CL AV.subB FI Cn St.sealS St.sealB AV.ren FE St.renS Gh AV.le.leL Vo I5 I6 St.le List.cons_append List.nil_append Option.map gm Ji Zn Kr Cm I0 rd F3 Jo OX ED GY DJ CO Au HR Bz EH Co A8 Ko
def Ks:Option AV→AV→Prop
 | some x,y=>x.le y
 | none,_=>False
attribute [go_sem] Ks
theorem pm {P:Program} {w0:World} {H0:Frag} {f:Nat} {fn:Func} {body:EC} {rs:List ERes} {np nt:Nat} {k:List It} {S:St} {res:AV} (ok:FnOK P f fn body rs np nt)
  (h:Ks (DD S rs) res):V (Ctx.of P w0 H0) fn (fun x _ _=>x.le res) (.code .ret::k) S:=by
 cases hx:DD S rs with
 | none=>rw [hx] at h;exact h.elim
 | some x=>rw [hx] at h;exact ZD ok.r hx h
theorem pV {P:Program} {w0:World} {H0:Frag} {f:Nat} {fn:Func} {body:EC} {rs:List ERes} {np nt:Nat} {S:St} {res:AV} (ok:FnOK P f fn body rs np nt)
  (h:Ks (DD S rs) res):V (Ctx.of P w0 H0) fn (fun x _ _=>x.le res) [] S:=by
 cases hx:DD S rs with
 | none=>rw [hx] at h;exact h.elim
 | some x=>rw [hx] at h;exact po ok.r hx h
mutual
theorem yn {nb ns:Nat}:∀x:AV,x.pu=true→x.ok nb ns=true
 | .any,_ | .un,_ | .tt,_ | .ff,_ | .bv _,_ | .iv _,_ | .kv _ _,_ | .sv _,_ | .nl,_ | .nlp,_ | .fn _,_ | .elt _ _,_ | .sl _ _,_=>rfl
 | .ptr _ _,h | .osl _,h | .oel _ _ _,h | .ocs _ _ _ _,h=>by simp [AV.pu] at h
 | .agg l,h=>Ax l h
 | .tup l,h=>Ax l h
 | .clo _ l,h=>Ax l h
theorem Ax {nb ns:Nat}:∀l:List AV,AD l=true→Cp nb ns l=true
 | [],_=>rfl
 | x::l,h=>by simp only [AD,AO] at h;simp only [Cp,AO];exact ⟨yn x h.1,Ax l h.2⟩
end
mutual
theorem le_refl:∀x:AV,x.le x
 | .any | .un | .tt | .ff | .bv _ | .iv _ | .kv _ _ | .sv _ | .nl | .nlp | .fn _ | .ptr _ _ | .osl _ | .oel _ _ _ | .ocs _ _ _ _=>by simp [AV.le]
 | .elt row _=>⟨Am row,rfl⟩
 | .sl _ _=>⟨rfl,rfl,fun _ _ h=>h⟩
 | .agg l=>Am l
 | .tup l=>Am l
 | .clo _ l=>⟨rfl,Am l⟩
theorem Am:∀l:List AV,AV.le.leL l l
 | []=>trivial
 | x::l=>⟨le_refl x,Am l⟩
end
theorem wE (x:AV):x.le .any=True:=by simp [AV.le]
theorem wN (x:AV):x.le x=True:=by simp [le_refl]
theorem wB (l:List AV):AV.le.leL l l=True:=by simp [Am]
theorem wL (a b:Int):AV.le (.iv a) (.iv b)=(a=b):=by simp [AV.le]
theorem wF (a b:Bool):AV.le (.bv a) (.bv b)=(a=b):=by simp [AV.le]
theorem wP (b:Bool):AV.le .tt (.bv b)=(b=true):=by simp [AV.le]
theorem wK (b:Bool):AV.le .ff (.bv b)=(b=false):=by simp [AV.le]
theorem wH (b:Bool):AV.le (.bv b) .tt=(b=true):=by simp [AV.le]
theorem wG (b:Bool):AV.le (.bv b) .ff=(b=false):=by simp [AV.le]
theorem wM (n:Nat) (d:List (List AV)):AV.le .nl (.sl n d)=(d=[]):=by simp [AV.le]
theorem wO (n m:Nat) (d e:List (List AV)):AV.le (.sl n d) (.sl m e)=(n=m∧Kt n d e):=by simp [AV.le]
theorem wD (a b:List AV):AV.le (.agg a) (.agg b)=AV.le.leL a b:=by simp [AV.le]
theorem wQ (a b:List AV):AV.le (.tup a) (.tup b)=AV.le.leL a b:=by simp [AV.le]
theorem wJ (a b:List AV) (i j:Nat):AV.le (.elt a i) (.elt b j)=(AV.le.leL a b∧i=j):=by simp [AV.le]
theorem wI (a b:List AV) (i j:Nat):AV.le (.clo i a) (.clo j b)=(i=j∧AV.le.leL a b):=by simp [AV.le]
theorem wC (n:Nat) (d:List (List AV)):Kt n d d=True:=by simp [Kt]
attribute [go_sem] wE wN wB wL wF wP wK wH wG wM wO wD wQ wJ wI wC
end NX
end Go.Proofs.YtjemlejoladlcaaGreat
namespace Go.Proofs.YtjemlejoladlcaaGreat
namespace NX
open Go Go.RowKit
def A0 {α:Type} (e:Bool) (a b:Option α):Option α:=match e with | true=>a | false=>b
def A4 {α:Type} (l:List α) (i:Int):Option α:=if 0≤i then l[i.toNat]? else none
def AI {α:Type} (bytes:Nat) (l m:List α):Option (List α):=if (l.length+m.length)*bytes≤140737488355328∧l.length+m.length≤9223372036854775807 then some (l++m) else none
def Cj {α:Type} (l:List α) (lo hi:Int):Option (List α):=if 0≤lo∧lo≤hi∧hi≤l.length then some ((l.take hi.toNat).drop lo.toNat) else none
def Dq {σ β:Type} (body:σ→Option (σ ⊕ β)):Nat→σ→Option β
 | 0,_=>none
 | n+1,s=>match body s with
   | none=>none
   | some (.inl s')=>Dq body n s'
   | some (.inr r)=>some r
theorem bD {σ β:Type} {body:σ→Option (σ ⊕ β)}:∀ {n:Nat} {s:σ} {r:β},Dq body n s=some r→∀m,n≤m→Dq body m s=some r
 | 0,_,_,h,_,_=>by simp [Dq] at h
 | n+1,s,r,h,m,hm=>by
   obtain ⟨m,rfl⟩:∃k,m=k+1:=⟨m-1,Om⟩
   simp only [Dq] at h ⊢;split at h<;>simp_all;exact bD h m Om
open Classical in
noncomputable def loop {σ β:Type} (body:σ→Option (σ ⊕ β)) (s:σ):Option β:=if h:∃r n,Dq body n s=some r then some h.choose else none
theorem Vr {σ β:Type} {body:σ→Option (σ ⊕ β)} {s:σ} {r:β}:loop body s=some r↔∃n,Dq body n s=some r:=by
 unfold loop;constructor
 ·intro h;split at h
  ·rename_i hx;simp at h;subst h;exact hx.choose_spec
  ·simp at h
 ·rintro ⟨n,h⟩;have hx:∃r n,Dq body n s=some r:=⟨r,n,h⟩
  rw [dif_pos hx];obtain ⟨m,hm⟩:=hx.choose_spec;have h1:=bD h (max n m) (Nat.le_max_left _ _);have h2:=bD hm (max n m) (Nat.le_max_right _ _);rw [h1] at h2;exact h2.symm
theorem B5 {σ β:Type} (body:σ→Option (σ ⊕ β)) (s:σ):loop body s=match body s with | none=>none | some (.inl s')=>loop body s' | some (.inr r)=>some r:=by
 apply Option.ext;intro r;rw [Vr];cases hb:body s with
 | none=>
   constructor
   ·rintro ⟨n,h⟩;cases n<;>simp [Dq,hb] at h
   ·intro h;simp at h
 | some y=>
   cases y with
   | inl s'=>
     dsimp only;rw [Vr];constructor
     ·rintro ⟨n,h⟩;cases n with
      | zero=>simp [Dq] at h
      | succ n=>exact ⟨n,by simpa [Dq,hb] using h⟩
     ·rintro ⟨n,h⟩;exact ⟨n+1,by simpa [Dq,hb] using h⟩
   | inr r'=>
     constructor
     ·rintro ⟨n,h⟩;cases n with
      | zero=>simp [Dq] at h
      | succ n=>simpa [Dq,hb] using h
     ·intro h;exact ⟨1,by simpa [Dq,hb] using h⟩
structure ole {α:Type} (a b:Option α):Prop where
 h:∀r,a=some r→b=some r
theorem BY {α β:Type} {m:Option β} {y:α ⊕ β} {r:β} (h:m.map Sum.inr=some y) (ho:∀r',y = .inr r'→r'=r):m=some r:=by
 cases m with
 | none=>simp at h
 | some v=>simp at h;rw [ho v h.symm]
section
variable {c:Ctx} {fn:Func} {K:AV→List (Option Blk)→List (Option Sl)→Prop} {k:List It} {S:St} {α β σ:Type} {b:Nat}
theorem Zy {b:EC} {body:σ→Option (σ ⊕ β)} {s0:σ} {r:β} (h:loop body s0=some r) (Sx:σ→St) (h0:S.le (Sx s0)) (hok:∀s,(Sx s).ok=true)
  (hb:∀n s y,body s=some y→(∀s',y = .inl s'→V c fn K (.lp b n::k) (Sx s'))→(∀r',y = .inr r'→r'=r)→V c fn K (.code b :: .lp b n::k) (Sx s)) (h6:AA c.np (Aa (Sx s0).bs)=true:=by rfl) (hqn:AA c.nq (Aa (Sx s0).ss)=true:=by rfl):V c fn K (.code (.loop b)::k) S:=by
 obtain ⟨n,hn⟩:=Vr.1 h;refine fh (X:=Nat×σ) (fun x=>Dq body x.1 x.2=some r) (fun x=>Sx x.2) (fun x=>x.1) (n,s0) h0 (hok _) h6 hqn hn ?_;rintro m ⟨n,s⟩ hx ih;cases n with
 | zero=>simp [Dq] at hx
 | succ n=>
   simp only [Dq] at hx;cases hy:body s with
   | none=>simp [hy] at hx
   | some y=>
     refine hb m s y hy ?_ ?_
     ·rintro s' rfl;rw [hy] at hx;exact ih (n,s') hx (Nat.lt_succ_self _)
     ·rintro r' rfl;rw [hy] at hx;simpa using hx
theorem oS {o:X} {a b:EC} {e:Bool} {A B:Option β} {r:β} (h:A0 e A B=some r) (hx:S.x o = .bv e) (h1:e=true→A=some r→V c fn K (.code a::k) S) (h2:e=false→B=some r→V c fn K (.code b::k) S):V c fn K (.code (.ite o a b)::k) S:=Ex hx (fun e1=>h1 e1 (by subst e1;exact h)) (fun e1=>h2 e1 (by subst e1;exact h))
theorem EA {l:List α} {i:Int} {v:α} (h:A4 l i=some v):0≤i∧l[i.toNat]?=some v:=by
 unfold A4 at h;split at h
 ·exact ⟨by assumption,h⟩
 ·simp at h
theorem IP {f:α→List AV} {l:List α} {n:Nat} {v:α} (h:l[n]?=some v):(l.map f)[n]?=some (f v):=by rw [List.getElem?_map,h];rfl
theorem AZ {l':List α} {i:Int} {v:α} {d:Option Nat} {g:Option (Nat×Bool)} {n m:Nat} {x y:X} {l:List EOp} (f:α→List AV) (hv:A4 l' i=some v) (hg:gm S g) (hx:S.x x = .sl m (l'.map f)) (hi:S.x y = .iv i) (h6:m=n)
  (h':V c fn K (.ops l::k) (S.put d (.elt (f v) 0))):V c fn K (.ops (⟨d,g,.idx n x y⟩::l)::k) S:=by
 obtain ⟨h0,hr⟩:=EA hv;exact pz (f v) hg hx hi h6 h0 (IP hr) h'
theorem Gj {all:Array Oper} {ops:List EOp} {af:List (List Nat)} {Φ:St→Prop} {m:Nat} {ld:List Bool} {nap:List (List Nat)} (h6:all.toList.mapM (AL c.P all)=some ops) (h8:Region.noSelect all=true) (hd:af=Bn all) (h9:nap=CX all) (i:Nat) {l':List α} {j:Int} {v:α} {n k:Nat} {x y:X} (f:α→List AV) (hv:A4 l' j=some v)
  (hi:EH i (Bz ld af 0)=true) (ho:(A8 ops i).o = .idx n x y) (hg:gm S (A8 ops i).g) (hx:S.x x = .sl k (l'.map f)) (hy:S.x y = .iv j) (hw:k=n)
  (hf:ED ld af i (Co nap i)=true) (h:G c all ops af Φ m (Au ld i) (S.put (A8 ops i).d (.elt (f v) 0))):G c all ops af Φ (m+1) ld S:=by
 obtain ⟨h0,hr⟩:=EA hv;exact oO h6 h8 hd h9 i (f v) hi ho hg hx hy hw h0 (IP hr) hf h
theorem p8 {xs:List α} {j:Int} {v:α} {d:Option Nat} {g:Option (Nat×Bool)} {n:Nat} {x i:X} {E:List EOp} (f:α→AV) (hv:A4 xs j=some v) (hg:gm S g) (hx:S.x x = .agg (xs.map f)) (hi:S.x i = .iv j) (hl:xs.length=n)
  (h:V c fn K (.ops E::k) (S.put d (f v))):V c fn K (.ops (⟨d,g,.ai n x i⟩::E)::k) S:=by
 obtain ⟨h0,hr⟩:=EA hv;exact AU hg (Z0D hx hi (by simpa using hl) h0 (by rw [List.getElem?_map,hr];rfl)) rfl h
theorem ZN {b:Nat} {l m v:List α} (h:AI b l m=some v):v=l++m∧(l.length+m.length)*b≤140737488355328∧l.length+m.length≤9223372036854775807:=by
 unfold AI at h;split at h
 ·rename_i h1;simp at h;exact ⟨h.symm,h1⟩
 ·simp at h
theorem BP {l' m' v:List α} {d:Option Nat} {g:Option (Nat×Bool)} {l:List EOp} {e n b j:Nat} {x y:X} (f:α→List AV) (hv:AI b l' m'=some v) (hg:gm S g) (hx:S.x x = .osl j) (hj:A2 S.ss j=some ⟨e,n,l'.map f⟩) (hy:Gh S n (S.x y)=some (m'.map f))
  (h':V c fn K (.ops l::k) ((S.app j ⟨e,n,v.map f⟩).put d (.osl (Aa S.ss)))):V c fn K (.ops (⟨d,g,.app e n b x y⟩::l)::k) S:=by
 obtain ⟨h0,h1,h2⟩:=ZN hv;subst h0;rw [List.map_append] at h';exact p9 hg hx hj rfl rfl hy (by simpa using h1) (by simpa using h2) h'
theorem oA {all:Array Oper} {ops:List EOp} {af:List (List Nat)} {Φ:St→Prop} {m:Nat} {ld:List Bool} {l' m' v:List α} (f:α→List AV) (hv:AI b l' m'=some v) (h6:all.toList.mapM (AL c.P all)=some ops) {i e n j:Nat} {x y:X} (ho:(A8 ops i).o = .app e n b x y) (hg:gm S (A8 ops i).g)
  (hx:S.x x = .osl j) (hj:A2 S.ss j=some ⟨e,n,l'.map f⟩) (hy:Gh S n (S.x y)=some (m'.map f))
  (h:G c all ops af Φ m (Au ld i) ((S.app j ⟨e,n,v.map f⟩).put (A8 ops i).d (.osl (Aa S.ss)))):GO c all ops af Φ m ld S i:=by
 obtain ⟨h0,h1,h2⟩:=ZN hv;subst h0;rw [List.map_append] at h;exact oz h6 ho hg hx hj rfl rfl hy (by simpa using h1) (by simpa using h2) h
theorem Uu {all:Array Oper} {ops:List EOp} {af:List (List Nat)} {Φ:St→Prop} {m:Nat} {ld:List Bool} {m' v:List α} (f:α→List AV) (hv:AI b [] m'=some v) (h6:all.toList.mapM (AL c.P all)=some ops) {i e n:Nat} {x y:X} (ho:(A8 ops i).o = .app e n b x y) (hg:gm S (A8 ops i).g)
  (hx:S.x x = .nl) (hy:Gh S n (S.x y)=some (m'.map f))
  (h:G c all ops af Φ m (Au ld i) ((S.app0 ⟨e,n,v.map f⟩).put (A8 ops i).d (.osl (Aa S.ss)))):GO c all ops af Φ m ld S i:=by
 obtain ⟨h0,h1,h2⟩:=ZN hv;rw [List.nil_append] at h0;subst h0;exact Bk (S1:=S.app0 ⟨e,n,v.map f⟩) h6 hg (by rw [ho];exact Z0E hx hy (by simpa using h1) (by simpa using h2)) rfl (by rw [ho];exact fun _ _ _ _ h _ _=>h) h
theorem pf (t:Nat) {e:Bool} (ht:AJ S.tm t = .bv e) (h1:e=true→V c fn K k ⟨BL S.tm t .tt,S.bs,S.ss⟩) (h2:e=false→V c fn K k ⟨BL S.tm t .ff,S.bs,S.ss⟩):V c fn K k S:=by
 intro rk M a w hc hT;have Af:∀x:AV,(∀v,(AV.bv e).is M v→x.is M v)→RelT c M ⟨BL S.tm t x,S.bs,S.ss⟩ a w:=by
  intro x hx;refine ⟨by rw [I8];exact hT.len,fun u=>?_,hT.df,hT.st⟩;simp only [F6];split
  ·rename_i hu;obtain ⟨rfl,_⟩:=hu;have:=hT.tm u;rw [ht] at this;exact hx _ this
  ·exact hT.tm u
 cases e with
 | true=>exact h1 rfl rk M a w hc (Af _ fun v hv=>hv)
 | false=>exact h2 rfl rk M a w hc (Af _ fun v hv=>hv)
theorem oR (t:Nat) {e:Bool} {A B:Option β} {r:β} (h:A0 e A B=some r) (ht:AJ S.tm t = .bv e) (h1:e=true→A=some r→V c fn K k ⟨BL S.tm t .tt,S.bs,S.ss⟩) (h2:e=false→B=some r→V c fn K k ⟨BL S.tm t .ff,S.bs,S.ss⟩):V c fn K k S:=pf t ht (fun e1=>h1 e1 (by subst e1;exact h)) (fun e1=>h2 e1 (by subst e1;exact h))
theorem eW {body:σ→Option (σ ⊕ β)} {s0:σ} {r:β} (h:loop body s0=some r) (Sx:σ→St) (h0:S.le (Sx s0)) (hok:∀s,(Sx s).ok=true)
  (hp:∀s,AA c.np (Aa (Sx s).bs)=true) (hq:∀s,AA c.nq (Aa (Sx s).ss)=true)
  (hb:∀s y,body s=some y→(∀s',y = .inl s'→V c fn K k (Sx s'))→(∀r',y = .inr r'→r'=r)→V c fn K k (Sx s)):V c fn K k S:=by
 obtain ⟨n,hn⟩:=Vr.1 h;have Af:∀n s,Dq body n s=some r→V c fn K k (Sx s):=by
  intro n;induction n with
  | zero=>intro s hx;simp [Dq] at hx
  | succ n ih=>
    intro s hx;simp only [Dq] at hx;cases hy:body s with
    | none=>simp [hy] at hx
    | some y=>
      refine hb s y hy ?_ ?_
      ·rintro s' rfl;rw [hy] at hx;exact ih s' hx
      ·rintro r' rfl;rw [hy] at hx;exact Option.some.inj hx
 exact LQ _ h0 (hok _) (hp _) (hq _) (Af n s0 hn)
theorem Da {s':σ} {y:σ ⊕ β} {Sx:σ→St} (h:some (Sum.inl s')=some y) (h6:∀s',y = .inl s'→V c fn K k (Sx s')) (hle:S.le (Sx s'):=by simp [go_sem]) (hok:(Sx s').ok=true:=by first | rfl | simp [go_sem]) (h8:AA c.np (Aa (Sx s').bs)=true:=by rfl) (hqn:AA c.nq (Aa (Sx s').ss)=true:=by rfl):V c fn K k S:=LQ _ hle hok h8 hqn (h6 s' (Option.some.inj h).symm)
theorem AQ {m:σ→Option β} {r:β} {s:σ} {Sx:σ→St} (J:∀s,m s=some r→V c fn K k (Sx s)) (h:m s=some r) (hle:S.le (Sx s):=by simp [go_sem]) (hok:(Sx s).ok=true:=by first | rfl | simp [go_sem]) (h6:AA c.np (Aa (Sx s).bs)=true:=by rfl) (hqn:AA c.nq (Aa (Sx s).ss)=true:=by rfl):V c fn K k S:=LQ _ hle hok h6 hqn (J s h)
end
structure CloOK (P:Program) (g:Nat) (caps:List AV) {α β:Type} (ar:α→List AV) (p:α→Option β) (rs:β→AV):Prop where
 b:(P.funcs[g]?).any (fun fn=>fn.body.isSome&&!(fn.name == "runtime.NumGoroutine"))=true
 pu:AD caps=true
 h:∀x r,p x=some r→Cd P g (ar x++caps) (rs r)
end NX
end Go.Proofs.YtjemlejoladlcaaGreat
