/-
  The symbolic machine: what grows. No statement of the seat is proved here.
-/
import Derived.Test.YtgamgemlekpepaaGreatH6
namespace Go.Proofs.YtgamgemlekpepaaGreat
namespace NX
open Go Go.RowKit
def Src (w:World) (J:Nat) (u:Value) (m:Nat) (E:List Value):Prop:=E.length=m*J∧(u = .slice none 0 0∧m=0∨∃a c,u = .slice (some a) m c∧∀(j:Nat) x,E[j]?=some x→w.cell? (a.add j)=some x)
theorem Zxa {P:Program} {w:World} {t ty e:TypeId} {i:TypeInfo} {z:Value} (hu:P.underlying t=some (.slice e)) (hi:P.info? e=some i) (hz:i.zero=some z) (hf:z.cells.size=i.size) (h0:0<i.size)
  {v:Value} {len:Nat} {xs:List Value} (h6:w.ownsRow 0 e i.size v len xs) {u:Value} {m:Nat} {E:List Value} (ho:Src w i.size u m E) (h1:∀x∈E,x.oneCell'=true)
  (h9:len+m≤maxLen) (hb:(len+m)*i.bytes≤140737488355328):
  ∃v' w',(Builtin.append_ #[t,t] ty #[v,u]).run P w = .ok v' w'∧w'.ownsRow 0 e i.size v' (len+m) (xs++E)∧w.grownBy w' v.ownBlock∧(v'.ownBlock=v.ownBlock∨∀g,v'.ownBlock=some g→w.heap.size≤g):=by
 obtain ⟨hl,hs⟩:=ho;rcases hs with ⟨rfl,rfl⟩ | ⟨a,c,rfl,hc⟩
 ·have hn:E=[]:=List.length_eq_zero_iff.1 (by simpa using hl);subst hn;refine ⟨v,w,run_append_owned_none w 0 t ty e i i.size hu hi v len xs h6,by simpa using h6,⟨rfl,rfl,rfl,Nat.le_refl _,fun _ _ _=>rfl⟩,.inl rfl⟩
 ·obtain ⟨v',w',r1,r2,r3,_⟩:=run_append_own (P:=P) w 0 t ty e i z i.size i.bytes hu hi hz rfl rfl hf h0 v len xs h6 a m c E hl hc h1 h9 hb (Nat.zero_le _);refine ⟨v',w',r1,r2,r3,?_⟩;rcases h6.2 with ⟨rfl,rfl⟩ | ⟨g,cap,cur,rfl,hC,hg,hD,hE,hA,hB⟩
  ·obtain ⟨v2,w2,q1,q2,_,_⟩:=run_append_own (P:=P) w w.heap.size t ty e i z i.size i.bytes hu hi hz rfl rfl hf h0 (.slice none 0 0) 0 xs ⟨h6.1,.inl ⟨rfl,rfl⟩⟩ a m c E hl hc h1 h9 hb (Nat.le_refl _);rw [r1] at q1;simp only [Result.ok.injEq] at q1;obtain ⟨rfl,rfl⟩:=q1;right;intro g hg;exact (World.ownsRow.lt q2 g hg).1
  ·by_cases h8:len+m≤cap
   ·have hw:len*i.size+E.length≤cur.size:=by rw [hl,hA,←Nat.add_mul];exact Nat.mul_le_mul_right _ h8
    have hr:=run_append_room (P:=P) w t ty e i hu hi g len cap cur hg a m c E hl hc h1 h8 hw;rw [r1] at hr;simp only [Result.ok.injEq] at hr;obtain ⟨rfl,_⟩:=hr;exact .inl rfl
   ·have hd:∀j u,xs[j]?=some u→w.cell? ((⟨g,0,none⟩:Addr).add j)=some u:=h6.cells (g:=g) rfl;have hr:=run_append_grow (P:=P) w t ty e i z hu hi hz ⟨g,0,none⟩ len cap xs h6.1 hd a m c E hl hc (by omega) (by simp only [maxLen] at h9;omega) (growslice_fits (by omega) hb);rw [r1] at hr;simp only [Result.ok.injEq] at hr;obtain ⟨rfl,_⟩:=hr;right;intro g' hg';simp [Value.ownBlock] at hg';omega
theorem Zya {M:Mem} {n:Nat}:∀ {a b:List (List AV)} {x y:List (List Value)},AV.isLL M n a x→AV.isLL M n b y→AV.isLL M n (a++b) (x++y)
 | [],_,_,_,h,k=>by simp [AV.isLL] at h;subst h;simpa using k
 | _::_,_,_,_,⟨v,r,h0,h1,h2,h3⟩,k=>by subst h0;exact ⟨v,r++_,rfl,h1,h2,Zya h3 k⟩
theorem Zza {M:Mem} {n:Nat}:∀ {a:List (List AV)} {x:List (List Value)},AV.isLL M n a x→x.flatten.length=a.length*n
 | [],_,h=>by simp [AV.isLL] at h;subst h;simp
 | _::a,_,⟨v,r,h0,h1,h2,h3⟩=>by subst h0;have:=Zza h3;rw [List.flatten_cons,List.length_append,this,h1,List.length_cons,Nat.add_mul,Nat.one_mul,Nat.add_comm]
section
variable {c:Ctx} {M:Mem} {S S':St} {a:Act} {w:World} {fn:Func} {K:AV→List (Option Blk)→List (Option Sl)→Prop} {k:List It}
theorem Z0b (E:RelT c M S a w) {x:AV} {u:Value} (hx:x.is M u) {n:Nat} {rows:List (List AV)} (h:Zp1 S n x=some rows):
  ∃vss,AV.isLL M.sl n rows vss∧Src w n u rows.length vss.flatten∧∀v∈vss.flatten,v.oneCell'=true:=by
 unfold Zp1 at h;split at h
 ·simp at h;subst h;simp only [AV.is] at hx;subst hx;exact ⟨[],rfl,⟨by simp,.inl ⟨rfl,rfl⟩⟩,by simp⟩
 ·rename_i m rows';split at h<;>simp at h;rename_i hm;simp at hm;subst h;subst hm;obtain ⟨ad,cp,rfl,⟨h1,h2⟩,h3⟩:=hx;by_cases hne:rows'=[]
  ·subst hne;refine ⟨[],rfl,⟨by simp,?_⟩,by simp⟩;cases ad with
   | none=>left;rw [h2 rfl];exact ⟨rfl,rfl⟩
   | some ad=>right;exact ⟨ad,cp,rfl,by simp⟩
  ·obtain ⟨ad,vss,rfl,g1,g2⟩:=h3 hne;refine ⟨vss,Zp2 (Zk2 M) _ _ _ g1,⟨Zza g1,.inr ⟨ad,cp,rfl,fun j x hj=>?_⟩⟩,g2.2.1⟩;have h6:=g2.1;have:=Zq4 E.st g2 j x hj;obtain ⟨b,o,sp⟩:=ad;dsimp only at h6;subst h6;rw [Addr.add_lit];exact this
 ·rename_i j;split at h
  ·rename_i L hL;split at h<;>simp at h;rename_i hm;simp at hm;subst h;subst hm;obtain ⟨_,vss,g1,g2,g3,_⟩:=E.st.slc j L hL;refine ⟨vss,g1,⟨Zza g1,?_⟩,g2⟩;rw [hx.2];rcases g3.2 with ⟨e1,e2⟩ | ⟨g,cp,cur,e1,_⟩
   ·left;exact ⟨e1,e2⟩
   ·right;refine ⟨⟨g,0,none⟩,cp,e1,fun j x hj=>?_⟩;exact World.ownsRow.cells g3 (g:=g) (by rw [e1];rfl) j x hj
  ·simp at h
 ·simp at h
theorem Z1b {P:Program} {w w':World} {t:TypeId} {p q:Operand} {ρ:Operand→Value} {v:Value} (d:Option Tmp) (ty:TypeId) (pos:String) (af:Array Edge) (E:Option (Nat×Bool))
  (h:(Builtin.append_ #[t,t] ty #[ρ p,ρ q]).run P w = .ok v w'):(execOp ρ ⟨d,.call ⟨.builtin .append, #[p,q], #[t,t]⟩,ty,pos,af,E⟩).run P w = .ok (.value v) w':=by
 simp [execOp,resolve,invoke,builtin,h]
theorem RelS.grown (h:RelS c M S.bs S.ss w) {w':World} {v E:Value} {L:Sl} {vss:List (List Value)} {ss:List (Option Sl)}
  (hf:ss.length=S.ss.length) (h6:∀j N,Zp ss j=some N→Zp S.ss j=some N∧∀g,v.ownBlock=some g→(M.σ j).ownBlock≠some g)
  (hv:v.ownBlock=none∨∀i B,Zp S.bs i=some B→v.ownBlock≠some (M.ρ i)) (hc:∀g,v.ownBlock=some g→Z03 c g∧M.H g=none)
  (hg:w.grownBy w' v.ownBlock) (h9:E.ownBlock=v.ownBlock∨∀g,E.ownBlock=some g→w.heap.size≤g)
  (h0:0<L.n) (h1:AV.isLL M.sl L.n L.rows vss) (h2:∀x∈vss.flatten,x.oneCell'=true) (h3:w'.ownsRow 0 L.T L.n E L.rows.length vss.flatten):
  RelS c (M.addS E) S.bs (ss++[some L]) w':=by
 have h8:∀k,k<w.heap.size→v.ownBlock≠some k→w'.heap[k]?=w.heap[k]?:=fun k hk hne=>hg.block k hk (fun e=>hne e.symm);have base:RelS c M S.bs ss w':=by
  refine ⟨h.nb,by rw [h.ns,hf],h.so,hg.os.trans h.os,hg.tape.trans h.tape,hg.output.trans h.output,Nat.le_trans h.size hg.size,?_,?_,h.hold,?_,?_,h.d1,?_,?_,h.pin⟩
  ·intro k hk hb;rw [h8 k (Nat.lt_of_lt_of_le hk h.size)]
   ·exact h.block k hk hb
   ·intro e;rcases (hc k e).1 with h | h
    ·omega
    ·exact hb h
  ·intro k o hk;rw [h8 k (Array.getElem?_eq_some_iff.1 (h.hle k o hk)).1]
   ·exact h.hle k o hk
   ·intro e;rw [(hc k e).2] at hk;simp at hk
  ·intro j B hj;obtain ⟨g1,g2,vs,g3,g4,g5⟩:=h.blk j B hj;refine ⟨g1,g2,vs,g3,?_,g5⟩;rw [h8 _ (h.blk_lt hj)]
   ·exact g4
   ·rcases hv with hv | hv
    ·rw [hv];simp
    ·exact hv j B hj
  ·intro j N hj;obtain ⟨hj,hne⟩:=h6 j N hj;obtain ⟨q0,us,q1,q2,q3,q4⟩:=h.slc j N hj;refine ⟨q0,us,q1,q2,World.ownsRow.kept q3 hg ?_,q4⟩;cases hn:v.ownBlock with
   | none=>
     cases ho:(M.σ j).ownBlock with
     | none=>exact .inl rfl
     | some g=>right;simp
   | some g=>right;exact hne g hn
  ·intro i j B N hi hj;exact h.d2 i j B N hi (h6 j N hj).1
  ·intro i j N O g hi hj e1 e2;exact h.d3 i j N O g (h6 i N hi).1 (h6 j O hj).1 e1 e2
 refine base.name L E vss h0 h1 h2 h3 ?_ ?_ ?_
 ·intro g hd;rcases h9 with e | e
  ·exact hc g (by rw [←e];exact hd)
  ·exact ⟨.inl (Nat.le_trans h.size (e g hd)),h.Hnew (e g hd)⟩
 ·intro i B hi e;rcases h9 with e1 | e1
  ·rw [e1] at e;rcases hv with hv | hv
   ·rw [hv] at e;simp at e
   ·exact hv i B hi e
  ·have:=e1 _ e;have:=h.blk_lt hi;omega
 ·intro j N g hj e1 e2;obtain ⟨hj,hne⟩:=h6 j N hj;rcases h9 with e3 | e3
  ·exact hne g (by rw [←e3];exact e1) e2
  ·have:=e3 g e1;have:=h.slc_lt hj e2;omega
def St.app (S:St) (j:Nat) (L:Sl):St:=⟨S.tm,S.bs,Zq S.ss j none++[some L]⟩
def St.app0 (S:St) (L:Sl):St:=⟨S.tm,S.bs,S.ss++[some L]⟩
attribute [go_sem] St.app St.app0
theorem Z2b {e n b j:Nat} {x y:X} {L:Sl} {rows:List (List AV)} (hx:S.x x = .osl j) (hj:Zp S.ss j=some L) (E:L.T=e) (J:L.n=n) (hy:Zp1 S n (S.x y)=some rows)
  (hb:(L.rows.length+rows.length)*b≤140737488355328) (hw:L.rows.length+rows.length≤9223372036854775807):Z67 c S (.app e n b x y) (.osl (Zw S.ss)) (S.app j ⟨e,n,L.rows++rows⟩):=by
 intro ro h9 M a w h6 next Q hd
 obtain ⟨dst,op,ty,pos,af,gd⟩:=ro;dsimp only at h9;obtain ⟨t,p,q,i,z,rfl,hu,hi,hz,h8,hf,ho,hA,rfl,rfl⟩:=Zd7 h9;subst E;subst J;have h1:=Z34 h6 p;have h2:=Z34 h6 q;rw [hx] at h1;obtain ⟨vss,g1,g2,g3⟩:=Z0b h6 h2 hy;have hS:=h6.st;obtain ⟨k0,us,k1,k2,k3,k4⟩:=hS.slc j L hj;have k3':=k3;rw [←h1.2] at k3';obtain ⟨v',w',r1,r2,r3,r4⟩:=Zxa (ty:=ty) hu hi hz (by rw [ho,h8]) (by omega) (by rw [h8];exact k3') (by rw [h8];exact g2) g3 (by unfold maxLen;omega) (by rw [hf];exact hb);rw [h8] at r2;have hc:=Z1b dst ty pos af gd r1;unfold Oper.wp;rw [hc];rw [h1.2] at r3 r4;have hr:RelS c (M.addS v') S.bs (Zq S.ss j none++[some (⟨L.T,L.n,L.rows++rows⟩:Sl)]) w':=by
  refine RelS.grown (v:=M.σ j) (vss:=us++vss) hS (Z72 _ _ _) ?_ ?_ k4 r3 r4 k0 (Zya k1 g1) ?_ ?_
  ·intro i N hi;rw [Z62] at hi;split at hi
   ·simp at hi
   ·rename_i e;refine ⟨hi,fun g hg e2=>e ⟨?_,Z82 hj⟩⟩;exact hS.d3 i j N L g hi hj e2 hg
  ·right;intro i B hi;exact hS.d2 i j B L hi hj
  ·intro x hx;rw [List.flatten_append,List.mem_append] at hx;rcases hx with hx | hx
   ·exact k2 x hx
   ·exact g3 x hx
  ·rw [List.flatten_append,List.length_append];exact r2
 refine hd (M.addS v') w' v' (Mem.le_addS M v') hr ?_;rw [Z12,←hS.ns];exact ⟨Nat.lt_succ_self _,by simp [Mem.addS]⟩
theorem Z3b {e n b:Nat} {x y:X} {rows:List (List AV)} (hx:S.x x = .nl) (hy:Zp1 S n (S.x y)=some rows)
  (hb:rows.length*b≤140737488355328) (hw:rows.length≤9223372036854775807):Z67 c S (.app e n b x y) (.osl (Zw S.ss)) (S.app0 ⟨e,n,rows⟩):=by
 intro ro h9 M a w h6 next Q hd
 obtain ⟨dst,op,ty,pos,af,gd⟩:=ro;dsimp only at h9;obtain ⟨t,p,q,i,z,rfl,hu,hi,hz,h8,hf,hn,ho,rfl,rfl⟩:=Zd7 h9;have h1:=Z34 h6 p;have h2:=Z34 h6 q;rw [hx] at h1;simp only [AV.is] at h1;obtain ⟨vss,g1,g2,g3⟩:=Z0b h6 h2 hy;have hS:=h6.st;obtain ⟨v',w',r1,r2,r3,r4⟩:=Zxa (w:=w) (ty:=ty) (v:=a.eval p) (len:=0) (xs:=[]) hu hi hz (by rw [hn,h8]) (by omega) (by rw [h1];exact World.ownsRow_nil _ _ _ _) (by rw [h8];exact g2) g3 (by unfold maxLen;omega) (by rw [hf,Nat.zero_add];exact hb);rw [h8,Nat.zero_add,List.nil_append] at r2;have hc:=Z1b dst ty pos af gd r1;unfold Oper.wp;rw [hc];rw [h1] at r3 r4;have hr:RelS c (M.addS v') S.bs (S.ss++[some (⟨e,n,rows⟩:Sl)]) w':=by
  refine RelS.grown (v:=.slice none 0 0) (vss:=vss) hS rfl ?_ (.inl rfl) ?_ r3 r4 ho g1 g3 r2
  ·intro i N hi;exact ⟨hi,fun g hg=>by simp [Value.ownBlock] at hg⟩
  ·intro g hg;simp [Value.ownBlock] at hg
 refine hd (M.addS v') w' v' (Mem.le_addS M v') hr ?_;rw [Z12,←hS.ns];exact ⟨Nat.lt_succ_self _,by simp [Mem.addS]⟩
theorem Z4b {d:Option Nat} {g:Option (Nat×Bool)} {l:List EOp} {e n b j:Nat} {x y:X} {L:Sl} {rows:List (List AV)} (hg:gm S g) (hx:S.x x = .osl j) (hj:Zp S.ss j=some L) (E:L.T=e) (J:L.n=n) (hy:Zp1 S n (S.x y)=some rows)
  (hb:(L.rows.length+rows.length)*b≤140737488355328) (h6:L.rows.length+rows.length≤9223372036854775807)
  (h:V c fn K (.ops l::k) ((S.app j ⟨e,n,L.rows++rows⟩).put d (.osl (Zw S.ss)))):V c fn K (.ops (⟨d,g,.app e n b x y⟩::l)::k) S:=
 Z77 hg (Z2b hx hj E J hy hb h6) rfl h
theorem Z5b {all:Array Oper} {ops:List EOp} {af:List (List Nat)} {Φ:St→Prop} {m:Nat} {ld:List Bool} (h6:all.toList.mapM (Ze c.P all)=some ops) {i e n b j:Nat} {x y:X} {L:Sl} {rows:List (List AV)} (E:(Zy1 ops i).o = .app e n b x y) (hg:gm S (Zy1 ops i).g)
  (hx:S.x x = .osl j) (hj:Zp S.ss j=some L) (J:L.T=e) (U:L.n=n) (hy:Zp1 S n (S.x y)=some rows)
  (hb:(L.rows.length+rows.length)*b≤140737488355328) (h8:L.rows.length+rows.length≤9223372036854775807)
  (h:G c all ops af Φ m (Zu1 ld i) ((S.app j ⟨e,n,L.rows++rows⟩).put (Zy1 ops i).d (.osl (Zw S.ss)))):GO c all ops af Φ m ld S i:=
 Zpa (S1:=S.app j ⟨e,n,L.rows++rows⟩) h6 hg (by rw [E];exact Z2b hx hj J U hy hb h8) rfl (by rw [E];exact fun _ _ _ _ h _ _=>h) h
end
mutual
theorem Z6b {M M':Mem} {p q:Nat} (hM:M'.pure=M.pure) (hb:M'.nb=M.nb) (hs:M'.ns=M.ns) (hρ:∀i,M'.ρ i=M.ρ i) (hσ:∀i,i≠q→M'.σ i=M.σ i) (hq:M'.σ q=M.σ p) (hqn:q<M.ns) (hH:M'.H=M.H):
  ∀(x:AV) (v:Value),x.is M v→(AV.ren p q x).is M' v
 | .any,_,_=>trivial
 | .un,_,k=>k
 | .tt,_,k=>k
 | .ff,_,k=>k
 | .bv _,_,k=>k
 | .iv _,_,k=>k
 | .kv _ _,_,k=>k
 | .sv _,_,k=>k
 | .nl,_,k=>k
 | .nlp,_,k=>k
 | .fn _,_,k=>k
 | .ptr i o,_,k=>⟨by rw [hb];exact k.1,by rw [hρ i];exact k.2⟩
 | .osl i,v,k=>by
   simp only [AV.ren];split
   ·rename_i h;simp at h;subst h;exact ⟨by rw [hs];exact hqn,by rw [hq];exact k.2⟩
   ·split
    ·trivial
    ·rename_i h;simp at h;exact ⟨by rw [hs];exact k.1,by rw [hσ i h];exact k.2⟩
 | .oel i a b,v,k=>by
   simp only [AV.ren];split
   ·rename_i h;simp at h;subst h;exact ⟨by rw [hs];exact hqn,by rw [hq];exact k.2⟩
   ·split
    ·trivial
    ·rename_i h;simp at h;exact ⟨by rw [hs];exact k.1,by rw [hσ i h];exact k.2⟩
 | .ocs i a n b,v,k=>by
   simp only [AV.ren];split
   ·rename_i h;simp at h;subst h;exact ⟨by rw [hs];exact hqn,by rw [hq];exact k.2⟩
   ·split
    ·trivial
    ·rename_i h;simp at h;exact ⟨by rw [hs];exact k.1,by rw [hσ i h];exact k.2⟩
 | .elt row o,_,⟨a,vs,h1,h2,h3⟩=>⟨a,vs,h1,by rw [hM];exact h2,by rw [hH];exact h3⟩
 | .sl n rows,_,⟨a,c,h1,h2,h3⟩=>⟨a,c,h1,h2,fun hne=>let ⟨ad,vss,g1,g2,g3⟩:=h3 hne;⟨ad,vss,g1,by rw [hM];exact g2,by rw [hH];exact g3⟩⟩
 | .agg l,_,⟨vs,h1,h2⟩=>⟨vs,h1,Z7b hM hb hs hρ hσ hq hqn hH l vs h2⟩
 | .tup l,_,⟨vs,h1,h2⟩=>⟨vs,h1,Z7b hM hb hs hρ hσ hq hqn hH l vs h2⟩
 | .clo _ l,_,⟨vs,h1,h2⟩=>⟨vs,h1,Z7b hM hb hs hρ hσ hq hqn hH l vs h2⟩
theorem Z7b {M M':Mem} {p q:Nat} (hM:M'.pure=M.pure) (hb:M'.nb=M.nb) (hs:M'.ns=M.ns) (hρ:∀i,M'.ρ i=M.ρ i) (hσ:∀i,i≠q→M'.σ i=M.σ i) (hq:M'.σ q=M.σ p) (hqn:q<M.ns) (hH:M'.H=M.H):
  ∀(l:List AV) (vs:List Value),AV.isL M l vs→AV.isL M' (Zn1 p q l) vs
 | [],_,k=>k
 | x::l,_,⟨v,vs,h1,h2,h3⟩=>⟨v,vs,h1,Z6b hM hb hs hρ hσ hq hqn hH x v h2,Z7b hM hb hs hρ hσ hq hqn hH l vs h3⟩
end
theorem Z8b (p q:Nat):∀(l:List AV) (t:Nat),Zn (Zn1 p q l) t=AV.ren p q (Zn l t)
 | [],_=>rfl
 | _::_,0=>rfl
 | _::l,t+1=>Z8b p q l t
theorem Z9b (p q:Nat):∀(l:List AV),(Zn1 p q l).length=l.length
 | []=>rfl
 | _::l=>by simp [Zn1,Z9b p q l]
section
variable {c:Ctx} {S:St} {fn:Func} {K:AV→List (Option Blk)→List (Option Sl)→Prop} {k:List It}
theorem Zab (p q:Nat) {L:Sl} (hp:Zp S.ss p=some L) (hq:Z5 (q+1) (Zw S.ss)=true) (hn:(p==q)=false) (h:V c fn K k (S.renS p q L)) (hqn:Z5 c.nq q=true:=by rfl) (ho:Zk1 S.ss=true:=by first | rfl | simp [go_sem]):V c fn K k S:=by
 intro rk M a w hc hT;have hS:=hT.st;rw [Z02,Z12] at hq;have hne:p≠q:=by simpa using hn
 have hd:=Z82 hp
 let M':Mem:= {M with σ:=fun i=>if i=q then M.σ p else M.σ i}
 have hq':M'.σ q=M.σ p:=if_pos rfl;have hσ:∀i,i≠q→M'.σ i=M.σ i:=fun i hi=>if_neg hi;have hf:=Z6b (M:=M) (M':=M') (p:=p) (q:=q) rfl rfl rfl (fun _=>rfl) hσ hq' (by rw [hS.ns];omega) rfl;have h9:=Z7b (M:=M) (M':=M') (p:=p) (q:=q) rfl rfl rfl (fun _=>rfl) hσ hq' (by rw [hS.ns];omega) rfl;have live:∀i N,Zp (Zq (Zq S.ss p none) q (some L)) i=some N→(i=q∧N=L)∨(i≠q∧i≠p∧Zp S.ss i=some N):=by
  intro i N hi;rw [Z62,Z62,Z72] at hi;split at hi
  ·rename_i e;left;exact ⟨e.1,by simpa using hi.symm⟩
  ·rename_i e;split at hi
   ·simp at hi
   ·rename_i e2;right;exact ⟨fun x=>e ⟨x,by omega⟩,fun x=>e2 ⟨x,hd⟩,hi⟩
 have back:∀i N,Zp (Zq (Zq S.ss p none) q (some L)) i=some N→∃i',Zp S.ss i'=some N∧M'.σ i=M.σ i'∧(i=q→i'=p)∧(i≠q→i'=i∧i≠p):=by
  intro i N hi;rcases live i N hi with ⟨rfl,rfl⟩ | ⟨h1,h2,h3⟩
  ·exact ⟨p,hp,hq',fun _=>rfl,fun h=>absurd rfl h⟩
  ·exact ⟨i,h3,hσ i h1,fun h=>absurd h h1,fun _=>⟨rfl,h2⟩⟩
 refine h rk M' a w hc ⟨by simp only [St.renS,Z9b];exact hT.len,fun t=>?_,hT.df,?_⟩
 ·simp only [St.renS,Z8b];exact hf _ _ (hT.tm t)
 refine ⟨by simp only [St.renS,Zw7];exact hS.nb,by simp only [St.renS,Z72];exact hS.ns,?_,hS.os,hS.tape,hS.output,hS.size,hS.block,hS.hle,hS.hold,?_,?_,?_,?_,?_,⟨hS.pin.nb,hS.pin.ρ,hS.pin.ns,fun j hj=>by rw [hσ j (by rw [Z02] at hqn;omega)];exact hS.pin.σ j hj,hS.pin.gl⟩⟩
 ·intro i hi;by_cases e:i=q
  ·rw [e,hq'];exact hS.so p (by rw [hS.ns];exact hd)
  ·rw [hσ i e];exact hS.so i hi
 ·intro i B hi;obtain ⟨C,hC,rfl⟩:=Zx7 _ _ _ _ hi;obtain ⟨g1,g2,vs,g3,g4,g5⟩:=hS.blk i C hC;exact ⟨g1,g2,vs,h9 _ _ g3,g4,g5⟩
 ·intro i N hi;obtain ⟨i',h1,h2,_⟩:=back i N hi;rw [h2];obtain ⟨q0,us,q1,q2,q3,q4⟩:=hS.slc i' N h1;exact ⟨q0,us,Zp2 (Zk2 M') _ _ _ (Zy7 (M:=M) _ _ q1 (Za8 ho h1)),q2,q3,q4⟩
 ·intro i t B C hi ht e;obtain ⟨B',hB,_⟩:=Zx7 _ _ _ _ hi;obtain ⟨C',hC,_⟩:=Zx7 _ _ _ _ ht;exact hS.d1 i t B' C' hB hC e
 ·intro i t B N hi ht;obtain ⟨B',hB,_⟩:=Zx7 _ _ _ _ hi;obtain ⟨t',h1,h2,_⟩:=back t N ht;rw [h2];exact hS.d2 i t' B' N hB h1
 ·intro i t N O g hi ht e1 e2;obtain ⟨i',h1,h2,h3,h4⟩:=back i N hi;obtain ⟨t',k1,k2,k3,k4⟩:=back t O ht;rw [h2] at e1;rw [k2] at e2;have e:=hS.d3 i' t' N O g h1 k1 e1 e2;by_cases h6:i=q<;>by_cases h8:t=q
  ·rw [h6,h8]
  ·have:=h3 h6;have:=(k4 h8).1;have:=(k4 h8).2;omega
  ·have:=k3 h8;have:=(h4 h6).1;have:=(h4 h6).2;omega
  ·have:=(h4 h6).1;have:=(k4 h8).1;omega
theorem Zbb (t T n:Nat) (ht:Zn S.tm t = .nl) (E:Z5 1 n=true) (h:V c fn K k ⟨Zo S.tm t (.osl (Zw S.ss)),S.bs,S.ss++[some ⟨T,n,[]⟩]⟩):V c fn K k S:=by
 intro rk M a w hc hT;have hS:=hT.st;rw [Z02] at E;have hr:=hS.name ⟨T,n,[]⟩ (.slice none 0 0) [] E rfl (by simp) (World.ownsRow_nil w 0 T n) (fun g hg=>by simp [Value.ownBlock] at hg) (fun i B _=>by simp [Value.ownBlock]) (fun j N g _ hg=>by simp [Value.ownBlock] at hg);have hle:=Mem.le_addS M (.slice none 0 0);refine h rk _ a w hc ⟨by rw [Z32];exact hT.len,fun u=>?_,hT.df,hr⟩;rw [Z22];split
 ·rename_i e;have:=hT.tm t;rw [ht] at this;rw [e.1,Z12,←hS.ns];refine ⟨Nat.lt_succ_self _,?_⟩;simp only [Mem.addS,if_true];exact this
 ·exact Zn2 hle _ _ (hT.tm u)
theorem Zcb (j o T n:Nat) {B:Blk} (hj:Zp S.bs j=some B) (J:Zn B.cells o = .nl) (E:Z5 1 n=true) (h:V c fn K k ⟨S.tm,Zq S.bs j (some ⟨B.T,Zo B.cells o (.osl (Zw S.ss))⟩),S.ss++[some ⟨T,n,[]⟩]⟩):V c fn K k S:=by
 intro rk M a w hc hT;have hS:=hT.st;rw [Z02] at E;have hr:=hS.name ⟨T,n,[]⟩ (.slice none 0 0) [] E rfl (by simp) (World.ownsRow_nil w 0 T n) (fun g hg=>by simp [Value.ownBlock] at hg) (fun i B _=>by simp [Value.ownBlock]) (fun j N g _ hg=>by simp [Value.ownBlock] at hg);have hle:=Mem.le_addS M (.slice none 0 0);obtain ⟨m1,m2,vs,m3,m4,m5⟩:=hr.blk j B hj;have h8:AV.isL (M.addS (.slice none 0 0)) (Zo B.cells o (.osl (Zw S.ss))) vs:=by
  have hl:=Ze2 m3;refine Zg2 (by rw [Z32];exact hl.symm) fun i x v hx hv=>?_;have h6:i<B.cells.length:=by rw [←hl];exact (List.getElem?_eq_some_iff.1 hv).1
  have gl:∀(l:List AV) (i:Nat) (x:AV),l[i]?=some x→Zn l i=x:=by
   intro l;induction l with
   | nil=>intro i x h;simp at h
   | cons y l ih=>intro i x h;cases i with
     | zero=>simpa [Zn] using h
     | succ i=>exact ih i x (by simpa using h)
  have e1:=gl _ _ _ hx;rw [Z22] at e1;split at e1
  ·rename_i e;obtain ⟨rfl,_⟩:=e;subst e1;have h9:B.cells[i]?=some (.nl):=by rw [List.getElem?_eq_getElem h6];have:=gl _ _ _ (List.getElem?_eq_getElem h6);rw [←this,J]
   have:=Zf2 m3 i .nl v h9 hv;rw [Z12,←hS.ns];refine ⟨Nat.lt_succ_self _,?_⟩;simp only [Mem.addS,if_true];exact this
  ·have:=Z27 m3 i h6;rw [e1] at this;rw [List.getD_eq_getElem?_getD,hv] at this;exact this
 have h6:=Z82 hj;refine h rk _ a w hc ⟨hT.len,fun u=>Zn2 hle _ _ (hT.tm u),hT.df,?_⟩;have old:∀i C,Zp (Zq S.bs j (some (⟨B.T,Zo B.cells o (.osl (Zw S.ss))⟩:Blk))) i=some C→(i=j∧C=⟨B.T,Zo B.cells o (.osl (Zw S.ss))⟩)∨(i≠j∧Zp S.bs i=some C):=by
  intro i C hi;rw [Z62] at hi;split at hi
  ·rename_i e;left;exact ⟨e.1,by simpa using hi.symm⟩
  ·rename_i e;right;exact ⟨fun x=>e ⟨x,h6⟩,hi⟩
 have live:∀i C,Zp (Zq S.bs j (some (⟨B.T,Zo B.cells o (.osl (Zw S.ss))⟩:Blk))) i=some C→∃D,Zp S.bs i=some D:=by
  intro i C hi;rcases old i C hi with ⟨rfl,_⟩ | ⟨_,h⟩
  ·exact ⟨B,hj⟩
  ·exact ⟨_,h⟩
 refine ⟨by rw [Z72];exact hr.nb,hr.ns,hr.so,hr.os,hr.tape,hr.output,hr.size,hr.block,hr.hle,hr.hold,?_,hr.slc,?_,?_,hr.d3,hr.pin⟩
 ·intro i C hi;rcases old i C hi with ⟨rfl,rfl⟩ | ⟨_,h⟩
  ·exact ⟨m1,m2,vs,h8,m4,m5⟩
  ·exact hr.blk i C h
 ·intro i t C D hi ht e;obtain ⟨C',hC⟩:=live i C hi;obtain ⟨D',hD⟩:=live t D ht;exact hr.d1 i t C' D' hC hD e
 ·intro i t C N hi ht;obtain ⟨C',hC⟩:=live i C hi;exact hr.d2 i t C' N hC ht
end
end NX
end Go.Proofs.YtgamgemlekpepaaGreat
/-
  The symbolic machine: a slice that is built and sealed at once. No statement of the seat is proved here.
-/
namespace Go.Proofs.YtgamgemlekpepaaGreat
namespace NX
open Go Go.RowKit
section
variable {c:Ctx} {S:St}
mutual
theorem Zdb (j:Nat) (r:AV):∀(x:AV),x.pu=true→AV.subO j r x=x:=by
 intro x h;cases x<;>simp_all [AV.pu,AV.subO]
 all_goals exact Zeb j r _ h
theorem Zeb (j:Nat) (r:AV):∀(l:List AV),puL l=true→Zl1 j r l=l
 | [],_=>rfl
 | x::l,h=>by simp only [puL] at h;cases hx:x.pu<;>simp [hx,Z4] at h;simp [Zl1,Zdb j r x hx,Zeb j r l h]
end
theorem Zfb {T n len:Nat} {z:List AV} {ps:List (Nat×X)} {S1:St} {j:Nat} {L:Sl} {q:Prop} (he:ev S (.bsl T n len z ps)=some (.osl j,S1,q)) (hq:q) (hj:Zp S1.ss j=some L) (h6:Zj1 L.rows=true):
  Z67 c S (.bsl T n len z ps) (.sl L.n L.rows) ⟨S.tm,Zo1 (Zl1 j (.sl L.n L.rows)) S1.bs,Zq S1.ss j none⟩:=by
 intro ro h8 M a w hT next Q hn
 refine Z87 he hq ro h8 M a w hT next Q fun M' w' x h1 h2 h3=>?_
 obtain ⟨M2,k1,k2,k3⟩:=Zb8 (S:=⟨[],S1.bs,S1.ss⟩) (a:=a) j hj h6 ⟨by simp,fun t=>by cases t<;>trivial,hT.df,h2⟩;refine hn M2 w' x (h1.trans k1) k2.st ?_;simp only [AV.is] at h3;rw [h3.2];exact k3
theorem Zgb (f:List AV→List AV):∀(l:List (Option Blk)) (j:Nat),Zp (Zo1 f l) j=(Zp l j).map fun B=>⟨B.T,f B.cells⟩
 | [],j=>by simp [Zo1,Zp]
 | none::l,0=>by simp [Zo1,Zp]
 | some C::l,0=>by simp [Zo1,Zp]
 | none::l,j+1=>by simpa [Zo1,Zp] using Zgb f l j
 | some _::l,j+1=>by simpa [Zo1,Zp] using Zgb f l j
theorem Zhb (j:Nat) (r:AV):∀(n:Nat) (l s:List AV),Zr n l=some s→Zr n (Zl1 j r l)=some (Zl1 j r s)
 | 0,l,s,h=>by simp [Zr] at h ⊢;subst h;rfl
 | n+1,[],s,h=>by simp [Zr] at h
 | n+1,x::l,s,h=>by simp only [Zr,Option.map_eq_some_iff] at h;obtain ⟨t,ht,rfl⟩:=h;simp [Zl1,Zr,Zhb j r n l t ht]
theorem Zib (j:Nat) (r:AV):∀(n:Nat) (l s:List AV),Zs n l=some s→Zs n (Zl1 j r l)=some (Zl1 j r s)
 | 0,l,s,h=>by simp [Zs] at h ⊢;subst h;rfl
 | n+1,[],s,h=>by simp [Zs] at h
 | n+1,x::l,s,h=>by simp only [Zs] at h;simp [Zl1,Zs,Zib j r n l s h]
theorem Zjb (j:Nat) (r:AV) {l s:List AV} {o n:Nat} (h:Zt l o n=some s):Zt (Zl1 j r l) o n=some (Zl1 j r s):=by
 unfold Zt at h ⊢;split at h
 ·rename_i t ht;rw [Zib j r o l t ht];exact Zhb j r n t s h
 ·simp at h
theorem Zkb {T n len:Nat} {z:List AV} {ps:List (Nat×X)} (j:Nat) (r:AV) (ss:List (Option Sl)):Zo8 S ⟨S.tm,Zo1 (Zl1 j r) S.bs,ss⟩ (.bsl T n len z ps):=by
 intro i off m l h1 h2 _;simp only [Zd1] at h1 ⊢;rw [Zgb];split at h1
 ·rename_i B hB;rw [hB];have:=Zjb j r h1;rw [Zeb j r l h2] at this;exact this
 ·simp at h1
section
variable {all:Array Oper} {ops:List EOp} {af:List (List Nat)} {Φ:St→Prop} {m:Nat} {ld:List Bool}
theorem Zlb (h6:all.toList.mapM (Ze c.P all)=some ops) {i T n len:Nat} {z:List AV} {ps:List (Nat×X)} {L:Sl} {q:Prop} (E:(Zy1 ops i).o = .bsl T n len z ps) (hg:gm S (Zy1 ops i).g)
  (he:ev S (.bsl T n len z ps)=some (.osl (Zw S.ss),⟨S.tm,S.bs,S.ss++[some L]⟩,q)) (hq:q) (h:G c all ops af Φ m (Zu1 ld i) (St.put ⟨S.tm,Zo1 (Zl1 (Zw S.ss) (.sl L.n L.rows)) S.bs,S.ss++[none]⟩ (Zy1 ops i).d (.sl L.n L.rows))) (h8:Zj1 L.rows=true:=by first | rfl | simp [go_sem]):GO c all ops af Φ m ld S i:=by
 have hj:Zp (S.ss++[some L]) (Zw S.ss)=some L:=by rw [Z12,Z52,if_pos rfl]
 have hp:Zq (S.ss++[some L]) (Zw S.ss) none=S.ss++[none]:=by
  rw [Z12];generalize S.ss=l;induction l with
  | nil=>rfl
  | cons x l ih=>simp [Zq,ih]
 have hs:=Zfb (c:=c) he hq hj h8;dsimp only at hs;rw [hp] at hs;exact Zpa (S1:=⟨S.tm,Zo1 (Zl1 (Zw S.ss) (.sl L.n L.rows)) S.bs,S.ss++[none]⟩) h6 hg (by rw [E];exact hs) rfl (by rw [E];exact Zkb _ _ _) h
end
end
end NX
end Go.Proofs.YtgamgemlekpepaaGreat
/-
  The symbolic machine: all of it. No statement of the seat is proved here.
-/
namespace Go.Proofs.YtgamgemlekpepaaGreat
namespace NX
attribute [go_sem] St.init lun run efl gun ev1 ev St.x St.put Zn Zo AV.cells Zw Zx AV.one Zd1 Zp Zq Zt tf lgt eqA Zc1 Zb1 Za1 ngB Zr Zs Zu Zv Z31 Z51 Z41 shK mkI keq Z61 Z4 Z5 Zy Z71 Z81 Z91 mmI Zz Z01 Z11 Z21 AV.pu puL unw AV.ok okL okB Zh1 Zi1 Zj1 Zk1 St.ok Zr1 Zs1 AV.subO Zl1 AV.subB Zm1 Zo1 St.sealS St.sealB AV.ren Zn1 St.renS Zp1 AV.le.leL leT leB leS St.le List.cons_append List.nil_append Option.map gm gst tkv Zha Zia geO rd Zp8 Zh9 orb frB stB Zt1 bgf Zu1 Zv1 rdy Zw1 Zx1 Zy1 Z99
def leO:Option AV→AV→Prop
 | some x,y=>x.le y
 | none,_=>False
attribute [go_sem] leO
theorem Zmb {P:Program} {w0:World} {H0:Frag} {f:Nat} {fn:Func} {body:EC} {rs:List ERes} {np nt:Nat} {k:List It} {S:St} {res:AV} (ok:FnOK P f fn body rs np nt)
  (h:leO (Zs1 S rs) res):V (Ctx.of P w0 H0) fn (fun x _ _=>x.le res) (.code .ret::k) S:=by
 cases hx:Zs1 S rs with
 | none=>rw [hx] at h;exact h.elim
 | some x=>rw [hx] at h;exact Zw6 ok.r hx h
theorem Znb {P:Program} {w0:World} {H0:Frag} {f:Nat} {fn:Func} {body:EC} {rs:List ERes} {np nt:Nat} {S:St} {res:AV} (ok:FnOK P f fn body rs np nt)
  (h:leO (Zs1 S rs) res):V (Ctx.of P w0 H0) fn (fun x _ _=>x.le res) [] S:=by
 cases hx:Zs1 S rs with
 | none=>rw [hx] at h;exact h.elim
 | some x=>rw [hx] at h;exact Zx6 ok.r hx h
mutual
theorem Zob {nb ns:Nat}:∀x:AV,x.pu=true→x.ok nb ns=true
 | .any,_ | .un,_ | .tt,_ | .ff,_ | .bv _,_ | .iv _,_ | .kv _ _,_ | .sv _,_ | .nl,_ | .nlp,_ | .fn _,_ | .elt _ _,_ | .sl _ _,_=>rfl
 | .ptr _ _,h | .osl _,h | .oel _ _ _,h | .ocs _ _ _ _,h=>by simp [AV.pu] at h
 | .agg l,h=>Zpb l h
 | .tup l,h=>Zpb l h
 | .clo _ l,h=>Zpb l h
theorem Zpb {nb ns:Nat}:∀l:List AV,puL l=true→okL nb ns l=true
 | [],_=>rfl
 | x::l,h=>by simp only [puL,Zz1] at h;simp only [okL,Zz1];exact ⟨Zob x h.1,Zpb l h.2⟩
end
mutual
theorem le_refl:∀x:AV,x.le x
 | .any | .un | .tt | .ff | .bv _ | .iv _ | .kv _ _ | .sv _ | .nl | .nlp | .fn _ | .ptr _ _ | .osl _ | .oel _ _ _ | .ocs _ _ _ _=>by simp [AV.le]
 | .elt row _=>⟨Zqb row,rfl⟩
 | .sl _ _=>⟨rfl,rfl,fun _ _ h=>h⟩
 | .agg l=>Zqb l
 | .tup l=>Zqb l
 | .clo _ l=>⟨rfl,Zqb l⟩
theorem Zqb:∀l:List AV,AV.le.leL l l
 | []=>trivial
 | x::l=>⟨le_refl x,Zqb l⟩
end
theorem Zrb (x:AV):x.le .any=True:=by simp [AV.le]
theorem Zsb (x:AV):x.le x=True:=by simp [le_refl]
theorem Ztb (l:List AV):AV.le.leL l l=True:=by simp [Zqb]
theorem Zub (a b:Int):AV.le (.iv a) (.iv b)=(a=b):=by simp [AV.le]
theorem Zvb (a b:Bool):AV.le (.bv a) (.bv b)=(a=b):=by simp [AV.le]
theorem Zwb (b:Bool):AV.le .tt (.bv b)=(b=true):=by simp [AV.le]
theorem Zxb (b:Bool):AV.le .ff (.bv b)=(b=false):=by simp [AV.le]
theorem Zyb (b:Bool):AV.le (.bv b) .tt=(b=true):=by simp [AV.le]
theorem Zzb (b:Bool):AV.le (.bv b) .ff=(b=false):=by simp [AV.le]
theorem Z0c (n:Nat) (d:List (List AV)):AV.le .nl (.sl n d)=(d=[]):=by simp [AV.le]
theorem Z1c (n m:Nat) (d e:List (List AV)):AV.le (.sl n d) (.sl m e)=(n=m∧Zg1 n d e):=by simp [AV.le]
theorem Z2c (a b:List AV):AV.le (.agg a) (.agg b)=AV.le.leL a b:=by simp [AV.le]
theorem Z3c (a b:List AV):AV.le (.tup a) (.tup b)=AV.le.leL a b:=by simp [AV.le]
theorem Z4c (a b:List AV) (i j:Nat):AV.le (.elt a i) (.elt b j)=(AV.le.leL a b∧i=j):=by simp [AV.le]
theorem Z5c (a b:List AV) (i j:Nat):AV.le (.clo i a) (.clo j b)=(i=j∧AV.le.leL a b):=by simp [AV.le]
theorem Z6c (n:Nat) (d:List (List AV)):Zg1 n d d=True:=by simp [Zg1]
attribute [go_sem] Zrb Zsb Ztb Zub Zvb Zwb Zxb Zyb Zzb Z0c Z1c Z2c Z3c Z4c Z5c Z6c
end NX
end Go.Proofs.YtgamgemlekpepaaGreat
namespace Go.Proofs.YtgamgemlekpepaaGreat
namespace NX
open Go Go.RowKit
def ifb {α:Type} (e:Bool) (a b:Option α):Option α:=match e with | true=>a | false=>b
def at_ {α:Type} (l:List α) (i:Int):Option α:=if 0≤i then l[i.toNat]? else none
def Z7c {α:Type} (bytes:Nat) (l m:List α):Option (List α):=if (l.length+m.length)*bytes≤140737488355328∧l.length+m.length≤9223372036854775807 then some (l++m) else none
def Z8c {α:Type} (l:List α) (lo hi:Int):Option (List α):=if 0≤lo∧lo≤hi∧hi≤l.length then some ((l.take hi.toNat).drop lo.toNat) else none
def Z9c {σ β:Type} (body:σ→Option (σ ⊕ β)):Nat→σ→Option β
 | 0,_=>none
 | n+1,s=>match body s with
   | none=>none
   | some (.inl s')=>Z9c body n s'
   | some (.inr r)=>some r
theorem Zac {σ β:Type} {body:σ→Option (σ ⊕ β)}:∀ {n:Nat} {s:σ} {r:β},Z9c body n s=some r→∀m,n≤m→Z9c body m s=some r
 | 0,_,_,h,_,_=>by simp [Z9c] at h
 | n+1,s,r,h,m,hm=>by
   obtain ⟨m,rfl⟩:∃k,m=k+1:=⟨m-1,by omega⟩
   simp only [Z9c] at h ⊢;split at h<;>simp_all;exact Zac h m (by omega)
open Classical in
noncomputable def loop {σ β:Type} (body:σ→Option (σ ⊕ β)) (s:σ):Option β:=if h:∃r n,Z9c body n s=some r then some h.choose else none
theorem Zbc {σ β:Type} {body:σ→Option (σ ⊕ β)} {s:σ} {r:β}:loop body s=some r↔∃n,Z9c body n s=some r:=by
 unfold loop;constructor
 ·intro h;split at h
  ·rename_i hx;simp at h;subst h;exact hx.choose_spec
  ·simp at h
 ·rintro ⟨n,h⟩;have hx:∃r n,Z9c body n s=some r:=⟨r,n,h⟩
  rw [dif_pos hx];obtain ⟨m,hm⟩:=hx.choose_spec;have h1:=Zac h (max n m) (Nat.le_max_left _ _);have h2:=Zac hm (max n m) (Nat.le_max_right _ _);rw [h1] at h2;exact h2.symm
theorem Zcc {σ β:Type} (body:σ→Option (σ ⊕ β)) (s:σ):loop body s=match body s with | none=>none | some (.inl s')=>loop body s' | some (.inr r)=>some r:=by
 apply Option.ext;intro r;rw [Zbc];cases hb:body s with
 | none=>
   constructor
   ·rintro ⟨n,h⟩;cases n<;>simp [Z9c,hb] at h
   ·intro h;simp at h
 | some y=>
   cases y with
   | inl s'=>
     dsimp only;rw [Zbc];constructor
     ·rintro ⟨n,h⟩;cases n with
      | zero=>simp [Z9c] at h
      | succ n=>exact ⟨n,by simpa [Z9c,hb] using h⟩
     ·rintro ⟨n,h⟩;exact ⟨n+1,by simpa [Z9c,hb] using h⟩
   | inr r'=>
     constructor
     ·rintro ⟨n,h⟩;cases n with
      | zero=>simp [Z9c] at h
      | succ n=>simpa [Z9c,hb] using h
     ·intro h;exact ⟨1,by simpa [Z9c,hb] using h⟩
structure ole {α:Type} (a b:Option α):Prop where
 h:∀r,a=some r→b=some r
theorem Zdc {α β:Type} {m:Option β} {y:α ⊕ β} {r:β} (h:m.map Sum.inr=some y) (E:∀r',y = .inr r'→r'=r):m=some r:=by
 cases m with
 | none=>simp at h
 | some v=>simp at h;rw [E v h.symm]
section
variable {c:Ctx} {fn:Func} {K:AV→List (Option Blk)→List (Option Sl)→Prop} {k:List It} {S:St} {α β σ:Type} {b:Nat}
theorem Zec {b:EC} {body:σ→Option (σ ⊕ β)} {s0:σ} {r:β} (h:loop body s0=some r) (E:σ→St) (h0:S.le (E s0)) (hok:∀s,(E s).ok=true)
  (hb:∀n s y,body s=some y→(∀s',y = .inl s'→V c fn K (.lp b n::k) (E s'))→(∀r',y = .inr r'→r'=r)→V c fn K (.code b :: .lp b n::k) (E s)) (h6:Z5 c.np (Zw (E s0).bs)=true:=by rfl) (hqn:Z5 c.nq (Zw (E s0).ss)=true:=by rfl):V c fn K (.code (.loop b)::k) S:=by
 obtain ⟨n,hn⟩:=Zbc.1 h;refine Zs6 (X:=Nat×σ) (fun x=>Z9c body x.1 x.2=some r) (fun x=>E x.2) (fun x=>x.1) (n,s0) h0 (hok _) h6 hqn hn ?_;rintro m ⟨n,s⟩ hx ih;cases n with
 | zero=>simp [Z9c] at hx
 | succ n=>
   simp only [Z9c] at hx;cases hy:body s with
   | none=>simp [hy] at hx
   | some y=>
     refine hb m s y hy ?_ ?_
     ·rintro s' rfl;rw [hy] at hx;exact ih (n,s') hx (Nat.lt_succ_self _)
     ·rintro r' rfl;rw [hy] at hx;simpa using hx
theorem Zfc {o:X} {a b:EC} {e:Bool} {A B:Option β} {r:β} (h:ifb e A B=some r) (hx:S.x o = .bv e) (h1:e=true→A=some r→V c fn K (.code a::k) S) (h2:e=false→B=some r→V c fn K (.code b::k) S):V c fn K (.code (.ite o a b)::k) S:=Z44 hx (fun e1=>h1 e1 (by subst e1;exact h)) (fun e1=>h2 e1 (by subst e1;exact h))
theorem Zgc {l:List α} {i:Int} {v:α} (h:at_ l i=some v):0≤i∧l[i.toNat]?=some v:=by
 unfold at_ at h;split at h
 ·exact ⟨by assumption,h⟩
 ·simp at h
theorem Zhc {f:α→List AV} {l:List α} {n:Nat} {v:α} (h:l[n]?=some v):(l.map f)[n]?=some (f v):=by rw [List.getElem?_map,h];rfl
theorem Zic {l':List α} {i:Int} {v:α} {d:Option Nat} {g:Option (Nat×Bool)} {n m:Nat} {x y:X} {l:List EOp} (f:α→List AV) (hv:at_ l' i=some v) (hg:gm S g) (hx:S.x x = .sl m (l'.map f)) (hi:S.x y = .iv i) (h6:m=n)
  (h':V c fn K (.ops l::k) (S.put d (.elt (f v) 0))):V c fn K (.ops (⟨d,g,.idx n x y⟩::l)::k) S:=by
 obtain ⟨h0,hr⟩:=Zgc hv;exact Zl7 (f v) hg hx hi h6 h0 (Zhc hr) h'
theorem Zjc {all:Array Oper} {ops:List EOp} {af:List (List Nat)} {Φ:St→Prop} {m:Nat} {ld:List Bool} {nap:List (List Nat)} (h6:all.toList.mapM (Ze c.P all)=some ops) (h8:Region.noSelect all=true) (hc:af=Zl all) (h9:nap=Zm all) (i:Nat) {l':List α} {j:Int} {v:α} {n k:Nat} {x y:X} (f:α→List AV) (hv:at_ l' j=some v)
  (hi:Zw1 i (rdy ld af 0)=true) (J:(Zy1 ops i).o = .idx n x y) (hg:gm S (Zy1 ops i).g) (hx:S.x x = .sl k (l'.map f)) (hy:S.x y = .iv j) (hd:k=n)
  (E:frB ld af i (Zx1 nap i)=true) (h:G c all ops af Φ m (Zu1 ld i) (S.put (Zy1 ops i).d (.elt (f v) 0))):G c all ops af Φ (m+1) ld S:=by
 obtain ⟨h0,hr⟩:=Zgc hv;exact Zwa h6 h8 hc h9 i (f v) hi J hg hx hy hd h0 (Zhc hr) E h
theorem Zkc {b:Nat} {l m v:List α} (h:Z7c b l m=some v):v=l++m∧(l.length+m.length)*b≤140737488355328∧l.length+m.length≤9223372036854775807:=by
 unfold Z7c at h;split at h
 ·rename_i h1;simp at h;exact ⟨h.symm,h1⟩
 ·simp at h
theorem Zlc {l' m' v:List α} {d:Option Nat} {g:Option (Nat×Bool)} {l:List EOp} {e n b j:Nat} {x y:X} (f:α→List AV) (hv:Z7c b l' m'=some v) (hg:gm S g) (hx:S.x x = .osl j) (hj:Zp S.ss j=some ⟨e,n,l'.map f⟩) (hy:Zp1 S n (S.x y)=some (m'.map f))
  (h':V c fn K (.ops l::k) ((S.app j ⟨e,n,v.map f⟩).put d (.osl (Zw S.ss)))):V c fn K (.ops (⟨d,g,.app e n b x y⟩::l)::k) S:=by
 obtain ⟨h0,h1,h2⟩:=Zkc hv;subst h0;rw [List.map_append] at h';exact Z4b hg hx hj rfl rfl hy (by simpa using h1) (by simpa using h2) h'
theorem Zmc {all:Array Oper} {ops:List EOp} {af:List (List Nat)} {Φ:St→Prop} {m:Nat} {ld:List Bool} {l' m' v:List α} (f:α→List AV) (hv:Z7c b l' m'=some v) (h6:all.toList.mapM (Ze c.P all)=some ops) {i e n j:Nat} {x y:X} (E:(Zy1 ops i).o = .app e n b x y) (hg:gm S (Zy1 ops i).g)
  (hx:S.x x = .osl j) (hj:Zp S.ss j=some ⟨e,n,l'.map f⟩) (hy:Zp1 S n (S.x y)=some (m'.map f))
  (h:G c all ops af Φ m (Zu1 ld i) ((S.app j ⟨e,n,v.map f⟩).put (Zy1 ops i).d (.osl (Zw S.ss)))):GO c all ops af Φ m ld S i:=by
 obtain ⟨h0,h1,h2⟩:=Zkc hv;subst h0;rw [List.map_append] at h;exact Z5b h6 E hg hx hj rfl rfl hy (by simpa using h1) (by simpa using h2) h
theorem Znc {all:Array Oper} {ops:List EOp} {af:List (List Nat)} {Φ:St→Prop} {m:Nat} {ld:List Bool} {m' v:List α} (f:α→List AV) (hv:Z7c b [] m'=some v) (h6:all.toList.mapM (Ze c.P all)=some ops) {i e n:Nat} {x y:X} (E:(Zy1 ops i).o = .app e n b x y) (hg:gm S (Zy1 ops i).g)
  (hx:S.x x = .nl) (hy:Zp1 S n (S.x y)=some (m'.map f))
  (h:G c all ops af Φ m (Zu1 ld i) ((S.app0 ⟨e,n,v.map f⟩).put (Zy1 ops i).d (.osl (Zw S.ss)))):GO c all ops af Φ m ld S i:=by
 obtain ⟨h0,h1,h2⟩:=Zkc hv;rw [List.nil_append] at h0;subst h0;exact Zpa (S1:=S.app0 ⟨e,n,v.map f⟩) h6 hg (by rw [E];exact Z3b hx hy (by simpa using h1) (by simpa using h2)) rfl (by rw [E];exact fun _ _ _ _ h _ _=>h) h
theorem Zoc (t:Nat) {e:Bool} (ht:Zn S.tm t = .bv e) (h1:e=true→V c fn K k ⟨Zo S.tm t .tt,S.bs,S.ss⟩) (h2:e=false→V c fn K k ⟨Zo S.tm t .ff,S.bs,S.ss⟩):V c fn K k S:=by
 intro rk M a w hc hT;have key:∀x:AV,(∀v,(AV.bv e).is M v→x.is M v)→RelT c M ⟨Zo S.tm t x,S.bs,S.ss⟩ a w:=by
  intro x hx;refine ⟨by rw [Z32];exact hT.len,fun u=>?_,hT.df,hT.st⟩;simp only [Z22];split
  ·rename_i hu;obtain ⟨rfl,_⟩:=hu;have:=hT.tm u;rw [ht] at this;exact hx _ this
  ·exact hT.tm u
 cases e with
 | true=>exact h1 rfl rk M a w hc (key _ fun v hv=>hv)
 | false=>exact h2 rfl rk M a w hc (key _ fun v hv=>hv)
theorem Zpc (t:Nat) {e:Bool} {A B:Option β} {r:β} (h:ifb e A B=some r) (ht:Zn S.tm t = .bv e) (h1:e=true→A=some r→V c fn K k ⟨Zo S.tm t .tt,S.bs,S.ss⟩) (h2:e=false→B=some r→V c fn K k ⟨Zo S.tm t .ff,S.bs,S.ss⟩):V c fn K k S:=Zoc t ht (fun e1=>h1 e1 (by subst e1;exact h)) (fun e1=>h2 e1 (by subst e1;exact h))
theorem Zqc {body:σ→Option (σ ⊕ β)} {s0:σ} {r:β} (h:loop body s0=some r) (E:σ→St) (h0:S.le (E s0)) (hok:∀s,(E s).ok=true)
  (hp:∀s,Z5 c.np (Zw (E s).bs)=true) (hq:∀s,Z5 c.nq (Zw (E s).ss)=true)
  (hb:∀s y,body s=some y→(∀s',y = .inl s'→V c fn K k (E s'))→(∀r',y = .inr r'→r'=r)→V c fn K k (E s)):V c fn K k S:=by
 obtain ⟨n,hn⟩:=Zbc.1 h;have key:∀n s,Z9c body n s=some r→V c fn K k (E s):=by
  intro n;induction n with
  | zero=>intro s hx;simp [Z9c] at hx
  | succ n ih=>
    intro s hx;simp only [Z9c] at hx;cases hy:body s with
    | none=>simp [hy] at hx
    | some y=>
      refine hb s y hy ?_ ?_
      ·rintro s' rfl;rw [hy] at hx;exact ih s' hx
      ·rintro r' rfl;rw [hy] at hx;exact Option.some.inj hx
 exact Zr6 _ h0 (hok _) (hp _) (hq _) (key n s0 hn)
theorem Zrc {s':σ} {y:σ ⊕ β} {E:σ→St} (h:some (Sum.inl s')=some y) (h6:∀s',y = .inl s'→V c fn K k (E s')) (hle:S.le (E s'):=by simp [go_sem]) (hok:(E s').ok=true:=by first | rfl | simp [go_sem]) (h8:Z5 c.np (Zw (E s').bs)=true:=by rfl) (hqn:Z5 c.nq (Zw (E s').ss)=true:=by rfl):V c fn K k S:=Zr6 _ hle hok h8 hqn (h6 s' (Option.some.inj h).symm)
theorem Zsc {m:σ→Option β} {r:β} {s:σ} {E:σ→St} (J:∀s,m s=some r→V c fn K k (E s)) (h:m s=some r) (hle:S.le (E s):=by simp [go_sem]) (hok:(E s).ok=true:=by first | rfl | simp [go_sem]) (h6:Z5 c.np (Zw (E s).bs)=true:=by rfl) (hqn:Z5 c.nq (Zw (E s).ss)=true:=by rfl):V c fn K k S:=Zr6 _ hle hok h6 hqn (J s h)
end
structure CloOK (P:Program) (g:Nat) (caps:List AV) {α β:Type} (ar:α→List AV) (p:α→Option β) (rs:β→AV):Prop where
 b:(P.funcs[g]?).any (fun fn=>fn.body.isSome&&!(fn.name == "runtime.NumGoroutine"))=true
 pu:puL caps=true
 h:∀x r,p x=some r→Zy6 P g (ar x++caps) (rs r)
end NX
end Go.Proofs.YtgamgemlekpepaaGreat
/-
  The symbolic machine: own memory lent to a call, slices of slices, own elements. No statement of the seat is proved here.
-/
namespace Go.Proofs.YtgamgemlekpepaaGreat
namespace NX
open Go Go.RowKit
mutual
def AV.flat:AV→Bool
 | .ptr _ _ | .osl _ | .oel _ _ _ | .ocs _ _ _ _ | .elt _ _ | .sl _ _ | .clo _ _=>false
 | .agg l=>Ztc l
 | .tup l=>Ztc l
 | .any | .un | .tt | .ff | .bv _ | .iv _ | .kv _ _ | .sv _ | .nl | .nlp | .fn _=>true
def Ztc:List AV→Bool
 | []=>true
 | x::l=>Z4 x.flat (Ztc l)
end
attribute [go_sem] AV.flat Ztc
mutual
theorem Zuc {M M':Mem}:∀(x:AV) (v:Value),x.is M v→x.flat=true→x.is M' v
 | .any,_,_,_=>trivial
 | .un,_,k,_ | .tt,_,k,_ | .ff,_,k,_ | .bv _,_,k,_ | .iv _,_,k,_ | .kv _ _,_,k,_ | .sv _,_,k,_ | .nl,_,k,_ | .nlp,_,k,_ | .fn _,_,k,_=>k
 | .ptr _ _,_,_,h | .osl _,_,_,h | .oel _ _ _,_,_,h | .ocs _ _ _ _,_,_,h | .elt _ _,_,_,h | .sl _ _,_,_,h | .clo _ _,_,_,h=>by simp [AV.flat] at h
 | .agg l,_,⟨vs,h1,h2⟩,h=>⟨vs,h1,Zvc l vs h2 (by simpa [AV.flat] using h)⟩
 | .tup l,_,⟨vs,h1,h2⟩,h=>⟨vs,h1,Zvc l vs h2 (by simpa [AV.flat] using h)⟩
theorem Zvc {M M':Mem}:∀(l:List AV) (vs:List Value),AV.isL M l vs→Ztc l=true→AV.isL M' l vs
 | [],_,k,_=>k
 | x::l,_,⟨v,r,h1,h2,h3⟩,h=>by simp only [Ztc,Zz1] at h;exact ⟨v,r,h1,Zuc x v h2 h.1,Zvc l r h3 h.2⟩
end
def Zwc (S S':St):Prop:=∀(c:Ctx) M a w,RelT c M S a w→∃M',M.le M'∧RelT c M' S' a w
theorem Zwc.refl (S:St):Zwc S S:=fun _ M _ _ h=>⟨M,.refl M,h⟩
theorem Zwc.slice {S S1:St} (h:Zwc S S1) (j:Nat) {L:Sl} (hj:Zp S1.ss j=some L) (h6:Zj1 L.rows=true:=by first | rfl | simp [go_sem]):Zwc S (S1.sealS j L):=fun c M a w hT=>
 let ⟨_,h1,h2⟩:=h c M a w hT
 let ⟨M2,h3,h4,_⟩:=Zb8 j hj h6 h2
 ⟨M2,h1.trans h3,h4⟩
theorem Zwc.block {S S1:St} (h:Zwc S S1) (j:Nat) {B:Blk} (hj:Zp S1.bs j=some B) (hp:puL B.cells=true):Zwc S (S1.sealB j B.cells):=fun c M a w hT=>
 let ⟨_,h1,h2⟩:=h c M a w hT
 let ⟨M2,h3,h4⟩:=Zd8 j hj hp h2
 ⟨M2,h1.trans h3,h4⟩
section
variable {c:Ctx} {M:Mem} {S S':St} {a:Act} {w:World} {fn:Func} {K:AV→List (Option Blk)→List (Option Sl)→Prop} {k:List It}
theorem Zxc {f:Nat} {xs:List X} {args:List AV} {res:AV} (hs:Zwc S S') (E:Zy6 c.P f args res)
  (ha:AV.le.leL (Z71 S' xs) args) (hp:puL args=true) (h9:res.flat=true):Z67 c S (.call f xs) res S:=by
 intro ro ho M a w hT next Q hn
 obtain ⟨dst,op,ty,pos,af,gd⟩:=ro;dsimp only at ho;obtain ⟨cargs,argTypes,rfl,hd,rfl⟩:=Za7 ho;obtain ⟨M1,_,h6⟩:=hs c M a w hT;have hm:=Zu2 _ _ (Zh6 _ _ _ ha (Zo5 h6 cargs.toList)) hp;have hc:=E M1.H w _ h6.st.hle h6.st.pin.gl hm;have h8:(execOp a.eval ⟨dst,.call ⟨.value (.func f),cargs,argTypes⟩,ty,pos,af,gd⟩).run c.P w = .ok (.enter f (cargs.map a.eval)) w:=by have he:a.eval (.func f) = .func (.func f) #[] #[]:=rfl;generalize a.eval=ρ at *;simp [execOp,resolve,Deferred.ofValue,invoke,he,Z97 hd]
 unfold Oper.wp;rw [h8];show Calls c.P f (cargs.map a.eval) w _;have e1:(cargs.toList.map a.eval).toArray=cargs.map a.eval:=by apply Array.ext';simp
 rw [←e1];refine hc.mono ?_;rintro e w' ⟨v,H',rfl,hb,h1,h2,h3⟩;exact hn M w' v (.refl M) (hT.st.grow hb) (Zuc _ _ h3 h9)
theorem Zyc {f:Nat} {o:X} {xs:List X} {caps args:List AV} {res:AV} (hs:Zwc S S') (J:S'.x o = .clo f caps) (E:Zy6 c.P f args res)
  (hd:(c.P.funcs[f]?).any (fun fn=>fn.body.isSome&&!(fn.name == "runtime.NumGoroutine"))=true)
  (ha:AV.le.leL (Z71 S' xs++caps) args) (hp:puL args=true) (hw:res.flat=true):Z67 c S (.callv o xs) res S:=by
 intro ro h8 M a w hT next Q hn
 obtain ⟨dst,op,ty,pos,af,gd⟩:=ro;dsimp only at h8;obtain ⟨t,cargs,argTypes,rfl,rfl,rfl⟩:=Zb7 h8;obtain ⟨M1,_,h6⟩:=hs c M a w hT;have hx:=Z34 h6 (.tmp t);rw [show S'.x (cX (.tmp t)) = .clo f caps from J] at hx;obtain ⟨cv,hx1,hA⟩:=hx;have hm:=Zu2 _ _ (Zh6 _ _ _ ha (Zh2 (Zo5 h6 cargs.toList) hA)) hp;have hc:=E M1.H w _ h6.st.hle h6.st.pin.gl hm;have h9:(execOp a.eval ⟨dst,.call ⟨.value (.tmp t),cargs,argTypes⟩,ty,pos,af,gd⟩).run c.P w = .ok (.enter f (cargs.map a.eval++cv.toArray)) w:=by generalize a.eval=ρ at *;simp [execOp,resolve,Deferred.ofValue,invoke,hx1,Z97 hd]
 unfold Oper.wp;rw [h9];show Calls c.P f (cargs.map a.eval++cv.toArray) w _;have e1:(cargs.toList.map a.eval++cv).toArray=cargs.map a.eval++cv.toArray:=by apply Array.ext';simp
 rw [←e1];refine hc.mono ?_;rintro e w' ⟨v,H',rfl,hb,h1,h2,h3⟩;exact hn M w' v (.refl M) (hT.st.grow hb) (Zuc _ _ h3 hw)
theorem Zzc {d:Option Nat} {g:Option (Nat×Bool)} {f:Nat} {xs:List X} {l:List EOp} {args:List AV} {res:AV} (hg:gm S g) (hs:Zwc S S') (E:Zy6 c.P f args res)
  (ha:AV.le.leL (Z71 S' xs) args:=by first | exact Zqb _ | simp [go_sem]) (hp:puL args=true:=by first | rfl | simp [go_sem]) (h6:res.flat=true:=by rfl) (h:V c fn K (.ops l::k) (S.put d res)):V c fn K (.ops (⟨d,g,.call f xs⟩::l)::k) S:=
 Z77 hg (Zxc hs E ha hp h6) rfl h
section
variable {all:Array Oper} {ops:List EOp} {af:List (List Nat)} {Φ:St→Prop} {m:Nat} {ld:List Bool}
theorem Z0d (h6:all.toList.mapM (Ze c.P all)=some ops) {i f:Nat} {xs:List X} {args:List AV} {res:AV} (J:(Zy1 ops i).o = .call f xs) (hg:gm S (Zy1 ops i).g) (hs:Zwc S S') (E:Zy6 c.P f args res)
  (ha:AV.le.leL (Z71 S' xs) args:=by first | exact Zqb _ | simp [go_sem]) (hp:puL args=true:=by first | rfl | simp [go_sem]) (h8:res.flat=true:=by rfl) (h:G c all ops af Φ m (Zu1 ld i) (S.put (Zy1 ops i).d res)):GO c all ops af Φ m ld S i:=
 Zpa h6 hg (by rw [J];exact Zxc hs E ha hp h8) rfl (Z7a _ _) h
theorem Z1d (h6:all.toList.mapM (Ze c.P all)=some ops) {i f:Nat} {o:X} {xs:List X} {caps args:List AV} {res:AV} (J:(Zy1 ops i).o = .callv o xs) (hg:gm S (Zy1 ops i).g) (hs:Zwc S S') (hx:S'.x o = .clo f caps) (E:Zy6 c.P f args res)
  (h8:(c.P.funcs[f]?).any (fun fn=>fn.body.isSome&&!(fn.name == "runtime.NumGoroutine"))=true) (ha:AV.le.leL (Z71 S' xs++caps) args:=by first | exact Zqb _ | simp [go_sem]) (hp:puL args=true:=by first | rfl | simp [go_sem]) (h9:res.flat=true:=by rfl)
  (h:G c all ops af Φ m (Zu1 ld i) (S.put (Zy1 ops i).d res)):GO c all ops af Φ m ld S i:=
 Zpa h6 hg (by rw [J];exact Zyc hs hx E h8 ha hp h9) rfl (Z7a _ _) h
end
theorem Z2d {α β:Type} {d:Option Nat} {g:Option (Nat×Bool)} {f:Nat} {o:X} {xs:List X} {l:List EOp} {caps:List AV} {ar:α→List AV} {p:α→Option β} {rs:β→AV} (hg:gm S g) (J:S.x o = .clo f caps) (E:CloOK c.P f caps ar p rs) {x:α} {v:β} (hv:p x=some v)
  (ha:AV.le.leL (Z71 S xs) (ar x):=by first | exact Zqb _ | simp [go_sem]) (hp:puL (ar x)=true:=by first | rfl | simp [go_sem]) (h:V c fn K (.ops l::k) (S.put d (rs v))):V c fn K (.ops (⟨d,g,.callv o xs⟩::l)::k) S:=by
 have key:∀ {a b c:List AV},AV.le.leL a b→AV.le.leL (a++c) (b++c):=by
  intro a;induction a with
  | nil=>intro b c h;cases b with
    | nil=>exact Zqb c
    | cons _ _=>simp [AV.le.leL] at h
  | cons y a ih=>intro b c h;cases b with
    | nil=>simp [AV.le.leL] at h
    | cons z b=>exact ⟨h.1,ih h.2⟩
 have kp:∀ {a:List AV},puL a=true→puL (a++caps)=true:=by
  intro a;induction a with
  | nil=>intro _;exact E.pu
  | cons y a ih=>intro h;simp only [puL,Zz1,List.cons_append] at h ⊢;exact ⟨h.1,ih h.2⟩
 exact Zh7 hg J (E.h x v hv) E.b (key ha) (kp hp) h
end
def Z3d (n:Int):List AV:=[.iv n]
def Z4d (b:Bool):List AV:=[.bv b]
def Z5d (x:ByteArray):List AV:=[.sv x]
def Z6d (k:IntKind) (n:Int):List AV:=[.kv k n]
def Z7d {α:Type} (n:Nat) (f:α→List AV) (l:List α):List AV:=[.sl n (l.map f)]
def ln {α:Type} (f:α→List AV) (l:List α):Int:=((l.map f).length:Int)
theorem ln_eq {α:Type} (f:α→List AV) (l:List α):ln f l=l.length:=by simp [ln]
attribute [go_sem] Z3d Z4d Z5d Z6d Z7d ln
end NX
end Go.Proofs.YtgamgemlekpepaaGreat
