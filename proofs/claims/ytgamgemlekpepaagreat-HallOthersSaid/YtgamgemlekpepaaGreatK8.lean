/-
  The symbolic machine: what grows. No statement of the seat is proved here.
-/
import Derived.Test.YtgamgemlekpepaaGreatK7
namespace Go.Proofs.YtgamgemlekpepaaGreat
namespace NX
open Go Go.RowKit
def Src (w:World) (U:Nat) (u:Value) (m:Nat) (J:List Value):Prop:=J.length=m*U∧(u = .slice none 0 0∧m=0∨∃a c,u = .slice (some a) m c∧∀(j:Nat) x,J[j]?=some x→w.cell? (a.add j)=some x)
theorem Zya {P:Program} {w:World} {t ty e:TypeId} {i:TypeInfo} {z:Value} (hu:P.underlying t=some (.slice e)) (hi:P.info? e=some i) (hz:i.zero=some z) (hf:z.cells.size=i.size) (h0:0<i.size)
  {v:Value} {len:Nat} {xs:List Value} (h6:w.ownsRow 0 e i.size v len xs) {u:Value} {m:Nat} {J:List Value} (ho:Src w i.size u m J) (h1:∀x∈J,x.oneCell'=true)
  (h9:len+m≤maxLen) (hb:(len+m)*i.bytes≤140737488355328):
  ∃v' w',(Builtin.append_ #[t,t] ty #[v,u]).run P w = .ok v' w'∧w'.ownsRow 0 e i.size v' (len+m) (xs++J)∧w.grownBy w' v.ownBlock∧(v'.ownBlock=v.ownBlock∨∀g,v'.ownBlock=some g→w.heap.size≤g):=by
 obtain ⟨hl,hs⟩:=ho;rcases hs with ⟨rfl,rfl⟩ | ⟨a,c,rfl,hc⟩
 ·have hn:J=[]:=List.length_eq_zero_iff.1 (by simpa using hl);subst hn;refine ⟨v,w,run_append_owned_none w 0 t ty e i i.size hu hi v len xs h6,by simpa using h6,⟨rfl,rfl,rfl,Nat.le_refl _,fun _ _ _=>rfl⟩,.inl rfl⟩
 ·obtain ⟨v',w',r1,r2,r3,_⟩:=run_append_own (P:=P) w 0 t ty e i z i.size i.bytes hu hi hz rfl rfl hf h0 v len xs h6 a m c J hl hc h1 h9 hb (Nat.zero_le _);refine ⟨v',w',r1,r2,r3,?_⟩;rcases h6.2 with ⟨rfl,rfl⟩ | ⟨g,cap,cur,rfl,hC,hg,hD,hE,hA,hB⟩
  ·obtain ⟨v2,w2,q1,q2,_,_⟩:=run_append_own (P:=P) w w.heap.size t ty e i z i.size i.bytes hu hi hz rfl rfl hf h0 (.slice none 0 0) 0 xs ⟨h6.1,.inl ⟨rfl,rfl⟩⟩ a m c J hl hc h1 h9 hb (Nat.le_refl _);rw [r1] at q1;simp only [Result.ok.injEq] at q1;obtain ⟨rfl,rfl⟩:=q1;right;intro g hg;exact (World.ownsRow.lt q2 g hg).1
  ·by_cases h8:len+m≤cap
   ·have hw:len*i.size+J.length≤cur.size:=by rw [hl,hA,←Nat.add_mul];exact Nat.mul_le_mul_right _ h8
    have hr:=run_append_room (P:=P) w t ty e i hu hi g len cap cur hg a m c J hl hc h1 h8 hw;rw [r1] at hr;simp only [Result.ok.injEq] at hr;obtain ⟨rfl,_⟩:=hr;exact .inl rfl
   ·have hd:∀j u,xs[j]?=some u→w.cell? ((⟨g,0,none⟩:Addr).add j)=some u:=h6.cells (g:=g) rfl;have hr:=run_append_grow (P:=P) w t ty e i z hu hi hz ⟨g,0,none⟩ len cap xs h6.1 hd a m c J hl hc (by omega) (by simp only [maxLen] at h9;omega) (growslice_fits (by omega) hb);rw [r1] at hr;simp only [Result.ok.injEq] at hr;obtain ⟨rfl,_⟩:=hr;right;intro g' hg';simp [Value.ownBlock] at hg';omega
theorem Zza {M:Mem} {n:Nat}:∀ {a b:List (List AV)} {x y:List (List Value)},AV.isLL M n a x→AV.isLL M n b y→AV.isLL M n (a++b) (x++y)
 | [],_,_,_,h,k=>by simp [AV.isLL] at h;subst h;simpa using k
 | _::_,_,_,_,⟨v,r,h0,h1,h2,h3⟩,k=>by subst h0;exact ⟨v,r++_,rfl,h1,h2,Zza h3 k⟩
theorem Z0b {M:Mem} {n:Nat}:∀ {a:List (List AV)} {x:List (List Value)},AV.isLL M n a x→x.flatten.length=a.length*n
 | [],_,h=>by simp [AV.isLL] at h;subst h;simp
 | _::a,_,⟨v,r,h0,h1,h2,h3⟩=>by subst h0;have:=Z0b h3;rw [List.flatten_cons,List.length_append,this,h1,List.length_cons,Nat.add_mul,Nat.one_mul,Nat.add_comm]
section
variable {c:Ctx} {M:Mem} {S S':St} {a:Act} {w:World} {fn:Func} {K:AV→List (Option Blk)→List (Option Sl)→Prop} {k:List It}
theorem Z1b (J:RelT c M S a w) {x:AV} {u:Value} (hx:x.is M u) {n:Nat} {rows:List (List AV)} (h:Zp1 S n x=some rows):
  ∃vss,AV.isLL M.sl n rows vss∧Src w n u rows.length vss.flatten∧∀v∈vss.flatten,v.oneCell'=true:=by
 unfold Zp1 at h;split at h
 ·simp at h;subst h;simp only [AV.is] at hx;subst hx;exact ⟨[],rfl,⟨by simp,.inl ⟨rfl,rfl⟩⟩,by simp⟩
 ·rename_i m rows';split at h<;>simp at h;rename_i hm;simp at hm;subst h;subst hm;obtain ⟨ad,cp,rfl,⟨h1,h2⟩,h3⟩:=hx;by_cases hne:rows'=[]
  ·subst hne;refine ⟨[],rfl,⟨by simp,?_⟩,by simp⟩;cases ad with
   | none=>left;rw [h2 rfl];exact ⟨rfl,rfl⟩
   | some ad=>right;exact ⟨ad,cp,rfl,by simp⟩
  ·obtain ⟨ad,vss,rfl,g1,g2⟩:=h3 hne;refine ⟨vss,Zp2 (Zk2 M) _ _ _ g1,⟨Z0b g1,.inr ⟨ad,cp,rfl,fun j x hj=>?_⟩⟩,g2.2.1⟩;have h6:=g2.1;have:=Zq4 J.st g2 j x hj;obtain ⟨b,o,sp⟩:=ad;dsimp only at h6;subst h6;rw [Addr.add_lit];exact this
 ·rename_i j;split at h
  ·rename_i L hL;split at h<;>simp at h;rename_i hm;simp at hm;subst h;subst hm;obtain ⟨_,vss,g1,g2,g3,_⟩:=J.st.slc j L hL;refine ⟨vss,g1,⟨Z0b g1,?_⟩,g2⟩;rw [hx.2];rcases g3.2 with ⟨e1,e2⟩ | ⟨g,cp,cur,e1,_⟩
   ·left;exact ⟨e1,e2⟩
   ·right;refine ⟨⟨g,0,none⟩,cp,e1,fun j x hj=>?_⟩;exact World.ownsRow.cells g3 (g:=g) (by rw [e1];rfl) j x hj
  ·simp at h
 ·simp at h
theorem Z2b {P:Program} {w w':World} {t:TypeId} {p q:Operand} {ρ:Operand→Value} {v:Value} (d:Option Tmp) (ty:TypeId) (pos:String) (af:Array Edge) (J:Option (Nat×Bool))
  (h:(Builtin.append_ #[t,t] ty #[ρ p,ρ q]).run P w = .ok v w'):(execOp ρ ⟨d,.call ⟨.builtin .append, #[p,q], #[t,t]⟩,ty,pos,af,J⟩).run P w = .ok (.value v) w':=by
 simp [execOp,resolve,invoke,builtin,h]
theorem RelS.grown (h:RelS c M S.bs S.ss w) {w':World} {v J:Value} {L:Sl} {vss:List (List Value)} {ss:List (Option Sl)}
  (hf:ss.length=S.ss.length) (h6:∀j N,Zp ss j=some N→Zp S.ss j=some N∧∀g,v.ownBlock=some g→(M.σ j).ownBlock≠some g)
  (hv:v.ownBlock=none∨∀i B,Zp S.bs i=some B→v.ownBlock≠some (M.ρ i)) (hc:∀g,v.ownBlock=some g→Z03 c g∧M.H g=none)
  (hg:w.grownBy w' v.ownBlock) (h9:J.ownBlock=v.ownBlock∨∀g,J.ownBlock=some g→w.heap.size≤g)
  (h0:0<L.n) (h1:AV.isLL M.sl L.n L.rows vss) (h2:∀x∈vss.flatten,x.oneCell'=true) (h3:w'.ownsRow 0 L.T L.n J L.rows.length vss.flatten):
  RelS c (M.addS J) S.bs (ss++[some L]) w':=by
 have h8:∀k,k<w.heap.size→v.ownBlock≠some k→w'.heap[k]?=w.heap[k]?:=fun k hk hne=>hg.block k hk (fun e=>hne e.symm);have base:RelS c M S.bs ss w':=by
  refine ⟨h.nb,by rw [h.ns,hf],h.so,hg.os.trans h.os,hg.tape.trans h.tape,hg.output.trans h.output,Nat.le_trans h.size hg.size,?_,?_,h.hold,?_,?_,h.d1,?_,?_,h.pin⟩
  ·intro k hk hb;rw [h8 k (Nat.lt_of_lt_of_le hk h.size)]
   ·exact h.block k hk hb
   ·intro e;rcases (hc k e).1 with h | h
    ·omega
    ·exact hb h
  ·intro k o hk;rw [h8 k (Array.getElem?_eq_some_iff.1 (h.hle k o hk)).1]
   ·exact h.hle k o hk
   ·intro e;rw [(hc k e).2] at hk;simp at hk
  ·intro j B hj;obtain ⟨g1,g2,vs,g3,g4,g5⟩:=h.blk j B hj;refine ⟨g1,g2,vs,g3,?_,g5⟩;rw [h8 _ (h.blk_lt hj)]
   ·exact g4
   ·rcases hv with hv | hv
    ·rw [hv];simp
    ·exact hv j B hj
  ·intro j N hj;obtain ⟨hj,hne⟩:=h6 j N hj;obtain ⟨q0,us,q1,q2,q3,q4⟩:=h.slc j N hj;refine ⟨q0,us,q1,q2,World.ownsRow.kept q3 hg ?_,q4⟩;cases hn:v.ownBlock with
   | none=>
     cases ho:(M.σ j).ownBlock with
     | none=>exact .inl rfl
     | some g=>right;simp
   | some g=>right;exact hne g hn
  ·intro i j B N hi hj;exact h.d2 i j B N hi (h6 j N hj).1
  ·intro i j N O g hi hj e1 e2;exact h.d3 i j N O g (h6 i N hi).1 (h6 j O hj).1 e1 e2
 refine base.name L J vss h0 h1 h2 h3 ?_ ?_ ?_
 ·intro g hd;rcases h9 with e | e
  ·exact hc g (by rw [←e];exact hd)
  ·exact ⟨.inl (Nat.le_trans h.size (e g hd)),h.Hnew (e g hd)⟩
 ·intro i B hi e;rcases h9 with e1 | e1
  ·rw [e1] at e;rcases hv with hv | hv
   ·rw [hv] at e;simp at e
   ·exact hv i B hi e
  ·have:=e1 _ e;have:=h.blk_lt hi;omega
 ·intro j N g hj e1 e2;obtain ⟨hj,hne⟩:=h6 j N hj;rcases h9 with e3 | e3
  ·exact hne g (by rw [←e3];exact e1) e2
  ·have:=e3 g e1;have:=h.slc_lt hj e2;omega
def St.app (S:St) (j:Nat) (L:Sl):St:=⟨S.tm,S.bs,Zq S.ss j none++[some L]⟩
def St.app0 (S:St) (L:Sl):St:=⟨S.tm,S.bs,S.ss++[some L]⟩
attribute [go_sem] St.app St.app0
theorem Z3b {e n b j:Nat} {x y:X} {L:Sl} {rows:List (List AV)} (hx:S.x x = .osl j) (hj:Zp S.ss j=some L) (J:L.T=e) (U:L.n=n) (hy:Zp1 S n (S.x y)=some rows)
  (hb:(L.rows.length+rows.length)*b≤140737488355328) (hw:L.rows.length+rows.length≤9223372036854775807):Z77 c S (.app e n b x y) (.osl (Zw S.ss)) (S.app j ⟨e,n,L.rows++rows⟩):=by
 intro ro h9 M a w h6 next Q hd
 obtain ⟨dst,op,ty,pos,af,gd⟩:=ro;dsimp only at h9;obtain ⟨t,p,q,i,z,rfl,hu,hi,hz,h8,hf,ho,hA,rfl,rfl⟩:=Ze7 h9;subst J;subst U;have h1:=Z34 h6 p;have h2:=Z34 h6 q;rw [hx] at h1;obtain ⟨vss,g1,g2,g3⟩:=Z1b h6 h2 hy;have hS:=h6.st;obtain ⟨k0,us,k1,k2,k3,k4⟩:=hS.slc j L hj;have k3':=k3;rw [←h1.2] at k3';obtain ⟨v',w',r1,r2,r3,r4⟩:=Zya (ty:=ty) hu hi hz (by rw [ho,h8]) (by omega) (by rw [h8];exact k3') (by rw [h8];exact g2) g3 (by unfold maxLen;omega) (by rw [hf];exact hb);rw [h8] at r2;have hc:=Z2b dst ty pos af gd r1;unfold Oper.wp;rw [hc];rw [h1.2] at r3 r4;have hr:RelS c (M.addS v') S.bs (Zq S.ss j none++[some (⟨L.T,L.n,L.rows++rows⟩:Sl)]) w':=by
  refine RelS.grown (v:=M.σ j) (vss:=us++vss) hS (Z72 _ _ _) ?_ ?_ k4 r3 r4 k0 (Zza k1 g1) ?_ ?_
  ·intro i N hi;rw [Z62] at hi;split at hi
   ·simp at hi
   ·rename_i e;refine ⟨hi,fun g hg e2=>e ⟨?_,Z82 hj⟩⟩;exact hS.d3 i j N L g hi hj e2 hg
  ·right;intro i B hi;exact hS.d2 i j B L hi hj
  ·intro x hx;rw [List.flatten_append,List.mem_append] at hx;rcases hx with hx | hx
   ·exact k2 x hx
   ·exact g3 x hx
  ·rw [List.flatten_append,List.length_append];exact r2
 refine hd (M.addS v') w' v' (Mem.le_addS M v') hr ?_;rw [Z12,←hS.ns];exact ⟨Nat.lt_succ_self _,by simp [Mem.addS]⟩
theorem Z4b {e n b:Nat} {x y:X} {rows:List (List AV)} (hx:S.x x = .nl) (hy:Zp1 S n (S.x y)=some rows)
  (hb:rows.length*b≤140737488355328) (hw:rows.length≤9223372036854775807):Z77 c S (.app e n b x y) (.osl (Zw S.ss)) (S.app0 ⟨e,n,rows⟩):=by
 intro ro h9 M a w h6 next Q hd
 obtain ⟨dst,op,ty,pos,af,gd⟩:=ro;dsimp only at h9;obtain ⟨t,p,q,i,z,rfl,hu,hi,hz,h8,hf,hn,ho,rfl,rfl⟩:=Ze7 h9;have h1:=Z34 h6 p;have h2:=Z34 h6 q;rw [hx] at h1;simp only [AV.is] at h1;obtain ⟨vss,g1,g2,g3⟩:=Z1b h6 h2 hy;have hS:=h6.st;obtain ⟨v',w',r1,r2,r3,r4⟩:=Zya (w:=w) (ty:=ty) (v:=a.eval p) (len:=0) (xs:=[]) hu hi hz (by rw [hn,h8]) (by omega) (by rw [h1];exact World.ownsRow_nil _ _ _ _) (by rw [h8];exact g2) g3 (by unfold maxLen;omega) (by rw [hf,Nat.zero_add];exact hb);rw [h8,Nat.zero_add,List.nil_append] at r2;have hc:=Z2b dst ty pos af gd r1;unfold Oper.wp;rw [hc];rw [h1] at r3 r4;have hr:RelS c (M.addS v') S.bs (S.ss++[some (⟨e,n,rows⟩:Sl)]) w':=by
  refine RelS.grown (v:=.slice none 0 0) (vss:=vss) hS rfl ?_ (.inl rfl) ?_ r3 r4 ho g1 g3 r2
  ·intro i N hi;exact ⟨hi,fun g hg=>by simp [Value.ownBlock] at hg⟩
  ·intro g hg;simp [Value.ownBlock] at hg
 refine hd (M.addS v') w' v' (Mem.le_addS M v') hr ?_;rw [Z12,←hS.ns];exact ⟨Nat.lt_succ_self _,by simp [Mem.addS]⟩
theorem Z5b {d:Option Nat} {g:Option (Nat×Bool)} {l:List EOp} {e n b j:Nat} {x y:X} {L:Sl} {rows:List (List AV)} (hg:gm S g) (hx:S.x x = .osl j) (hj:Zp S.ss j=some L) (J:L.T=e) (U:L.n=n) (hy:Zp1 S n (S.x y)=some rows)
  (hb:(L.rows.length+rows.length)*b≤140737488355328) (h6:L.rows.length+rows.length≤9223372036854775807)
  (h:V c fn K (.ops l::k) ((S.app j ⟨e,n,L.rows++rows⟩).put d (.osl (Zw S.ss)))):V c fn K (.ops (⟨d,g,.app e n b x y⟩::l)::k) S:=
 Z87 hg (Z3b hx hj J U hy hb h6) rfl h
theorem Z6b {all:Array Oper} {ops:List EOp} {af:List (List Nat)} {Φ:St→Prop} {m:Nat} {ld:List Bool} (h6:all.toList.mapM (Ze c.P all)=some ops) {i e n b j:Nat} {x y:X} {L:Sl} {rows:List (List AV)} (J:(Zy1 ops i).o = .app e n b x y) (hg:gm S (Zy1 ops i).g)
  (hx:S.x x = .osl j) (hj:Zp S.ss j=some L) (U:L.T=e) (Y:L.n=n) (hy:Zp1 S n (S.x y)=some rows)
  (hb:(L.rows.length+rows.length)*b≤140737488355328) (h8:L.rows.length+rows.length≤9223372036854775807)
  (h:G c all ops af Φ m (Zu1 ld i) ((S.app j ⟨e,n,L.rows++rows⟩).put (Zy1 ops i).d (.osl (Zw S.ss)))):GO c all ops af Φ m ld S i:=
 Zqa (S1:=S.app j ⟨e,n,L.rows++rows⟩) h6 hg (by rw [J];exact Z3b hx hj U Y hy hb h8) rfl (by rw [J];exact fun _ _ _ _ h _ _=>h) h
end
mutual
theorem Z7b {M M':Mem} {p q:Nat} (hM:M'.pure=M.pure) (hb:M'.nb=M.nb) (hs:M'.ns=M.ns) (hρ:∀i,M'.ρ i=M.ρ i) (hσ:∀i,i≠q→M'.σ i=M.σ i) (hq:M'.σ q=M.σ p) (hqn:q<M.ns) (hH:M'.H=M.H):
  ∀(x:AV) (v:Value),x.is M v→(AV.ren p q x).is M' v
 | .any,_,_=>trivial
 | .un,_,k=>k
 | .tt,_,k=>k
 | .ff,_,k=>k
 | .bv _,_,k=>k
 | .iv _,_,k=>k
 | .kv _ _,_,k=>k
 | .sv _,_,k=>k
 | .nl,_,k=>k
 | .nlp,_,k=>k
 | .fn _,_,k=>k
 | .ptr i o,_,k=>⟨by rw [hb];exact k.1,by rw [hρ i];exact k.2⟩
 | .osl i,v,k=>by
   simp only [AV.ren];split
   ·rename_i h;simp at h;subst h;exact ⟨by rw [hs];exact hqn,by rw [hq];exact k.2⟩
   ·split
    ·trivial
    ·rename_i h;simp at h;exact ⟨by rw [hs];exact k.1,by rw [hσ i h];exact k.2⟩
 | .oel i a b,v,k=>by
   simp only [AV.ren];split
   ·rename_i h;simp at h;subst h;exact ⟨by rw [hs];exact hqn,by rw [hq];exact k.2⟩
   ·split
    ·trivial
    ·rename_i h;simp at h;exact ⟨by rw [hs];exact k.1,by rw [hσ i h];exact k.2⟩
 | .ocs i a n b,v,k=>by
   simp only [AV.ren];split
   ·rename_i h;simp at h;subst h;exact ⟨by rw [hs];exact hqn,by rw [hq];exact k.2⟩
   ·split
    ·trivial
    ·rename_i h;simp at h;exact ⟨by rw [hs];exact k.1,by rw [hσ i h];exact k.2⟩
 | .elt row o,_,⟨a,vs,h1,h2,h3⟩=>⟨a,vs,h1,by rw [hM];exact h2,by rw [hH];exact h3⟩
 | .sl n rows,_,⟨a,c,h1,h2,h3⟩=>⟨a,c,h1,h2,fun hne=>let ⟨ad,vss,g1,g2,g3⟩:=h3 hne;⟨ad,vss,g1,by rw [hM];exact g2,by rw [hH];exact g3⟩⟩
 | .agg l,_,⟨vs,h1,h2⟩=>⟨vs,h1,Z8b hM hb hs hρ hσ hq hqn hH l vs h2⟩
 | .tup l,_,⟨vs,h1,h2⟩=>⟨vs,h1,Z8b hM hb hs hρ hσ hq hqn hH l vs h2⟩
 | .clo _ l,_,⟨vs,h1,h2⟩=>⟨vs,h1,Z8b hM hb hs hρ hσ hq hqn hH l vs h2⟩
theorem Z8b {M M':Mem} {p q:Nat} (hM:M'.pure=M.pure) (hb:M'.nb=M.nb) (hs:M'.ns=M.ns) (hρ:∀i,M'.ρ i=M.ρ i) (hσ:∀i,i≠q→M'.σ i=M.σ i) (hq:M'.σ q=M.σ p) (hqn:q<M.ns) (hH:M'.H=M.H):
  ∀(l:List AV) (vs:List Value),AV.isL M l vs→AV.isL M' (Zn1 p q l) vs
 | [],_,k=>k
 | x::l,_,⟨v,vs,h1,h2,h3⟩=>⟨v,vs,h1,Z7b hM hb hs hρ hσ hq hqn hH x v h2,Z8b hM hb hs hρ hσ hq hqn hH l vs h3⟩
end
theorem Z9b (p q:Nat):∀(l:List AV) (t:Nat),Zn (Zn1 p q l) t=AV.ren p q (Zn l t)
 | [],_=>rfl
 | _::_,0=>rfl
 | _::l,t+1=>Z9b p q l t
theorem Zab (p q:Nat):∀(l:List AV),(Zn1 p q l).length=l.length
 | []=>rfl
 | _::l=>by simp [Zn1,Zab p q l]
section
variable {c:Ctx} {S:St} {fn:Func} {K:AV→List (Option Blk)→List (Option Sl)→Prop} {k:List It}
theorem Zbb (p q:Nat) {L:Sl} (hp:Zp S.ss p=some L) (hq:Z5 (q+1) (Zw S.ss)=true) (hn:(p==q)=false) (h:V c fn K k (S.renS p q L)) (hqn:Z5 c.nq q=true:=by rfl) (ho:Zk1 S.ss=true:=by first | rfl | simp [go_sem]):V c fn K k S:=by
 intro rk M a w hc hT;have hS:=hT.st;rw [Z02,Z12] at hq;have hne:p≠q:=by simpa using hn
 have hd:=Z82 hp
 let M':Mem:= {M with σ:=fun i=>if i=q then M.σ p else M.σ i}
 have hq':M'.σ q=M.σ p:=if_pos rfl;have hσ:∀i,i≠q→M'.σ i=M.σ i:=fun i hi=>if_neg hi;have hf:=Z7b (M:=M) (M':=M') (p:=p) (q:=q) rfl rfl rfl (fun _=>rfl) hσ hq' (by rw [hS.ns];omega) rfl;have h9:=Z8b (M:=M) (M':=M') (p:=p) (q:=q) rfl rfl rfl (fun _=>rfl) hσ hq' (by rw [hS.ns];omega) rfl;have live:∀i N,Zp (Zq (Zq S.ss p none) q (some L)) i=some N→(i=q∧N=L)∨(i≠q∧i≠p∧Zp S.ss i=some N):=by
  intro i N hi;rw [Z62,Z62,Z72] at hi;split at hi
  ·rename_i e;left;exact ⟨e.1,by simpa using hi.symm⟩
  ·rename_i e;split at hi
   ·simp at hi
   ·rename_i e2;right;exact ⟨fun x=>e ⟨x,by omega⟩,fun x=>e2 ⟨x,hd⟩,hi⟩
 have back:∀i N,Zp (Zq (Zq S.ss p none) q (some L)) i=some N→∃i',Zp S.ss i'=some N∧M'.σ i=M.σ i'∧(i=q→i'=p)∧(i≠q→i'=i∧i≠p):=by
  intro i N hi;rcases live i N hi with ⟨rfl,rfl⟩ | ⟨h1,h2,h3⟩
  ·exact ⟨p,hp,hq',fun _=>rfl,fun h=>absurd rfl h⟩
  ·exact ⟨i,h3,hσ i h1,fun h=>absurd h h1,fun _=>⟨rfl,h2⟩⟩
 refine h rk M' a w hc ⟨by simp only [St.renS,Zab];exact hT.len,fun t=>?_,hT.df,?_⟩
 ·simp only [St.renS,Z9b];exact hf _ _ (hT.tm t)
 refine ⟨by simp only [St.renS,Zx7];exact hS.nb,by simp only [St.renS,Z72];exact hS.ns,?_,hS.os,hS.tape,hS.output,hS.size,hS.block,hS.hle,hS.hold,?_,?_,?_,?_,?_,⟨hS.pin.nb,hS.pin.ρ,hS.pin.ns,fun j hj=>by rw [hσ j (by rw [Z02] at hqn;omega)];exact hS.pin.σ j hj,hS.pin.gl⟩⟩
 ·intro i hi;by_cases e:i=q
  ·rw [e,hq'];exact hS.so p (by rw [hS.ns];exact hd)
  ·rw [hσ i e];exact hS.so i hi
 ·intro i B hi;obtain ⟨C,hC,rfl⟩:=Zy7 _ _ _ _ hi;obtain ⟨g1,g2,vs,g3,g4,g5⟩:=hS.blk i C hC;exact ⟨g1,g2,vs,h9 _ _ g3,g4,g5⟩
 ·intro i N hi;obtain ⟨i',h1,h2,_⟩:=back i N hi;rw [h2];obtain ⟨q0,us,q1,q2,q3,q4⟩:=hS.slc i' N h1;exact ⟨q0,us,Zp2 (Zk2 M') _ _ _ (Zz7 (M:=M) _ _ q1 (Zb8 ho h1)),q2,q3,q4⟩
 ·intro i t B C hi ht e;obtain ⟨B',hB,_⟩:=Zy7 _ _ _ _ hi;obtain ⟨C',hC,_⟩:=Zy7 _ _ _ _ ht;exact hS.d1 i t B' C' hB hC e
 ·intro i t B N hi ht;obtain ⟨B',hB,_⟩:=Zy7 _ _ _ _ hi;obtain ⟨t',h1,h2,_⟩:=back t N ht;rw [h2];exact hS.d2 i t' B' N hB h1
 ·intro i t N O g hi ht e1 e2;obtain ⟨i',h1,h2,h3,h4⟩:=back i N hi;obtain ⟨t',k1,k2,k3,k4⟩:=back t O ht;rw [h2] at e1;rw [k2] at e2;have e:=hS.d3 i' t' N O g h1 k1 e1 e2;by_cases h6:i=q<;>by_cases h8:t=q
  ·rw [h6,h8]
  ·have:=h3 h6;have:=(k4 h8).1;have:=(k4 h8).2;omega
  ·have:=k3 h8;have:=(h4 h6).1;have:=(h4 h6).2;omega
  ·have:=(h4 h6).1;have:=(k4 h8).1;omega
theorem Zcb (t T n:Nat) (ht:Zn S.tm t = .nl) (J:Z5 1 n=true) (h:V c fn K k ⟨Zo S.tm t (.osl (Zw S.ss)),S.bs,S.ss++[some ⟨T,n,[]⟩]⟩):V c fn K k S:=by
 intro rk M a w hc hT;have hS:=hT.st;rw [Z02] at J;have hr:=hS.name ⟨T,n,[]⟩ (.slice none 0 0) [] J rfl (by simp) (World.ownsRow_nil w 0 T n) (fun g hg=>by simp [Value.ownBlock] at hg) (fun i B _=>by simp [Value.ownBlock]) (fun j N g _ hg=>by simp [Value.ownBlock] at hg);have hle:=Mem.le_addS M (.slice none 0 0);refine h rk _ a w hc ⟨by rw [Z32];exact hT.len,fun u=>?_,hT.df,hr⟩;rw [Z22];split
 ·rename_i e;have:=hT.tm t;rw [ht] at this;rw [e.1,Z12,←hS.ns];refine ⟨Nat.lt_succ_self _,?_⟩;simp only [Mem.addS,if_true];exact this
 ·exact Zn2 hle _ _ (hT.tm u)
theorem Zdb (j o T n:Nat) {B:Blk} (hj:Zp S.bs j=some B) (U:Zn B.cells o = .nl) (J:Z5 1 n=true) (h:V c fn K k ⟨S.tm,Zq S.bs j (some ⟨B.T,Zo B.cells o (.osl (Zw S.ss))⟩),S.ss++[some ⟨T,n,[]⟩]⟩):V c fn K k S:=by
 intro rk M a w hc hT;have hS:=hT.st;rw [Z02] at J;have hr:=hS.name ⟨T,n,[]⟩ (.slice none 0 0) [] J rfl (by simp) (World.ownsRow_nil w 0 T n) (fun g hg=>by simp [Value.ownBlock] at hg) (fun i B _=>by simp [Value.ownBlock]) (fun j N g _ hg=>by simp [Value.ownBlock] at hg);have hle:=Mem.le_addS M (.slice none 0 0);obtain ⟨m1,m2,vs,m3,m4,m5⟩:=hr.blk j B hj;have h8:AV.isL (M.addS (.slice none 0 0)) (Zo B.cells o (.osl (Zw S.ss))) vs:=by
  have hl:=Ze2 m3;refine Zg2 (by rw [Z32];exact hl.symm) fun i x v hx hv=>?_;have h6:i<B.cells.length:=by rw [←hl];exact (List.getElem?_eq_some_iff.1 hv).1
  have gl:∀(l:List AV) (i:Nat) (x:AV),l[i]?=some x→Zn l i=x:=by
   intro l;induction l with
   | nil=>intro i x h;simp at h
   | cons y l ih=>intro i x h;cases i with
     | zero=>simpa [Zn] using h
     | succ i=>exact ih i x (by simpa using h)
  have e1:=gl _ _ _ hx;rw [Z22] at e1;split at e1
  ·rename_i e;obtain ⟨rfl,_⟩:=e;subst e1;have h9:B.cells[i]?=some (.nl):=by rw [List.getElem?_eq_getElem h6];have:=gl _ _ _ (List.getElem?_eq_getElem h6);rw [←this,U]
   have:=Zf2 m3 i .nl v h9 hv;rw [Z12,←hS.ns];refine ⟨Nat.lt_succ_self _,?_⟩;simp only [Mem.addS,if_true];exact this
  ·have:=Z37 m3 i h6;rw [e1] at this;rw [List.getD_eq_getElem?_getD,hv] at this;exact this
 have h6:=Z82 hj;refine h rk _ a w hc ⟨hT.len,fun u=>Zn2 hle _ _ (hT.tm u),hT.df,?_⟩;have old:∀i C,Zp (Zq S.bs j (some (⟨B.T,Zo B.cells o (.osl (Zw S.ss))⟩:Blk))) i=some C→(i=j∧C=⟨B.T,Zo B.cells o (.osl (Zw S.ss))⟩)∨(i≠j∧Zp S.bs i=some C):=by
  intro i C hi;rw [Z62] at hi;split at hi
  ·rename_i e;left;exact ⟨e.1,by simpa using hi.symm⟩
  ·rename_i e;right;exact ⟨fun x=>e ⟨x,h6⟩,hi⟩
 have live:∀i C,Zp (Zq S.bs j (some (⟨B.T,Zo B.cells o (.osl (Zw S.ss))⟩:Blk))) i=some C→∃D,Zp S.bs i=some D:=by
  intro i C hi;rcases old i C hi with ⟨rfl,_⟩ | ⟨_,h⟩
  ·exact ⟨B,hj⟩
  ·exact ⟨_,h⟩
 refine ⟨by rw [Z72];exact hr.nb,hr.ns,hr.so,hr.os,hr.tape,hr.output,hr.size,hr.block,hr.hle,hr.hold,?_,hr.slc,?_,?_,hr.d3,hr.pin⟩
 ·intro i C hi;rcases old i C hi with ⟨rfl,rfl⟩ | ⟨_,h⟩
  ·exact ⟨m1,m2,vs,h8,m4,m5⟩
  ·exact hr.blk i C h
 ·intro i t C D hi ht e;obtain ⟨C',hC⟩:=live i C hi;obtain ⟨D',hD⟩:=live t D ht;exact hr.d1 i t C' D' hC hD e
 ·intro i t C N hi ht;obtain ⟨C',hC⟩:=live i C hi;exact hr.d2 i t C' N hC ht
end
end NX
end Go.Proofs.YtgamgemlekpepaaGreat
/-
  The symbolic machine: a slice that is built and sealed at once. No statement of the seat is proved here.
-/
namespace Go.Proofs.YtgamgemlekpepaaGreat
namespace NX
open Go Go.RowKit
section
variable {c:Ctx} {S:St}
mutual
theorem Zeb (j:Nat) (r:AV):∀(x:AV),x.pu=true→AV.subO j r x=x:=by
 intro x h;cases x<;>simp_all [AV.pu,AV.subO]
 all_goals exact Zfb j r _ h
theorem Zfb (j:Nat) (r:AV):∀(l:List AV),puL l=true→Zl1 j r l=l
 | [],_=>rfl
 | x::l,h=>by simp only [puL] at h;cases hx:x.pu<;>simp [hx,Z4] at h;simp [Zl1,Zeb j r x hx,Zfb j r l h]
end
theorem Zgb {T n len:Nat} {z:List AV} {ps:List (Nat×X)} {S1:St} {j:Nat} {L:Sl} {q:Prop} (he:ev S (.bsl T n len z ps)=some (.osl j,S1,q)) (hq:q) (hj:Zp S1.ss j=some L) (h6:Zj1 L.rows=true):
  Z77 c S (.bsl T n len z ps) (.sl L.n L.rows) ⟨S.tm,Zo1 (Zl1 j (.sl L.n L.rows)) S1.bs,Zq S1.ss j none⟩:=by
 intro ro h8 M a w hT next Q hn
 refine Z97 he hq ro h8 M a w hT next Q fun M' w' x h1 h2 h3=>?_
 obtain ⟨M2,k1,k2,k3⟩:=Zc8 (S:=⟨[],S1.bs,S1.ss⟩) (a:=a) j hj h6 ⟨by simp,fun t=>by cases t<;>trivial,hT.df,h2⟩;refine hn M2 w' x (h1.trans k1) k2.st ?_;simp only [AV.is] at h3;rw [h3.2];exact k3
theorem Zhb (f:List AV→List AV):∀(l:List (Option Blk)) (j:Nat),Zp (Zo1 f l) j=(Zp l j).map fun B=>⟨B.T,f B.cells⟩
 | [],j=>by simp [Zo1,Zp]
 | none::l,0=>by simp [Zo1,Zp]
 | some C::l,0=>by simp [Zo1,Zp]
 | none::l,j+1=>by simpa [Zo1,Zp] using Zhb f l j
 | some _::l,j+1=>by simpa [Zo1,Zp] using Zhb f l j
theorem Zib (j:Nat) (r:AV):∀(n:Nat) (l s:List AV),Zr n l=some s→Zr n (Zl1 j r l)=some (Zl1 j r s)
 | 0,l,s,h=>by simp [Zr] at h ⊢;subst h;rfl
 | n+1,[],s,h=>by simp [Zr] at h
 | n+1,x::l,s,h=>by simp only [Zr,Option.map_eq_some_iff] at h;obtain ⟨t,ht,rfl⟩:=h;simp [Zl1,Zr,Zib j r n l t ht]
theorem Zjb (j:Nat) (r:AV):∀(n:Nat) (l s:List AV),Zs n l=some s→Zs n (Zl1 j r l)=some (Zl1 j r s)
 | 0,l,s,h=>by simp [Zs] at h ⊢;subst h;rfl
 | n+1,[],s,h=>by simp [Zs] at h
 | n+1,x::l,s,h=>by simp only [Zs] at h;simp [Zl1,Zs,Zjb j r n l s h]
theorem Zkb (j:Nat) (r:AV) {l s:List AV} {o n:Nat} (h:Zt l o n=some s):Zt (Zl1 j r l) o n=some (Zl1 j r s):=by
 unfold Zt at h ⊢;split at h
 ·rename_i t ht;rw [Zjb j r o l t ht];exact Zib j r n t s h
 ·simp at h
theorem Zlb {T n len:Nat} {z:List AV} {ps:List (Nat×X)} (j:Nat) (r:AV) (ss:List (Option Sl)):Zp8 S ⟨S.tm,Zo1 (Zl1 j r) S.bs,ss⟩ (.bsl T n len z ps):=by
 intro i off m l h1 h2 _;simp only [Zd1] at h1 ⊢;rw [Zhb];split at h1
 ·rename_i B hB;rw [hB];have:=Zkb j r h1;rw [Zfb j r l h2] at this;exact this
 ·simp at h1
section
variable {all:Array Oper} {ops:List EOp} {af:List (List Nat)} {Φ:St→Prop} {m:Nat} {ld:List Bool}
theorem Zmb (h6:all.toList.mapM (Ze c.P all)=some ops) {i T n len:Nat} {z:List AV} {ps:List (Nat×X)} {L:Sl} {q:Prop} (J:(Zy1 ops i).o = .bsl T n len z ps) (hg:gm S (Zy1 ops i).g)
  (he:ev S (.bsl T n len z ps)=some (.osl (Zw S.ss),⟨S.tm,S.bs,S.ss++[some L]⟩,q)) (hq:q) (h:G c all ops af Φ m (Zu1 ld i) (St.put ⟨S.tm,Zo1 (Zl1 (Zw S.ss) (.sl L.n L.rows)) S.bs,S.ss++[none]⟩ (Zy1 ops i).d (.sl L.n L.rows))) (h8:Zj1 L.rows=true:=by first | rfl | simp [go_sem]):GO c all ops af Φ m ld S i:=by
 have hj:Zp (S.ss++[some L]) (Zw S.ss)=some L:=by rw [Z12,Z52,if_pos rfl]
 have hp:Zq (S.ss++[some L]) (Zw S.ss) none=S.ss++[none]:=by
  rw [Z12];generalize S.ss=l;induction l with
  | nil=>rfl
  | cons x l ih=>simp [Zq,ih]
 have hs:=Zgb (c:=c) he hq hj h8;dsimp only at hs;rw [hp] at hs;exact Zqa (S1:=⟨S.tm,Zo1 (Zl1 (Zw S.ss) (.sl L.n L.rows)) S.bs,S.ss++[none]⟩) h6 hg (by rw [J];exact hs) rfl (by rw [J];exact Zlb _ _ _) h
end
end
end NX
end Go.Proofs.YtgamgemlekpepaaGreat
/-
  The symbolic machine: all of it. No statement of the seat is proved here.
-/
namespace Go.Proofs.YtgamgemlekpepaaGreat
namespace NX
attribute [go_sem] St.init lun run efl gun ev1 ev St.x St.put Zn Zo AV.cells Zw Zx AV.one Zd1 Zp Zq Zt tf lgt eqA Zc1 Zb1 Za1 ngB Zr Zs Zu Zv Z31 Z51 Z41 shK mkI keq Z61 Z4 Z5 Zy Z71 Z81 Z91 mmI Zz Z01 Z11 Z21 AV.pu puL unw AV.ok okL okB Zh1 Zi1 Zj1 Zk1 St.ok Zr1 Zs1 AV.subO Zl1 AV.subB Zm1 Zo1 St.sealS St.sealB AV.ren Zn1 St.renS Zp1 AV.le.leL leT leB leS St.le List.cons_append List.nil_append Option.map gm gst tkv Zia Zja geO rd Zq8 Zi9 orb frB stB Zt1 bgf Zu1 Zv1 rdy Zw1 Zx1 Zy1 Za9
def leO:Option AV→AV→Prop
 | some x,y=>x.le y
 | none,_=>False
attribute [go_sem] leO
theorem Znb {P:Program} {w0:World} {H0:Frag} {f:Nat} {fn:Func} {body:EC} {rs:List ERes} {np nt:Nat} {k:List It} {S:St} {res:AV} (ok:FnOK P f fn body rs np nt)
  (h:leO (Zs1 S rs) res):V (Ctx.of P w0 H0) fn (fun x _ _=>x.le res) (.code .ret::k) S:=by
 cases hx:Zs1 S rs with
 | none=>rw [hx] at h;exact h.elim
 | some x=>rw [hx] at h;exact Zx6 ok.r hx h
theorem Zob {P:Program} {w0:World} {H0:Frag} {f:Nat} {fn:Func} {body:EC} {rs:List ERes} {np nt:Nat} {S:St} {res:AV} (ok:FnOK P f fn body rs np nt)
  (h:leO (Zs1 S rs) res):V (Ctx.of P w0 H0) fn (fun x _ _=>x.le res) [] S:=by
 cases hx:Zs1 S rs with
 | none=>rw [hx] at h;exact h.elim
 | some x=>rw [hx] at h;exact Zy6 ok.r hx h
mutual
theorem Zpb {nb ns:Nat}:∀x:AV,x.pu=true→x.ok nb ns=true
 | .any,_ | .un,_ | .tt,_ | .ff,_ | .bv _,_ | .iv _,_ | .kv _ _,_ | .sv _,_ | .nl,_ | .nlp,_ | .fn _,_ | .elt _ _,_ | .sl _ _,_=>rfl
 | .ptr _ _,h | .osl _,h | .oel _ _ _,h | .ocs _ _ _ _,h=>by simp [AV.pu] at h
 | .agg l,h=>Zqb l h
 | .tup l,h=>Zqb l h
 | .clo _ l,h=>Zqb l h
theorem Zqb {nb ns:Nat}:∀l:List AV,puL l=true→okL nb ns l=true
 | [],_=>rfl
 | x::l,h=>by simp only [puL,Zz1] at h;simp only [okL,Zz1];exact ⟨Zpb x h.1,Zqb l h.2⟩
end
mutual
theorem le_refl:∀x:AV,x.le x
 | .any | .un | .tt | .ff | .bv _ | .iv _ | .kv _ _ | .sv _ | .nl | .nlp | .fn _ | .ptr _ _ | .osl _ | .oel _ _ _ | .ocs _ _ _ _=>by simp [AV.le]
 | .elt row _=>⟨Zrb row,rfl⟩
 | .sl _ _=>⟨rfl,rfl,fun _ _ h=>h⟩
 | .agg l=>Zrb l
 | .tup l=>Zrb l
 | .clo _ l=>⟨rfl,Zrb l⟩
theorem Zrb:∀l:List AV,AV.le.leL l l
 | []=>trivial
 | x::l=>⟨le_refl x,Zrb l⟩
end
theorem Zsb (x:AV):x.le .any=True:=by simp [AV.le]
theorem Ztb (x:AV):x.le x=True:=by simp [le_refl]
theorem Zub (l:List AV):AV.le.leL l l=True:=by simp [Zrb]
theorem Zvb (a b:Int):AV.le (.iv a) (.iv b)=(a=b):=by simp [AV.le]
theorem Zwb (a b:Bool):AV.le (.bv a) (.bv b)=(a=b):=by simp [AV.le]
theorem Zxb (b:Bool):AV.le .tt (.bv b)=(b=true):=by simp [AV.le]
theorem Zyb (b:Bool):AV.le .ff (.bv b)=(b=false):=by simp [AV.le]
theorem Zzb (b:Bool):AV.le (.bv b) .tt=(b=true):=by simp [AV.le]
theorem Z0c (b:Bool):AV.le (.bv b) .ff=(b=false):=by simp [AV.le]
theorem Z1c (n:Nat) (d:List (List AV)):AV.le .nl (.sl n d)=(d=[]):=by simp [AV.le]
theorem Z2c (n m:Nat) (d e:List (List AV)):AV.le (.sl n d) (.sl m e)=(n=m∧Zg1 n d e):=by simp [AV.le]
theorem Z3c (a b:List AV):AV.le (.agg a) (.agg b)=AV.le.leL a b:=by simp [AV.le]
theorem Z4c (a b:List AV):AV.le (.tup a) (.tup b)=AV.le.leL a b:=by simp [AV.le]
theorem Z5c (a b:List AV) (i j:Nat):AV.le (.elt a i) (.elt b j)=(AV.le.leL a b∧i=j):=by simp [AV.le]
theorem Z6c (a b:List AV) (i j:Nat):AV.le (.clo i a) (.clo j b)=(i=j∧AV.le.leL a b):=by simp [AV.le]
theorem Z7c (n:Nat) (d:List (List AV)):Zg1 n d d=True:=by simp [Zg1]
attribute [go_sem] Zsb Ztb Zub Zvb Zwb Zxb Zyb Zzb Z0c Z1c Z2c Z3c Z4c Z5c Z6c Z7c
end NX
end Go.Proofs.YtgamgemlekpepaaGreat
