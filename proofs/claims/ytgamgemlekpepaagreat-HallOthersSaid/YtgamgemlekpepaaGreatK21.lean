/-
  A slice with a third bound to which is appended: names that hold values told ahead. No statement of the seat is proved here.
-/
import Derived.Test.YtgamgemlekpepaaGreatK20
namespace Go.Proofs.YtgamgemlekpepaaGreat
namespace NX
open Go Go.RowKit
theorem Ft {P:Program} {f:Nat} {fn:Func} {body:EC} {rs:List ERes} {np nt:Nat} (J:FnOK P f fn body rs np nt) {args tm:List AV} {bs bs':List (Option Blk)} {ss ss':List (Option Sl)} {v:AV}
 (h:∀w M,V (Ctx.lent P w M bs ss (Zw bs) (Zw ss)) fn (fun x b s=>St.le ⟨[x],b,s⟩ ⟨[v],bs',ss'⟩) [.code body] ⟨tm,bs,ss⟩) (he:args++lun nt=tm:=by dsimp only[lun,List.cons_append,List.nil_append]<;>exact rfl) (hn:args.length=np:=by exact rfl) (h1:Z5 (Zw bs) (Zw bs')=true:=by exact rfl) (h2:Z5 (Zw ss) (Zw ss')=true:=by exact rfl) (h3:St.ok ⟨[v],bs',ss'⟩=true:=by first | rfl | simp [go_sem]):Z1f P f args bs ss v bs' ss':=FT J (by rw [he];exact h) hn h1 h2 h3
section
variable {c:Ctx} {M:Mem} {bs:List (Option Blk)} {ss:List (Option Sl)} {S:St} {a:Act} {w:World} {fn:Func} {K:AV→List (Option Blk)→List (Option Sl)→Prop} {k:List It}
@[reducible] def Ctx.pins (c:Ctx) (nq:Nat) (ps:Nat→Value):Ctx:=⟨c.P,c.w0,c.H0,c.bor,c.np,c.pb,nq,ps⟩
theorem RelS.nameN (h:RelS c M bs ss w) (v:Value) (h1:v.oneCell'=true):RelS c (M.addS v) bs (ss++[none]) w:=by
 have hle:=Mem.le_addS M v;have hσ:∀j,j<M.ns→(M.addS v).σ j=M.σ j:=hle.σ;have old:∀j N,Zp (ss++[none]) j=some N→j<M.ns∧Zp ss j=some N:=by
  intro j N hj;rw [Z52] at hj;split at hj
  ·simp at hj
  ·exact ⟨by rw [h.ns];exact Z82 hj,hj⟩
 refine ⟨h.nb,by simp [Mem.addS,h.ns],?_,h.os,h.tape,h.output,h.size,h.block,h.hle,h.hold,?_,?_,h.d1,?_,?_,h.pin.le hle⟩
 ·intro j hj;simp only [Mem.addS] at hj ⊢;split
  ·exact h1
  ·exact h.so j (by omega)
 ·intro j B hj;obtain ⟨g1,g2,vs,g3,g4⟩:=h.blk j B hj;exact ⟨g1,g2,vs,Zo2 hle _ _ g3,g4⟩
 ·intro j N hj;obtain ⟨hl,hj⟩:=old j N hj;rw [hσ j hl];obtain ⟨q0,us,q1,q2,q3,q4⟩:=h.slc j N hj;exact ⟨q0,us,Zp2 hle.sl _ _ _ q1,q2,q3,q4⟩
 ·intro i j B N hi hj;obtain ⟨hl,hj⟩:=old j N hj;rw [hσ j hl];exact h.d2 i j B N hi hj
 ·intro i j N O g hi hj e1 e2;obtain ⟨hl,hi⟩:=old i N hi;obtain ⟨hl',hj⟩:=old j O hj;rw [hσ i hl] at e1;rw [hσ j hl'] at e2;exact h.d3 i j N O g hi hj e1 e2
theorem Zvj {ops:List EOp} {af nap:List (List Nat)} {j T n:Nat} {rows:List (List AV)} (m:Nat) (hj:Zp S.ss j=some ⟨T,n,rows⟩) (hr:0<rows.length)
  (h:∀all,HA c all ops af nap→∀ps g cap,ps j = .slice (some ⟨g,0,none⟩) rows.length cap→ps (Zw S.ss) = .slice (some ⟨g,0,none⟩) m m→G (c.pins (Zw S.ss+1) ps) all ops af (fun S'=>V c fn K k S') (Zw ops) (Za9 (Zw ops)) ⟨S.tm,S.bs,S.ss++[none]⟩)
  (J:c.P.follows .mixedOrders=true:=by kernel_rfl):V c fn K (.code (.drw ops af nap)::k) S:=
 Zq3 fun x hx rk M s w hr' hT=>by
  obtain ⟨id,all,rfl,h9,hs,hc,hd⟩:=Zo3 hx;have hn:all.size=Zw ops:=by rw [Z12,(Zu5 h9).1];simp
  obtain ⟨g,cap,_,_,e2,_⟩:=Zeg hT.st hj hr;have hw:j<M.ns:=by rw [hT.st.ns];exact Z82 hj
  let v0:Value:=.slice (some ⟨g,0,none⟩) m m
  have hle:=Mem.le_addS M v0;have hS:=hT.st.nameN v0 rfl;have ho:Pin (c.pins (Zw S.ss+1) (M.addS v0).σ) (M.addS v0):=⟨hS.pin.nb,hS.pin.ρ,by show Zw S.ss+1≤M.ns+1;rw [Z12,hT.st.ns];exact Nat.le_refl _,fun _ _=>rfl,hS.pin.gl⟩
  have hT':RelT (c.pins (Zw S.ss+1) (M.addS v0).σ) (M.addS v0) ⟨S.tm,S.bs,S.ss++[none]⟩ s w:=⟨hT.len,fun t=>Zn2 hle _ _ (hT.tm t),hT.df,hS.ctx rfl rfl (fun _=>Iff.rfl) ho⟩
  refine wp_region_any J ?_;rw [hn,←Zd9];have h0:=h all ⟨h9,hs,hc,hd⟩ (M.addS v0).σ g cap ((hle.σ j hw).trans e2) (by rw [Z12,←hT.st.ns];simp [Mem.addS,v0]);subst hc;refine Z99 (c:=c.pins (Zw S.ss+1) (M.addS v0).σ) h9 (fun S' hV M1 a w h6=>hV rk M1 a w hr' ?_) _ _ _ h0 (fun j w _ hj=>by rw [Zb9,Zc9] at hj;simp at hj) _ s _ hT'.drew;have h8:=h6.st.pin;refine ⟨h6.len,h6.tm,h6.df,h6.st.ctx rfl rfl (fun _=>Iff.rfl) ⟨h8.nb,h8.ρ,?_,?_,h8.gl⟩⟩
  ·have:=h8.ns;have h2:=hT.st.pin.ns;rw [hT.st.ns] at h2;refine Nat.le_trans h2 (Nat.le_trans ?_ this);show _≤Zw S.ss+1;rw [Z12];omega
  ·intro i hi;have h2:=hT.st.pin.ns;have h3:i<M.ns:=Nat.lt_of_lt_of_le hi h2;refine (h8.σ i ?_).trans ((hle.σ i h3).trans (hT.st.pin.σ i hi));show i<Zw S.ss+1;rw [Z12,←hT.st.ns];omega
theorem Zwj {j q g m T n cap:Nat} {rows:List (List AV)} {x xh xm:X} {h:Int} (hx:S.x x = .osl j) (hj:Zp S.ss j=some ⟨T,n,rows⟩) (hr:0<rows.length) (hc:c.ps j = .slice (some ⟨g,0,none⟩) rows.length cap) (hqn:q<c.nq) (hd:j<c.nq) (hf:q<S.ss.length)
  (hn:c.ps q = .slice (some ⟨g,0,none⟩) m m) (hh:S.x xh = .iv h) (hm:S.x xm = .iv h) (h0:0≤h) (h1:h.toNat=m) (h2:m≤rows.length):Z77 c S (.sl3 n x none (some xh) (some xm)) (.osl q) S:=by
 intro ro h8 M a w h6 next Q ho
 obtain ⟨dst,op,ty,pos,af,gd⟩:=ro;dsimp only at h8;obtain ⟨T',y,lo',hi',mx',e,rfl,hu,hs,rfl,q1,q2,q3⟩:=Zlg h8;cases lo' with
 | some lo'=>simp at q1
 | none=>
   cases hi' with
   | none=>simp at q2
   | some hi'=>
     simp only [Option.map_some,Option.some.injEq] at q2 q3;have hS:=h6.st;have k1:=Z34 h6 y;rw [hx] at k1;obtain ⟨g',cap',cur,vss,e2,e3,e4,e5,e6,v1,v2,e7⟩:=Zeg hS hj hr;have ej:=(hS.pin.σ j hd).trans hc;rw [e2] at ej;simp only [Value.slice.injEq,Option.some.injEq,Addr.mk.injEq,true_and,and_true] at ej;obtain ⟨rfl,rfl⟩:=ej;have b2:=Z34 h6 hi';have b3:=Z34 h6 mx';rw [q2,hh] at b2;rw [q3,hm] at b3;simp only [AV.is] at b2 b3;have k1':=k1.2.trans e2;have h9:(execOp a.eval ⟨dst,.slice T' y none (some hi') (some mx'),ty,pos,af,gd⟩).run c.P w = .ok (.value (.slice (some ⟨g',0,none⟩) m m)) w:=by
      have key:(Instr.sliceBounds true rows.length cap' none ((some hi').map a.eval) (some (a.eval mx'))).run c.P w = .ok (0,h.toNat,h.toNat) w:=by simp [Instr.sliceBounds,Instr.sliceBound,asIntOf,b2,b3,show 0≤h by omega,show h≤(cap':Int) by omega,Int.toNat_of_nonneg h0]
      generalize a.eval=ρ at *;simp only [Option.map_some] at key;simp [execOp,Instr.sliceAt,Instr.slice,k1',run_underlying hu,Z74 hs,key,h1,Addr.add_lit]
     unfold Oper.wp;rw [h9];have eq:=(hS.pin.σ q hqn).trans hn;refine ho M w _ (.refl M) hS ⟨?_,eq.symm⟩;rw [hS.ns];exact hf
def Zxj (w:World) (a:Addr) (l:List Value):Prop:=a.spot=none∧∃cs T fr,w.heap[a.block]?=some (.cells cs T fr)∧∀(k:Nat) v,l[k]?=some v→cs[a.off+k]?=some v
theorem Zyj {P:Program} {w:World} {t ty e:TypeId} {i:TypeInfo} {z:Value} (hu:P.underlying t=some (.slice e)) (hi:P.info? e=some i) (hz:i.zero=some z)
  {g m L cap n:Nat} {J:Array Value} {a:Addr} {vss:List (List Value)} (hf:i.size=n) (hg:w.heap[g]?=some (.cells J e (0,0))) (h9:J.size=cap*n) (Y:L≤cap) (hm:m<L) (hl:vss.length=L) (U:∀v∈vss,v.length=n)
  (ht:J.toList.take (L*n)=vss.flatten) (ha:L-(m+1)≠0→a=⟨g,(m+1)*n,none⟩) (c:Nat)
  (hw:L≤maxLen) (hb:L*i.bytes≤140737488355328):
  ∃v' w',(Builtin.append_ #[t,t] ty #[.slice (some ⟨g,0,none⟩) m m,.slice (some a) (L-(m+1)) c]).run P w = .ok v' w'∧Below w.heap.size w w'∧
   ∃ad cp,v' = .slice (some ad) (m+(L-(m+1))) cp∧m+(L-(m+1))≤cp∧(ad.block=g∨w.heap.size≤ad.block)∧Zxj w' ad (vss.take m++vss.drop (m+1)).flatten:=by
 subst hf;obtain ⟨t1, -⟩:=Zcg U m;obtain ⟨-,t2⟩:=Zcg U (m+1);have hc:vss.flatten.length=L*i.size:=by rw [←ht,List.length_take,Array.length_toList,h9];exact Nat.min_eq_left (Nat.mul_le_mul_right _ Y)
 have h8:∀(k:Nat) v,vss.flatten[k]?=some v→J[k]?=some v:=by
  intro k v hk;rw [←ht,List.getElem?_take] at hk;split at hk
  ·simpa using hk
  ·simp at hk
 have h6:∀(k:Nat) v,(vss.take m).flatten[k]?=some v→J[k]?=some v:=by
  intro k v hk;rw [t1,List.getElem?_take] at hk;split at hk
  ·exact h8 k v hk
  ·simp at hk
 have hA:g<w.heap.size:=(Array.getElem?_eq_some_iff.1 hg).1;by_cases hd:L-(m+1)=0
 ·have e1:vss.drop (m+1)=[]:=List.drop_eq_nil_of_le (by omega);have hr:=run_append_room (P:=P) w t ty e i hu hi g m m J hg a 0 c [] (by simp) (by simp) (by simp) (Nat.le_refl _) (by rw [h9,List.length_nil,Nat.add_zero];exact Nat.mul_le_mul_right _ (by omega));have e2:(J.toList.take (m*i.size)++[]++J.toList.drop (m*i.size+([]:List Value).length)).toArray=J:=by simp
  rw [e2] at hr;rw [hd];refine ⟨_,_,hr,⟨rfl,rfl,rfl,by simp [World.setRow],fun k _=>?_⟩,⟨g,0,none⟩,m,rfl,Nat.le_refl _,.inl rfl,rfl,J,e,(0,0),?_,fun k v hk=>?_⟩
  ·rw [Z23];split
   ·rename_i e;subst e;rw [hg];rfl
   ·rfl
  ·rw [Z23,if_pos rfl,hg];rfl
  ·rw [e1,List.append_nil] at hk;simpa using h6 k v hk
 ·rw [ha hd];have ho:∀(j:Nat) v,(vss.take m).flatten[j]?=some v→w.cell? ((⟨g,0,none⟩:Addr).add j)=some v:=fun j v hj=>by have:=h6 j v hj;simp [World.cell?,Addr.add_lit,hg,this]
  have hn':∀(j:Nat) v,(vss.drop (m+1)).flatten[j]?=some v→w.cell? ((⟨g,(m+1)*i.size,none⟩:Addr).add j)=some v:=fun j v hj=>by rw [t2,List.getElem?_drop] at hj;have:=h8 _ v hj;simp [World.cell?,Addr.add_lit,hg,this]
  have hr:=run_append_grow (P:=P) w t ty e i z hu hi hz ⟨g,0,none⟩ m m (vss.take m).flatten (by rw [t1,List.length_take,hc];exact Nat.min_eq_left (Nat.mul_le_mul_right _ (by omega))) ho ⟨g,(m+1)*i.size,none⟩ (L-(m+1)) c (vss.drop (m+1)).flatten
   (by rw [t2,List.length_drop,hc,←Nat.sub_mul]) hn' (by omega) (by simp only [maxLen] at hw;omega) (growslice_fits (by omega) (Nat.le_trans (Nat.mul_le_mul_right _ (by omega)) hb))
  refine ⟨_,_,hr,⟨rfl,rfl,rfl,by simp,fun k hk=>?_⟩,⟨w.heap.size,0,none⟩,_,rfl,?_,.inr (Nat.le_refl _),rfl,(vss.take m).flatten.toArray++(vss.drop (m+1)).flatten.toArray++Builtin.zeroCells z.cells (grownCap w (m+(L-(m+1))) m e-(m+(L-(m+1)))),e,(0,0),?_,fun k v hk=>?_⟩
  ·show (w.heap.push _)[k]?=w.heap[k]?;rw [Array.getElem?_push,if_neg (Nat.ne_of_lt hk)]
  ·exact grownCap_ge _ _ _ _
  ·show (w.heap.push _)[w.heap.size]?=_;rw [Array.getElem?_push,if_pos rfl]
  ·rw [List.flatten_append] at hk;simp only [Nat.zero_add];rw [Array.getElem?_append_left]
   ·simpa using hk
   ·have:=(List.getElem?_eq_some_iff.1 hk).1;simpa using this
theorem RelS.freeze (h:RelS c M bs ss w) {j:Nat} {L:Sl} (hj:Zp ss j=some L) {g:Nat} (hg:(M.σ j).ownBlock=some g) {w':World} (J:Below w.heap.size w w'):
  M.le ⟨M.ρ,M.σ,M.nb,M.ns,fun k=>if k=g∨w.heap.size≤k then w'.heap[k]? else M.H k⟩∧RelS c ⟨M.ρ,M.σ,M.nb,M.ns,fun k=>if k=g∨w.heap.size≤k then w'.heap[k]? else M.H k⟩ bs (Zq ss j none) w':=by
 obtain ⟨_,_,_,_,_,k4⟩:=h.slc j L hj;have h6:=k4 g hg;have old:∀i N,Zp (Zq ss j none) i=some N→i≠j∧Zp ss i=some N:=by
  intro i N hi;rw [Z62] at hi;split at hi
  ·simp at hi
  ·rename_i e;exact ⟨fun e'=>e ⟨e',Z82 hj⟩,hi⟩
 have hle:M.le ⟨M.ρ,M.σ,M.nb,M.ns,fun k=>if k=g∨w.heap.size≤k then w'.heap[k]? else M.H k⟩:=by
  refine ⟨Nat.le_refl _,Nat.le_refl _,fun _ _=>rfl,fun _ _=>rfl,fun k o hk=>?_⟩;dsimp only;rw [if_neg]
  ·exact hk
  ·rintro (rfl | e)
   ·rw [h6.2] at hk;simp at hk
   ·have:=(Array.getElem?_eq_some_iff.1 (h.hle k o hk)).1;omega
 have no:∀k,k≠g→k<w.heap.size→(if k=g∨w.heap.size≤k then w'.heap[k]? else M.H k)=M.H k:=fun k h1 h2=>if_neg (by rintro (e | e);exact h1 e;omega);refine ⟨hle,h.nb,by rw [Z72];exact h.ns,h.so,J.os.trans h.os,J.tape.trans h.tape,J.output.trans h.output,Nat.le_trans h.size J.size,fun k hk hn=>(J.block k (Nat.lt_of_lt_of_le hk h.size)).trans (h.block k hk hn),?_,?_,?_,?_,h.d1,?_,?_,h.pin.le hle⟩
 ·intro k o hk;dsimp only at hk;split at hk
  ·exact hk
  ·have:=h.hle k o hk;exact (J.block k (Array.getElem?_eq_some_iff.1 this).1).trans this
 ·intro k hk hn;dsimp only;rw [no k ?_ (Nat.lt_of_lt_of_le hk h.size)]
  ·exact h.hold k hk hn
  ·rintro rfl;rcases h6.1 with e | e
   ·omega
   ·exact hn e
 ·intro i B hi;obtain ⟨g1,g2,vs,g3,g4,g5⟩:=h.blk i B hi;refine ⟨g1,?_,vs,Zo2 hle _ _ g3,(J.block _ (h.blk_lt hi)).trans g4,g5⟩;dsimp only;rw [no _ (fun e=>h.d2 i j B L hi hj (by rw [hg,e])) (h.blk_lt hi)];exact g2
 ·intro i N hi;obtain ⟨hne,hi⟩:=old i N hi;obtain ⟨g0,vss,g1,g2,g3,g4⟩:=h.slc i N hi;refine ⟨g0,vss,Zp2 hle.sl _ _ _ g1,g2,Z5f g3 fun k hk=>J.block k (h.slc_lt hi hk),fun k hk=>⟨(g4 k hk).1,?_⟩⟩;dsimp only;rw [no k (fun e=>hne (h.d3 i j N L k hi hj hk (by rw [hg,e]))) (h.slc_lt hi hk)];exact (g4 k hk).2
 ·intro i k B N hi hk;exact h.d2 i k B N hi (old k N hk).2
 ·intro i k N O b hi hk;exact h.d3 i k N O b (old i N hi).2 (old k O hk).2
theorem Zzj {M:Mem} {n:Nat} {rows:List (List AV)} {vss:List (List Value)} (h:AV.isLL M n rows vss) (m:Nat):AV.isLL M n (rows.take m++rows.drop (m+1)) (vss.take m++vss.drop (m+1)):=by obtain ⟨h1,_⟩:=Zhd h;have a:=Zgd h 0 m;have b:=Zgd h (m+1) rows.length;rw [List.take_length] at b;rw [←h1,List.take_length] at b;exact Zza (by simpa using a) b
theorem Z0k {e n b j q g m cap:Nat} {x y:X} {rows:List (List AV)} (hx:S.x x = .osl q) (hqn:q<c.nq) (ho:c.ps q = .slice (some ⟨g,0,none⟩) m m) (hj:Zp S.ss j=some ⟨e,n,rows⟩) (hw:j<c.nq) (hA:c.ps j = .slice (some ⟨g,0,none⟩) rows.length cap)
  (hm:m<rows.length) (hy:S.x y = .ocs j (m+1) n (rows.length-(m+1))) (hp:Zj1 rows=true) (hb:rows.length*b≤140737488355328) (hJ:rows.length≤9223372036854775807):
  Z77 c S (.app e n b x y) (.sl n (rows.take m++rows.drop (m+1))) ⟨S.tm,S.bs,Zq S.ss j none⟩:=by
 intro ro h8 M a w h6 next Q hC
 obtain ⟨dst,op,ty,pos,af,gd⟩:=ro;dsimp only at h8;obtain ⟨t,p,q',i,z,rfl,hu,hi,hz,hD,hE,hK,hL,rfl,rfl⟩:=Ze7 h8;have h1:=Z34 h6 p;have h2:=Z34 h6 q';rw [hx] at h1;rw [hy] at h2;have hS:=h6.st;obtain ⟨g',cap',cur,vss,e2,e3,e4,e5,e6,v1,v2,e7⟩:=Zeg hS hj (by omega);have ej:=(hS.pin.σ j hw).trans hA;rw [e2] at ej;simp only [Value.slice.injEq,Option.some.injEq,Addr.mk.injEq,true_and,and_true] at ej;obtain ⟨rfl,rfl⟩:=ej;have ex:a.eval p = .slice (some ⟨g',0,none⟩) m m:=h1.2.trans ((hS.pin.σ q hqn).trans ho);obtain ⟨_,gg,len,cc,f1,f2⟩:=h2;rw [e2] at f1;simp only [Value.slice.injEq,Option.some.injEq,Addr.mk.injEq,and_true] at f1;obtain ⟨rfl,rfl,rfl⟩:=f1;have h9:AV.isLL M.pure n rows vss:=Zz7 _ _ v1 hp;obtain ⟨l1,l2⟩:=Zhd h9;obtain ⟨v',w',r1,hB,ad,cp,rfl,hG,hI,hf⟩:=Zyj (ty:=ty) hu hi hz (a:=⟨g',if cap'=m+1 then 0 else (m+1)*n,none⟩) hD e3 e6 e4 hm l1 l2 e7 (fun hd=>by rw [if_neg (by omega)]) (cap'-(m+1)) (by unfold maxLen;omega) (by rw [hE];exact hb);rw [←ex,←f2] at r1;have hn:=Z2b dst ty pos af gd r1;unfold Oper.wp;rw [hn];obtain ⟨hle,hS'⟩:=hS.freeze hj (g:=g') (by rw [e2];rfl) hB;refine hC _ w' _ hle hS' ⟨some ad,cp,?_,⟨?_,fun h=>by simp at h⟩,fun _=>⟨ad,_,rfl,Zzj (Zp2 hle.pure _ _ _ h9) m,hf.1,?_,?_⟩⟩
 ·rw [List.length_append,List.length_take,List.length_drop,Nat.min_eq_left (by omega)]
 ·rw [List.length_append,List.length_take,List.length_drop,Nat.min_eq_left (by omega)];exact hG
 ·intro v hv;rw [List.mem_flatten] at hv;obtain ⟨l,hl,hv⟩:=hv;refine v2 v (List.mem_flatten.2 ⟨l,?_,hv⟩);rw [List.mem_append] at hl;exact hl.elim List.mem_of_mem_take List.mem_of_mem_drop
 ·obtain ⟨_,cs,T,fr,hc,hk⟩:=hf;refine ⟨cs,T,fr,?_,hk⟩;dsimp only;rw [if_pos hI];exact hc
end
noncomputable def Z1k {α:Type} (b:Nat) (l:List α) (i:Int):Option (List α):=if 0≤i∧i<l.length∧l.length*b≤140737488355328∧l.length<9223372036854775807 then some (l.take i.toNat++l.drop (i.toNat+1)) else none
theorem Z2k {α:Type} {b:Nat} {l v:List α} {i:Int} (h:Z1k b l i=some v):0≤i∧i<l.length∧l.length*b≤140737488355328∧l.length<9223372036854775807∧v=l.take i.toNat++l.drop (i.toNat+1):=by
 unfold Z1k at h;split at h
 ·rename_i e;exact ⟨e.1,e.2.1,e.2.2.1,e.2.2.2,by simpa using h.symm⟩
 ·simp at h
section
variable {c:Ctx} {S:St} {fn:Func} {K:AV→List (Option Blk)→List (Option Sl)→Prop} {k:List It} {all:Array Oper} {ops:List EOp} {af nap:List (List Nat)} {Φ:St→Prop} {m':Nat} {ld:List Bool} {α:Type} {l v:List α} {b i j q g cap n T:Nat} {z:Int} {f:α→List AV} {x y xh xm:X}
theorem V_d3 {ops:List EOp} (f:α→List AV) (hv:Z1k b l z=some v) (hj:Zp S.ss j=some ⟨T,n,l.map f⟩)
  (h:∀all,HA c all ops af nap→∀ps g cap,ps j = .slice (some ⟨g,0,none⟩) l.length cap→ps (Zw S.ss) = .slice (some ⟨g,0,none⟩) z.toNat z.toNat→G (c.pins (Zw S.ss+1) ps) all ops af (fun S'=>V c fn K k S') (Zw ops) (Za9 (Zw ops)) ⟨S.tm,S.bs,S.ss++[none]⟩)
  (J:c.P.follows .mixedOrders=true:=by kernel_rfl):V c fn K (.code (.drw ops af nap)::k) S:=
 have d:=Z2k hv
 Zvj z.toNat hj (by rw [List.length_map];omega) (fun all H ps g cap h1 h2=>h all H ps g cap (by rw [h1,List.length_map]) h2) J
theorem G_d3a (hv:Z1k b l z=some v) (h9:all.toList.mapM (Ze c.P all)=some ops) (hc:c.ps j = .slice (some ⟨g,0,none⟩) l.length cap) (hd:c.ps q = .slice (some ⟨g,0,none⟩) z.toNat z.toNat) (h:G c all ops af Φ m' (Zu1 ld i) (S.put (Zy1 ops i).d (.osl q)))
  (J:(Zy1 ops i).o = .sl3 n x none (some xh) (some xm):=by exact rfl) (hg:gm S (Zy1 ops i).g:=by trivial) (hx:S.x x = .osl j:=by exact rfl) (hj:Zp S.ss j=some ⟨T,n,l.map f⟩:=by exact rfl) (hh:S.x xh = .iv z:=by exact rfl) (hm:S.x xm = .iv z:=by exact rfl)
  (hqn:Z5 (q+1) c.nq=true:=by exact rfl) (h8:Z5 (j+1) c.nq=true:=by exact rfl) (h6:Z5 (q+1) (Zw S.ss)=true:=by exact rfl):GO c all ops af Φ m' ld S i:=by
 have d:=Z2k hv;rw [Z02] at hqn h8 h6;rw [Z12] at h6;exact Zqa h9 hg (by rw [J];exact Zwj hx hj (by rw [List.length_map];omega) (by rw [List.length_map];exact hc) hqn h8 h6 hd hh hm d.1 rfl (by rw [List.length_map];omega)) rfl (Z8a _ _) h
theorem G_d3b (hv:Z1k b l z=some v) (h6:all.toList.mapM (Ze c.P all)=some ops) (h:G c all ops af Φ m' (Zu1 ld i) (S.put (Zy1 ops i).d (.ocs j (z.toNat+1) n (l.length-(z.toNat+1)))))
  (J:(Zy1 ops i).o = .slice n x (some xh) none:=by exact rfl) (hg:gm S (Zy1 ops i).g:=by trivial) (hx:S.x x = .osl j:=by exact rfl) (hj:Zp S.ss j=some ⟨T,n,l.map f⟩:=by exact rfl) (hh:S.x xh = .iv (wr (z+1)):=by exact rfl):GO c all ops af Φ m' ld S i:=by
 have d:=Z2k hv;have e:wr (z+1)=z+1:=Z35 (by unfold InR;omega);have e2:(z+1).toNat=z.toNat+1:=by omega
 refine Zqa h6 hg (S1:=S) ?_ rfl (Z8a _ _) h;rw [J,←e2];have hl:(l.map f).length=l.length:=List.length_map ..;have:=Zig (c:=c) (S:=S) (n:=n) (lo:=some xh) (hi:=none) (l:=z+1) (h:=(l.length:Int)) hx hj (by rw [hl];omega) (by simp [bnd,hh,e]) (by simp [bnd,hl]) (by omega) (by omega) (by rw [hl];omega);simpa using this
theorem G_d3c {e:Nat} (f:α→List AV) (hv:Z1k b l z=some v) (h8:all.toList.mapM (Ze c.P all)=some ops) (h9:c.ps j = .slice (some ⟨g,0,none⟩) l.length cap) (hc:c.ps q = .slice (some ⟨g,0,none⟩) z.toNat z.toNat) (h:G c all ops af Φ m' (Zu1 ld i) ((⟨S.tm,S.bs,Zq S.ss j none⟩:St).put (Zy1 ops i).d (.sl n (v.map f))))
  (J:(Zy1 ops i).o = .app e n b x y:=by exact rfl) (hg:gm S (Zy1 ops i).g:=by trivial) (hx:S.x x = .osl q:=by exact rfl) (hj:Zp S.ss j=some ⟨e,n,l.map f⟩:=by exact rfl) (hy:S.x y = .ocs j (z.toNat+1) n (l.length-(z.toNat+1)):=by exact rfl)
  (hqn:Z5 (q+1) c.nq=true:=by exact rfl) (h6:Z5 (j+1) c.nq=true:=by exact rfl) (hd:Zoh af i ops 0=true:=by kernel_rfl) (hp:Zj1 (l.map f)=true:=by first | rfl | simp [go_sem]):GO c all ops af Φ m' ld S i:=by
 have d:=Z2k hv;rw [Z02] at hqn h6;have hl:(l.map f).length=l.length:=List.length_map ..;refine Zra (S1:=⟨S.tm,S.bs,Zq S.ss j none⟩) h8 hg ?_ rfl (Zqh hd) h;rw [J,d.2.2.2.2,List.map_append,List.map_take,List.map_drop];exact Z0k hx hqn hc hj h6 (by rw [hl];exact h9) (by rw [hl];omega) (by rw [hl];exact hy) hp (by rw [hl];exact d.2.2.1) (by rw [hl];omega)
end
section
variable {c:Ctx} {all:Array Oper} {ops:List EOp} {af nap:List (List Nat)} {Φ:St→Prop} {m:Nat} {ld ld':List Bool} {S S' S1:St} {i f:Nat} {α β:Type} {xs:List X} {args:List AV} {M:Option α} {F:α→Option β} {r:β} {res:α→AV} {Sx:α→St}
theorem RSo {l':List α} {z:Int} {y:α} {j T n off q:Nat} {x v:X} {cs0:List AV} {f:α→List AV} (cs:List AV) (y':α) (h:G c all ops af Φ m ld' S') (H:HA c all ops af nap:=by assumption) (hr:rdy ld af 0=[i]:=by exact rfl) (ho:(Zy1 ops i).o = .store q x v:=by exact rfl) (hg:gm S (Zy1 ops i).g:=by trivial) (hx:S.x x = .oel j (z.toNat*n) off:=by exact rfl) (hj:Zp S.ss j=some ⟨T,n,l'.map f⟩:=by exact rfl)
  (hv:at_ l' z=some y:=by first | assumption | exact Zfe (by assumption)) (h6:(S.x v).cells=some cs0:=by exact rfl) (h8:AV.le.leL cs0 cs:=by first | exact Zrb _ | (simp [go_sem];done)) (hm:Zw cs=q:=by rfl) (h1:Zx cs=true:=by rfl) (hp:puL cs=true:=by rfl) (hl:Zv (f y) off cs=some (f y'):=by rfl)
  (hS:(Zu1 ld i,(⟨S.tm,S.bs,Zq S.ss j (some ⟨T,n,(l'.set z.toNat y').map f⟩)⟩:St).put (Zy1 ops i).d .un)=(ld',S'):=by dsimp only[go_sem]<;>exact rfl):G c all ops af Φ (m+1) ld S:=by
 simp only [Prod.mk.injEq] at hS;obtain ⟨rfl,rfl⟩:=hS;exact Zna i hr (Zvf H.1 cs f hv ho hg hx hj h6 h8 hm h1 hp hl h)
theorem RSs {l':List α} {z:Int} {y:α} {j T n off q:Nat} {x v:X} {cs0:List AV} {f:α→List AV} (cs:List AV) (y':α) (h:G c all ops af Φ m ld' S') (H:HA c all ops af nap:=by assumption) (hr:rdy ld af 0=[i]:=by exact rfl) (ho:(Zy1 ops i).o = .store q x v:=by exact rfl) (hg:gm S (Zy1 ops i).g:=by trivial) (hx:S.x x = .oel j (z.toNat*n) off:=by exact rfl) (hj:Zp S.ss j=some ⟨T,n,(l'.set z.toNat y).map f⟩:=by exact rfl)
  (hv:at_ (l'.set z.toNat y) z=some y:=by exact Zfe (by assumption)) (h6:(S.x v).cells=some cs0:=by exact rfl) (h8:AV.le.leL cs0 cs:=by first | exact Zrb _ | (simp [go_sem];done)) (hm:Zw cs=q:=by rfl) (h1:Zx cs=true:=by rfl) (hp:puL cs=true:=by rfl) (hl:Zv (f y) off cs=some (f y'):=by rfl)
  (hS:(Zu1 ld i,(⟨S.tm,S.bs,Zq S.ss j (some ⟨T,n,(l'.set z.toNat y').map f⟩)⟩:St).put (Zy1 ops i).d .un)=(ld',S'):=by dsimp only[go_sem]<;>exact rfl):G c all ops af Φ (m+1) ld S:=by
 simp only [Prod.mk.injEq] at hS;obtain ⟨rfl,rfl⟩:=hS;exact Zna i hr (Zwf H.1 cs f hv ho hg hx hj h6 h8 hm h1 hp hl h)
theorem RB (h:M.bind F=some r) (J:∀ {x},M=some x→Zz6 c.P f args (res x)) (U:∀x,M=some x→F x=some r→G c all ops af Φ m ld' (Sx x)) (H:HA c all ops af nap:=by assumption) (hr:rdy ld af 0=[i]:=by exact rfl) (ho:(Zy1 ops i).o = .call f xs:=by exact rfl) (hg:gm S (Zy1 ops i).g:=by trivial)
  (ha:AV.le.leL (Z71 S xs) args:=by first | exact Zrb _ | simp [go_sem]) (hp:puL args=true:=by first | rfl | simp [go_sem]) (hS:∀x,(Zu1 ld i,S.put (Zy1 ops i).d (res x))=(ld',Sx x):=by intro x;dsimp only[go_sem]<;>exact rfl):G c all ops af Φ (m+1) ld S:=
 Zna i hr (GB H.1 h J (fun x e h'=>by have:=U x e h';have e2:=hS x;simp only [Prod.mk.injEq] at e2;rw [←e2.1,←e2.2] at this;exact this) ho hg ha hp)
theorem RQ (hs:Zxc S S1) (h:M.bind F=some r) (J:∀ {x},M=some x→Zz6 c.P f args (res x)) (U:∀x,M=some x→F x=some r→G c all ops af Φ m ld' (Sx x)) (H:HA c all ops af nap:=by assumption) (hr:rdy ld af 0=[i]:=by exact rfl) (ho:(Zy1 ops i).o = .call f xs:=by exact rfl) (hg:gm S (Zy1 ops i).g:=by trivial)
  (ha:AV.le.leL (Z71 S1 xs) args:=by first | exact Zrb _ | simp [go_sem]) (hp:puL args=true:=by first | rfl | simp [go_sem]) (h6:∀x,(res x).flat=true:=by intro x;rfl) (hS:∀x,(Zu1 ld i,S.put (Zy1 ops i).d (res x))=(ld',Sx x):=by intro x;dsimp only[go_sem]<;>exact rfl):G c all ops af Φ (m+1) ld S:=
 Zna i hr (GQ H.1 hs h J (fun x e h'=>by have:=U x e h';have e2:=hS x;simp only [Prod.mk.injEq] at e2;rw [←e2.1,←e2.2] at this;exact this) ho hg ha hp h6)
theorem RR (pb ps:List Nat) (B Q:Nat) {bs:List (Option Blk)} {ss:List (Option Sl)} {v:α→AV} {bs':α→List (Option Blk)} {ss':α→List (Option Sl)} (h:M.bind F=some r) (h0:∀ {x},M=some x→Z1f c.P f args bs ss (v x) (bs' x) (ss' x))
  (J:∀x,M=some x→F x=some r→G c all ops af Φ m ld' (Sx x)) (H:HA c all ops af nap:=by assumption) (hr:rdy ld af 0=[i]:=by exact rfl) (hb:Zw pb=Zw bs:=by rfl) (hs:Zw ps=Zw ss:=by rfl) (hpb:Zmi B pb=true:=by rfl) (hps:Zmi Q ps=true:=by rfl) (hp:Zk1 ss=true:=by first | rfl | simp [go_sem]) (hp':∀x,Zk1 (ss' x)=true:=by intro x;first | rfl | simp [go_sem]) (ho:(Zy1 ops i).o = .call f xs:=by exact rfl) (hg:gm S (Zy1 ops i).g:=by trivial)
  (h6:msk (mkm pb B 0) S.bs=spr (Zki B) pb (Zji pb ps B Q bs):=by rfl) (h8:msk (mkm ps Q 0) S.ss=spr (Zki Q) ps ss:=by rfl) (h9:∀x,mrg (mkm pb B 0) S.bs (spr (Zki B) pb (Zji pb ps B Q (bs' x)))=S.bs:=by intro x;rfl) (ha:AV.le.leL (Z71 S xs) (Zii pb ps B Q args):=by first | exact Zrb _ | simp [go_sem])
  (hS:∀x,(Zu1 ld i,(⟨S.tm,S.bs,mrg (mkm ps Q 0) S.ss (spr (Zki Q) ps (ss' x))⟩:St).put (Zy1 ops i).d ((v x).rnF pb ps B Q))=(ld',Sx x):=by intro x;dsimp only[go_sem]<;>exact rfl):G c all ops af Φ (m+1) ld S:=
 Zna i hr (GR H.1 pb ps B Q h h0 (fun x e h'=>by have:=J x e h';have e2:=hS x;simp only [Prod.mk.injEq] at e2;rw [←e2.1,←e2.2] at this;exact this) hb hs hpb hps hp hp' ho hg h6 h8 h9 ha)
theorem RF (pb ps:List Nat) (B Q:Nat) {bs:List (Option Blk)} {ss:List (Option Sl)} {v:α→AV} {bs':α→List (Option Blk)} {ss':α→List (Option Sl)} (h:M.bind F=some r) (h0:∀ {x},M=some x→Z1f c.P f args bs ss (v x) (bs' x) (ss' x))
  (J:∀x,M=some x→F x=some r→G c all ops af Φ m ld' (Sx x)) (H:HA c all ops af nap:=by assumption) (hr:rdy ld af 0=[i]:=by exact rfl) (h6:Zoh af i ops 0=true:=by kernel_rfl) (hb:Zw pb=Zw bs:=by rfl) (hs:Zw ps=Zw ss:=by rfl) (hpb:Zmi B pb=true:=by rfl) (hps:Zmi Q ps=true:=by rfl) (hp:Zk1 ss=true:=by first | rfl | simp [go_sem]) (hp':∀x,Zk1 (ss' x)=true:=by intro x;first | rfl | simp [go_sem]) (ho:(Zy1 ops i).o = .call f xs:=by exact rfl) (hg:gm S (Zy1 ops i).g:=by trivial)
  (h8:msk (mkm pb B 0) S.bs=spr (Zki B) pb (Zji pb ps B Q bs):=by rfl) (h9:msk (mkm ps Q 0) S.ss=spr (Zki Q) ps ss:=by rfl) (ha:AV.le.leL (Z71 S xs) (Zii pb ps B Q args):=by first | exact Zrb _ | simp [go_sem])
  (hS:∀x,(Zu1 ld i,(⟨S.tm,mrg (mkm pb B 0) S.bs (spr (Zki B) pb (Zji pb ps B Q (bs' x))),mrg (mkm ps Q 0) S.ss (spr (Zki Q) ps (ss' x))⟩:St).put (Zy1 ops i).d ((v x).rnF pb ps B Q))=(ld',Sx x):=by intro x;dsimp only[go_sem]<;>exact rfl):G c all ops af Φ (m+1) ld S:=
 Zna i hr (GF H.1 pb ps B Q h h0 (fun x e h'=>by have:=J x e h';have e2:=hS x;simp only [Prod.mk.injEq] at e2;rw [←e2.1,←e2.2] at this;exact this) h6 hb hs hpb hps hp hp' ho hg h8 h9 ha)
end
end NX
end Go.Proofs.YtgamgemlekpepaaGreat
