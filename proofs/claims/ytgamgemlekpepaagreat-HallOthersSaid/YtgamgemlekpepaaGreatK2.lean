/-
  The symbolic machine, sound over the model: its operations and its run. No statement of the seat is proved here.
-/
import Derived.Laws.StructEq
import Derived.Test.YtgamgemlekpepaaGreatK1
namespace Go.Proofs.YtgamgemlekpepaaGreat
namespace NX
open Go Go.RowKit
inductive RIt where
 | code (c:Code)
 | ops (all:Array Oper) (l:List Oper)
 | blk (id:Nat)
 | lp (x:Code) (n:Nat)
 | sc (x:Code)
def Z33 (P:Program) (x:Code) (Q:Exit→Act→World→Prop) (e:Exit) (a:Act) (w:World):Prop:=∀T:Exit→Act→World→Prop,(∀e a w,(∀l,e≠ .goto l)→Q e a w→T e a w)→(∀l rest a w,findLabel x l=some rest→rest.wp P T a w→T (.goto l) a w)→T e a w
theorem Z43 {P:Program} {x:Code} {Q:Exit→Act→World→Prop} {e:Exit} {a:Act} {w:World} (he:∀l,e≠ .goto l) (h:Q e a w):Z33 P x Q e a w:=fun _ h1 _=>h1 e a w he h
theorem Z53 {P:Program} {x J:Code} {Q:Exit→Act→World→Prop} {l:Nat} {a:Act} {w:World} (U:findLabel x l=some J) (h:J.wp P (Z33 P x Q) a w):Z33 P x Q (.goto l) a w:=fun T h1 h2=>h2 l J a w U (wp_mono h fun _ _ _ hj=>hj T h1 h2)
theorem Z63 {P:Program} {x:Code} {Q:Exit→Act→World→Prop} {a:Act} {w:World} (h:x.wp P (Z33 P x Q) a w):(Code.scope x).wp P Q a w:=by
 intro b k cs;obtain ⟨e,a₁,w₁,hj,h8⟩:=h b (.inScope x::k) cs;have:=hj (fun e a w=>∃e' a' w',Q e' a' w'∧∀s,Arrives P s b (.inScope x::k) cs e a w→Arrives P s b k cs e' a' w') (fun e a w he hq=>by
  refine ⟨e,a,w,hq,fun s hs=>?_⟩;cases e with
  | normal=>exact Steps.trans hs (.one step_inScope)
  | exit id=>exact fun k' hk=>hs k' (by simp [exitTo,hk])
  | goto l=>exact absurd rfl (he l)
  | ret=>exact hs
  | panic ch=>exact hs
  | outgrown=>exact hs) (fun l rest a w hf hw=>by
  have hg:gotoIn l (.inScope x::k)=some (.code rest :: .inScope x::k):=by simp [gotoIn,hf]
  obtain ⟨e2,a2,w2,⟨e',a',w',hq,ht⟩,h6⟩:=hw b (.inScope x::k) cs;exact ⟨e',a',w',hq,fun s hs=>.of_steps (hs _ hg) (ht _ h6)⟩)
 obtain ⟨e',a',w',hq,ht⟩:=this;exact ⟨e',a',w',hq,.of_steps (.one step_scope) (ht _ h8)⟩
def Z73 (P:Program) (fn:Func) (R:Ending→World→Prop):List RIt→Exit→Act→World→Prop
 | [],e,a,w=>bodyPost P fn R e a w
 | .code x::k,.normal,a,w=>x.wp P (Z73 P fn R k) a w
 | .ops all l::k,.normal,a,w=>wpList P all (Z73 P fn R k) l a w
 | .lp x n::k,.normal,a,w=>Code.rounds P x (Z73 P fn R k) n a w
 | .blk _::k,.normal,a,w=>Z73 P fn R k .normal a w
 | .blk id::k,.exit j,a,w=>if j=id then Z73 P fn R k .normal a w else Z73 P fn R k (.exit j) a w
 | .sc x::k,e,a,w=>Z33 P x (Z73 P fn R k) e a w
 | _::k,e,a,w=>Z73 P fn R k e a w
def Z83 (P:Program):It→RIt→Prop
 | .code e,.code x=>cC P x=some e
 | .ops l,.ops all rl=>rl.mapM (Ze P all)=some l
 | .blk i,.blk j=>i=j
 | .lp e n,.lp x m=>cC P x=some e∧n=m
 | .sc e,.sc x=>cC P x=some e
 | _,_=>False
def Z93 (P:Program):List It→List RIt→Prop
 | [],rk=>rk=[]
 | x::k,rk=>∃y r,rk=y::r∧Z83 P x y∧Z93 P k r
def RK (c:Ctx) (K:AV→List (Option Blk)→List (Option Sl)→Prop):Ending→World→Prop:=fun e w=>∃v M bs ss x,e = .returned v∧RelS c M bs ss w∧AV.is M x v∧K x bs ss
def V (c:Ctx) (fn:Func) (K:AV→List (Option Blk)→List (Option Sl)→Prop) (k:List It) (S:St):Prop:=∀rk M a w,Z93 c.P k rk→RelT c M S a w→Z73 c.P fn (RK c K) rk .normal a w
theorem Za3 {P:Program} {x:Code} (h:cC P x=some .skip):x = .skip:=by
 cases x<;>simp [cC] at h<;>try rfl
 all_goals (first | ((repeat' (split at h))<;>simp at h;done) | (obtain ⟨_,_,h⟩:=h;split at h<;>simp at h;done))
theorem Zb3 {P:Program} {x:Code} {a b:EC} (h:cC P x=some (.seq a b)):∃y z,x = .seq y z∧cC P y=some a∧cC P z=some b:=by
 cases x<;>simp [cC] at h
 case seq y z=>split at h<;>simp at h;rename_i h1 h2;exact ⟨y,z,rfl,h.1 ▸ h1,h.2 ▸ h2⟩
 all_goals (first | ((repeat' (split at h))<;>simp at h;done) | (obtain ⟨_,_,h⟩:=h;split at h<;>simp at h;done))
theorem Zc3 {P:Program} {x:Code} {o:X} {a b:EC} (h:cC P x=some (.ite o a b)):∃q y z,x = .cond q y z∧cX q=o∧cC P y=some a∧cC P z=some b:=by
 cases x<;>simp [cC] at h
 case cond q y z=>split at h<;>simp at h;rename_i h1 h2;exact ⟨q,y,z,rfl,h.1,h.2.1 ▸ h1,h.2.2 ▸ h2⟩
 all_goals (first | ((repeat' (split at h))<;>simp at h;done) | (obtain ⟨_,_,h⟩:=h;split at h<;>simp at h;done))
theorem Zd3 {P:Program} {x:Code} {id:Nat} {a:EC} (h:cC P x=some (.blk id a)):∃y,x = .block id y∧cC P y=some a:=by
 cases x<;>simp [cC] at h
 case block i y=>obtain ⟨h1,rfl⟩:=h;exact ⟨y,rfl,h1⟩
 all_goals (first | ((repeat' (split at h))<;>simp at h;done) | (obtain ⟨_,_,h⟩:=h;split at h<;>simp at h;done))
theorem Ze3 {P:Program} {x:Code} {a:EC} (h:cC P x=some (.loop a)):∃y,x = .loop y∧cC P y=some a:=by
 cases x<;>simp [cC] at h
 case loop y=>exact ⟨y,rfl,h⟩
 all_goals (first | ((repeat' (split at h))<;>simp at h;done) | (obtain ⟨_,_,h⟩:=h;split at h<;>simp at h;done))
theorem Zf3 {P:Program} {x:Code} {id:Nat} (h:cC P x=some (.exit id)):x = .exit id:=by
 cases x<;>simp [cC] at h
 case exit i=>rw [h]
 all_goals (first | ((repeat' (split at h))<;>simp at h;done) | (obtain ⟨_,_,h⟩:=h;split at h<;>simp at h;done))
theorem Zg3 {P:Program} {x:Code} {a:EC} (h:cC P x=some (.scope a)):∃y,x = .scope y∧cC P y=some a:=by
 cases x<;>simp [cC] at h
 case scope y=>exact ⟨y,rfl,h⟩
 all_goals (first | ((repeat' (split at h))<;>simp at h;done) | (obtain ⟨_,_,h⟩:=h;split at h<;>simp at h;done))
theorem Zh3 {P:Program} {x:Code} {l:Nat} (h:cC P x=some (.label l)):x = .label l:=by
 cases x<;>simp [cC] at h
 case label i=>rw [h]
 all_goals (first | ((repeat' (split at h))<;>simp at h;done) | (obtain ⟨_,_,h⟩:=h;split at h<;>simp at h;done))
theorem Zi3 {P:Program} {x:Code} {l:Nat} (h:cC P x=some (.goto l)):x = .goto l:=by
 cases x<;>simp [cC] at h
 case goto i=>rw [h]
 all_goals (first | ((repeat' (split at h))<;>simp at h;done) | (obtain ⟨_,_,h⟩:=h;split at h<;>simp at h;done))
theorem Zj3 {P:Program} {l:Nat}:∀(x:Code) {e:EC},cC P x=some e→efl e l=none→findLabel x l=none:=by
 intro x;induction x with
 | seq y z ihy ihz=>
   intro e hx hn;simp only [cC] at hx;split at hx
   ·rename_i a b ha hb;simp at hx;subst hx;simp only [efl] at hn;split at hn
    ·simp at hn
    ·rename_i hq;simp only [findLabel,ihy ha hq,ihz hb hn]
   ·simp at hx
 | label j=>
   intro e hx hn;simp only [cC,Option.some.injEq] at hx;subst hx;simp only [efl] at hn;split at hn
   ·simp at hn
   ·rename_i hj;simp [findLabel,hj]
 | _=>intros;simp [findLabel]
theorem Zk3 {P:Program} {l:Nat}:∀ {e:EC} {x:Code} {r:EC},cC P x=some e→efl e l=some r→∃rest,findLabel x l=some rest∧cC P rest=some r
 | .seq a b,x,r,hx,hr=>by
   obtain ⟨y,z,rfl,hy,hz⟩:=Zb3 hx;simp only [efl] at hr;split at hr
   ·rename_i q hq;obtain ⟨rest,h1,h2⟩:=Zk3 hy hq;simp at hr;subst hr;exact ⟨.seq rest z,by simp [findLabel,h1],by simp [cC,h2,hz]⟩
   ·rename_i hq;have hn:findLabel y l=none:=Zj3 y hy hq;obtain ⟨rest,h1,h2⟩:=Zk3 hz hr;exact ⟨rest,by simp [findLabel,hn,h1],h2⟩
 | .label j,x,r,hx,hr=>by
   rw [Zh3 hx];simp only [efl] at hr;split at hr
   ·rename_i hj;simp at hr;subst hr;exact ⟨.skip,by simp [findLabel,hj],by simp [cC]⟩
   ·simp at hr
 | .skip,_,_,_,hr=>by simp [efl] at hr
 | .reg _,_,_,_,hr=>by simp [efl] at hr
 | .drw _ _ _,_,_,_,hr=>by simp [efl] at hr
 | .ite _ _ _,_,_,_,hr=>by simp [efl] at hr
 | .blk _ _,_,_,_,hr=>by simp [efl] at hr
 | .loop _,_,_,_,hr=>by simp [efl] at hr
 | .exit _,_,_,_,hr=>by simp [efl] at hr
 | .scope _,_,_,_,hr=>by simp [efl] at hr
 | .goto _,_,_,_,hr=>by simp [efl] at hr
 | .ret,_,_,_,hr=>by simp [efl] at hr
 | .bad,_,_,_,hr=>by simp [efl] at hr
theorem Zl3 {P:Program} {x:Code} (h:cC P x=some .ret):x = .ret:=by
 cases x<;>simp [cC] at h<;>try rfl
 all_goals (first | ((repeat' (split at h))<;>simp at h;done) | (obtain ⟨_,_,h⟩:=h;split at h<;>simp at h;done))
theorem Zm3 {P:Program} {id:Nat} {ops:Array Oper} {dr:Bool} {e:EC} (h:cC P (.region id ops dr)=some e):
  ∃l,ops.toList.mapM (Ze P ops)=some l∧((dr=false∧e = .reg l)∨(dr=true∧Region.noSelect ops=true∧e = .drw l (Zl ops) (Zm ops))∨e = .bad):=by
 simp only [cC] at h;split at h
 ·rename_i l hl;refine ⟨l,hl,?_⟩;split at h
  ·split at h
   ·rename_i hs;simp at h;exact .inr (.inl ⟨rfl,hs,h.symm⟩)
   ·simp at h;exact .inr (.inr h.symm)
  ·simp at h;exact .inl ⟨rfl,h.symm⟩
 ·simp at h
theorem Zn3 {P:Program} {x:Code} {l:List EOp} (h:cC P x=some (.reg l)):∃id ops,x = .region id ops false∧ops.toList.mapM (Ze P ops)=some l:=by
 cases x
 case region id ops dr=>
  obtain ⟨l',h1,h2⟩:=Zm3 h;rcases h2 with ⟨rfl,h2⟩ | ⟨_,_,h2⟩ | h2
  ·simp at h2;subst h2;exact ⟨id,ops,rfl,h1⟩
  ·simp at h2
  ·simp at h2
 all_goals (simp [cC] at h)
 all_goals (first | ((repeat' (split at h))<;>simp at h;done) | (obtain ⟨_,_,h⟩:=h;split at h<;>simp at h;done))
theorem Zo3 {P:Program} {x:Code} {l:List EOp} {af nap:List (List Nat)} (h:cC P x=some (.drw l af nap)):
  ∃id ops,x = .region id ops true∧ops.toList.mapM (Ze P ops)=some l∧Region.noSelect ops=true∧af=Zl ops∧nap=Zm ops:=by
 cases x
 case region id ops dr=>
  obtain ⟨l',h1,h2⟩:=Zm3 h;rcases h2 with ⟨_,h2⟩ | ⟨rfl,hs,h2⟩ | h2
  ·simp at h2
  ·simp at h2;obtain ⟨rfl,rfl,rfl⟩:=h2;exact ⟨id,ops,rfl,h1,hs,rfl,rfl⟩
  ·simp at h2
 all_goals (simp [cC] at h)
 all_goals (first | ((repeat' (split at h))<;>simp at h;done) | (obtain ⟨_,_,h⟩:=h;split at h<;>simp at h;done))
theorem mapM_cons {α β:Type} {f:α→Option β} {l:List α} {o:β} {r:List β} (h:l.mapM f=some (o::r)):∃x l',l=x::l'∧f x=some o∧l'.mapM f=some r:=by
 cases l with
 | nil=>simp at h
 | cons x l'=>simp only [List.mapM_cons,Option.bind_eq_bind,Option.bind_eq_some_iff] at h;obtain ⟨o',h1,r',h2,h3⟩:=h;simp at h3;exact ⟨x,l',rfl,h3.1 ▸ h1,h3.2 ▸ h2⟩
theorem Zp3 {α β:Type} {f:α→Option β} {l:List α} (h:l.mapM f=some []):l=[]:=by
 cases l with
 | nil=>rfl
 | cons x l'=>simp only [List.mapM_cons,Option.bind_eq_bind,Option.bind_eq_some_iff] at h;obtain ⟨o',h1,r',h2,h3⟩:=h;simp at h3
section
variable {c:Ctx} {fn:Func} {K:AV→List (Option Blk)→List (Option Sl)→Prop} {k:List It} {S:St}
theorem Zq3 {e:EC} (h:∀x,cC c.P x=some e→∀rk M a w,Z93 c.P k rk→RelT c M S a w→x.wp c.P (Z73 c.P fn (RK c K) rk) a w):V c fn K (.code e::k) S:=by
 rintro rk M a w ⟨y,r,rfl,hy,hr⟩ hT;cases y with
 | code x=>exact h x hy r M a w hr hT
 | ops _ _=>exact hy.elim
 | blk _=>exact hy.elim
 | lp _ _=>exact hy.elim
 | sc _=>exact hy.elim
theorem Zr3 (h:V c fn K k S):V c fn K (.code .skip::k) S:=Zq3 fun x hx rk M a w hr hT=>by rw [Za3 hx];exact wp_skip (h rk M a w hr hT)
theorem Zs3 {a b:EC} (h:V c fn K (.code a :: .code b::k) S):V c fn K (.code (.seq a b)::k) S:=Zq3 fun x hx rk M s w hr hT=>by obtain ⟨y,z,rfl,hy,hz⟩:=Zb3 hx;refine wp_seq (wp_mono (h (.code y :: .code z::rk) M s w ⟨_,_,rfl,hy,_,_,rfl,hz,hr⟩ hT) ?_);intro e a w hq;cases e<;>exact hq
theorem Zt3 {id:Nat} {a:EC} (h:V c fn K (.code a :: .blk id::k) S):V c fn K (.code (.blk id a)::k) S:=Zq3 fun x hx rk M s w hr hT=>by obtain ⟨y,rfl,hy⟩:=Zd3 hx;refine wp_block (wp_mono (h (.code y :: .blk id::rk) M s w ⟨_,_,rfl,hy,_,_,rfl,rfl,hr⟩ hT) ?_);intro e a w hq;cases e<;>exact hq
theorem Zu3 {a:EC} (h:V c fn K (.code a :: .sc a::k) S):V c fn K (.code (.scope a)::k) S:=Zq3 fun x hx rk M s w hr hT=>by obtain ⟨y,rfl,hy⟩:=Zg3 hx;refine Z63 (wp_mono (h (.code y :: .sc y::rk) M s w ⟨_,_,rfl,hy,_,_,rfl,hy,hr⟩ hT) ?_);intro e a w hq;cases e<;>exact hq
theorem Zv3 {l:Nat} (h:V c fn K k S):V c fn K (.code (.label l)::k) S:=Zq3 fun x hx rk M s w hr hT=>by rw [Zh3 hx];exact wp_label (h rk M s w hr hT)
theorem V_sc {e:EC} (h:V c fn K k S):V c fn K (.sc e::k) S:=by
 rintro rk M a w ⟨y,r,rfl,hy,hr⟩ hT;cases y with
 | code x=>exact hy.elim
 | ops _ _=>exact hy.elim
 | blk _=>exact hy.elim
 | lp _ _=>exact hy.elim
 | sc _=>exact Z43 (by simp) (h r M a w hr hT)
theorem Zw3 {P:Program} {l:Nat} {R:Ending→World→Prop}:∀ {k k':List It} {J:List RIt},gun l k=some k'→Z93 P k J→
  ∃rk',Z93 P k' rk'∧∀a w,Z73 P fn R rk' .normal a w→Z73 P fn R J (.goto l) a w
 | [],k',J,h,_=>by simp [gun] at h
 | .sc e::k,k',J,h,⟨y,r,h6,hy,hr⟩=>by
   subst h6;cases y with
   | code x=>exact hy.elim
   | ops all l=>exact hy.elim
   | blk i=>exact hy.elim
   | lp _ _=>exact hy.elim
   | sc x=>
     simp only [gun] at h;split at h
     ·rename_i q hq;simp at h;subst h;obtain ⟨rest,h1,h2⟩:=Zk3 hy hq;refine ⟨.code rest :: .sc x::r,⟨_,_,rfl,h2,_,_,rfl,hy,hr⟩,fun a w hc=>Z53 h1 (wp_mono hc ?_)⟩;intro e a w hq;cases e<;>exact hq
     ·simp at h
 | .blk j::k,k',J,h,⟨y,r,h6,hy,hr⟩=>by
   subst h6;simp only [gun] at h;obtain ⟨rk',h1,h2⟩:=Zw3 h hr;cases y with
   | blk i=>exact ⟨rk',h1,fun a w hc=>h2 a w hc⟩
   | code x=>exact hy.elim
   | ops all l=>exact hy.elim
   | lp _ _=>exact hy.elim
   | sc _=>exact hy.elim
 | .code _::k,k',J,h,⟨y,r,h6,hy,hr⟩=>by
   subst h6;simp only [gun] at h;obtain ⟨rk',h1,h2⟩:=Zw3 h hr;cases y with
   | code x=>exact ⟨rk',h1,fun a w hc=>h2 a w hc⟩
   | ops all l=>exact hy.elim
   | blk i=>exact hy.elim
   | lp _ _=>exact hy.elim
   | sc _=>exact hy.elim
 | .ops _::k,k',J,h,⟨y,r,h6,hy,hr⟩=>by
   subst h6;simp only [gun] at h;obtain ⟨rk',h1,h2⟩:=Zw3 h hr;cases y with
   | code x=>exact hy.elim
   | ops all l=>exact ⟨rk',h1,fun a w hc=>h2 a w hc⟩
   | blk i=>exact hy.elim
   | lp _ _=>exact hy.elim
   | sc _=>exact hy.elim
 | .lp _ _::k,k',J,h,⟨y,r,h6,hy,hr⟩=>by
   subst h6;simp only [gun] at h;obtain ⟨rk',h1,h2⟩:=Zw3 h hr;cases y with
   | code x=>exact hy.elim
   | ops all l=>exact hy.elim
   | blk i=>exact hy.elim
   | lp _ _=>exact ⟨rk',h1,fun a w hc=>h2 a w hc⟩
   | sc _=>exact hy.elim
theorem Zx3 {l:Nat} {k':List It} (hu:gun l k=some k') (h:V c fn K k' S):V c fn K (.code (.goto l)::k) S:=Zq3 fun x hx rk M s w hr hT=>by rw [Zi3 hx];obtain ⟨rk',h1,h2⟩:=Zw3 (fn:=fn) (R:=RK c K) hu hr;exact wp_goto (h2 _ _ (h rk' M s w h1 hT))
theorem Zy3 {id:Nat} (h:V c fn K k S):V c fn K (.blk id::k) S:=by
 rintro rk M a w ⟨y,r,rfl,hy,hr⟩ hT;cases y with
 | code x=>exact hy.elim
 | ops _ _=>exact hy.elim
 | blk _=>exact h r M a w hr hT
 | lp _ _=>exact hy.elim
 | sc _=>exact hy.elim
theorem Zz3 (h:V c fn K k S):V c fn K (.ops []::k) S:=by
 rintro rk M a w ⟨y,r,rfl,hy,hr⟩ hT;cases y with
 | code x=>exact hy.elim
 | ops all l=>have:=Zp3 hy;subst this;exact h r M a w hr hT
 | blk _=>exact hy.elim
 | lp _ _=>exact hy.elim
 | sc _=>exact hy.elim
theorem Z04 {l:List EOp} (h:V c fn K (.ops l::k) S):V c fn K (.code (.reg l)::k) S:=Zq3 fun x hx rk M s w hr hT=>by obtain ⟨id,ops,rfl,hy⟩:=Zn3 hx;exact wp_region_list (h (.ops ops ops.toList::rk) M s w ⟨_,_,rfl,hy,hr⟩ hT)
theorem Z14 {P:Program} {id:Nat} {R:Ending→World→Prop}:∀ {k k':List It} {J:List RIt},unw id k=some k'→Z93 P k J→
  ∃rk',Z93 P k' rk'∧∀a w,Z73 P fn R rk' .normal a w→Z73 P fn R J (.exit id) a w
 | [],k',J,h,_=>by simp [unw] at h
 | .blk j::k,k',J,h,⟨y,r,h6,hy,hr⟩=>by
   subst h6;cases y with
   | code x=>exact hy.elim
   | ops all l=>exact hy.elim
   | blk i=>
     have:j=i:=hy;subst this;simp only [unw] at h;split at h
     ·rename_i hj;rw [beq_iff_eq] at hj;simp at h;subst h;exact ⟨r,hr,fun a w hc=>by simp only [Z73,hj,if_true];exact hc⟩
     ·rename_i hj;have hj:¬j=id:=fun e=>by rw [beq_iff_eq.2 e] at hj;simp at hj
      obtain ⟨rk',h1,h2⟩:=Z14 h hr;exact ⟨rk',h1,fun a w hc=>by simp only [Z73];rw [if_neg (fun e=>hj e.symm)];exact h2 a w hc⟩
   | lp _ _=>exact hy.elim
   | sc _=>exact hy.elim
 | .code _::k,k',J,h,⟨y,r,h6,hy,hr⟩=>by
   subst h6;simp only [unw] at h;obtain ⟨rk',h1,h2⟩:=Z14 h hr;cases y with
   | code x=>exact ⟨rk',h1,fun a w hc=>h2 a w hc⟩
   | ops all l=>exact hy.elim
   | blk i=>exact hy.elim
   | lp _ _=>exact hy.elim
   | sc _=>exact hy.elim
 | .ops _::k,k',J,h,⟨y,r,h6,hy,hr⟩=>by
   subst h6;simp only [unw] at h;obtain ⟨rk',h1,h2⟩:=Z14 h hr;cases y with
   | code x=>exact hy.elim
   | ops all l=>exact ⟨rk',h1,fun a w hc=>h2 a w hc⟩
   | blk i=>exact hy.elim
   | lp _ _=>exact hy.elim
   | sc _=>exact hy.elim
 | .lp _ _::k,k',J,h,⟨y,r,h6,hy,hr⟩=>by
   subst h6;simp only [unw] at h;obtain ⟨rk',h1,h2⟩:=Z14 h hr;cases y with
   | code x=>exact hy.elim
   | ops all l=>exact hy.elim
   | blk i=>exact hy.elim
   | lp _ _=>exact ⟨rk',h1,fun a w hc=>h2 a w hc⟩
   | sc _=>exact hy.elim
 | .sc _::k,k',J,h,⟨y,r,h6,hy,hr⟩=>by
   subst h6;simp only [unw] at h;obtain ⟨rk',h1,h2⟩:=Z14 h hr;cases y with
   | code x=>exact hy.elim
   | ops all l=>exact hy.elim
   | blk i=>exact hy.elim
   | lp _ _=>exact hy.elim
   | sc _=>exact ⟨rk',h1,fun a w hc=>Z43 (by simp) (h2 a w hc)⟩
theorem Z24 {id:Nat} {k':List It} (hu:unw id k=some k') (h:V c fn K k' S):V c fn K (.code (.exit id)::k) S:=Zq3 fun x hx rk M s w hr hT=>by rw [Zf3 hx];obtain ⟨rk',h1,h2⟩:=Z14 (fn:=fn) (R:=RK c K) hu hr;exact wp_exit (h2 _ _ (h rk' M s w h1 hT))
theorem Z34 {M:Mem} {a:Act} {w:World} (J:RelT c M S a w) (o:Operand):(S.x (cX o)).is M (a.eval o):=by
 cases o with
 | tmp t=>exact J.tm t
 | const v=>exact Zq2 M v
 | global g=>trivial
 | func f=>simp [cX,St.x,AV.is,AV.isL,Act.eval]
theorem V_tt {o:X} {a b:EC} (hx:S.x o = .tt) (h:V c fn K (.code a::k) S):V c fn K (.code (.ite o a b)::k) S:=Zq3 fun x hc rk M s w hr hT=>by obtain ⟨q,y,z,rfl,rfl,hy,hz⟩:=Zc3 hc;have hq:=Z34 hT q;rw [hx] at hq;exact wp_cond_true hq (h (.code y::rk) M s w ⟨_,_,rfl,hy,hr⟩ hT)
theorem V_ff {o:X} {a b:EC} (hx:S.x o = .ff) (h:V c fn K (.code b::k) S):V c fn K (.code (.ite o a b)::k) S:=Zq3 fun x hc rk M s w hr hT=>by obtain ⟨q,y,z,rfl,rfl,hy,hz⟩:=Zc3 hc;have hq:=Z34 hT q;rw [hx] at hq;exact wp_cond_false hq (h (.code z::rk) M s w ⟨_,_,rfl,hz,hr⟩ hT)
theorem Z44 {o:X} {a b:EC} {e:Bool} (hx:S.x o = .bv e) (h1:e=true→V c fn K (.code a::k) S) (h2:e=false→V c fn K (.code b::k) S):V c fn K (.code (.ite o a b)::k) S:=Zq3 fun x hc rk M s w hr hT=>by obtain ⟨q,y,z,rfl,rfl,hy,hz⟩:=Zc3 hc;have hq:=Z34 hT q;rw [hx] at hq;refine wp_cond_split hq (fun e=>h1 e (.code y::rk) M s w ⟨_,_,rfl,hy,hr⟩ hT) (fun e=>h2 e (.code z::rk) M s w ⟨_,_,rfl,hz,hr⟩ hT)
end
end NX
end Go.Proofs.YtgamgemlekpepaaGreat
/-
  The symbolic machine: structs compared. No statement of the seat is proved here.
-/
namespace Go.Proofs.YtgamgemlekpepaaGreat
namespace NX
open Go Go.RowKit
section
variable {P:Program} {w:World}
theorem Z54 {T:TypeId} (h:Z7 P T=some none):(isAgg T).run P w = .ok false w:=by unfold Z7 at h;split at h<;>simp at h;rename_i d i hu hi h6 h8;simp only [isAgg,Sem.run_bind,run_underlying h6,Result.andThen_ok];cases d<;>first | rfl | (exact absurd rfl (hu _)) | (exact absurd rfl (hi _ _))
theorem Z64 {T:TypeId} {n:Nat} (h:Z7 P T=some (some n)):(isAgg T).run P w = .ok true w∧(sizeOf T).run P w = .ok n w:=by
 unfold Z7 at h;split at h<;>simp at h
 ·rename_i i hu hi;subst h;simp [isAgg,run_underlying hu,sizeOf,typeInfo,hi]
 ·rename_i i hu hi;subst h;simp [isAgg,run_underlying hu,sizeOf,typeInfo,hi]
theorem Z74 {T:TypeId} {n:Nat} (h:Z9 P T=some n):(sizeOf T).run P w = .ok n w:=by
 unfold Z9 at h;cases hi:P.info? T with
 | none=>simp [hi] at h
 | some i=>simp [hi] at h;subst h;simp [sizeOf,typeInfo,hi]
end
def Z84:Bool→Value→Prop
 | true,v=>∃n,v = .int .i64 n
 | false,v=>∃b,v = .bool b
def Z94:List Bool→List Value→Prop
 | [],vs=>vs=[]
 | k::ks,vs=>∃v r,vs=v::r∧Z84 k v∧Z94 ks r
def vEq:Value→Value→Bool
 | .int _ a,.int _ b=>a==b
 | .bool a,.bool b=>a==b
 | _,_=>false
def Za4:List Value→List Value→Bool
 | x::l,y::r=>vEq x y&&Za4 l r
 | _,_=>true
theorem Zb4:∀ {ks:List Bool} {vs:List Value},Z94 ks vs→vs.length=ks.length
 | [],_,h=>by simp [Z94] at h;simp [h]
 | _::_,_,⟨v,r,h0,_,h⟩=>by subst h0;simp [Zb4 h]
theorem Zc4:∀ {a b:List Bool} {vs:List Value},Z94 (a++b) vs→Z94 a (vs.take a.length)∧Z94 b (vs.drop a.length)
 | [],b,vs,h=>by simpa [Z94] using h
 | _::a,b,_,⟨v,r,h0,h1,h⟩=>by subst h0;obtain ⟨g1,g2⟩:=Zc4 h;exact ⟨⟨v,r.take a.length,by simp,h1,g1⟩,by simpa using g2⟩
theorem Zd4:∀(n:Nat) (x y:List Value),x.length=y.length→Za4 x y=(Za4 (x.take n) (y.take n)&&Za4 (x.drop n) (y.drop n))
 | 0,x,y,_=>by simp [Za4]
 | n+1,[],[],_=>by simp [Za4]
 | n+1,[],_::_,h=>by simp at h
 | n+1,_::_,[],h=>by simp at h
 | n+1,x::l,y::r,h=>by simp [Za4,Zd4 n l r (by simpa using h),Bool.and_assoc]
theorem Ze4 {P:Program} {w:World} {D:Nat} {g:TypeId→Option (List Bool)}
  (hg:∀T ks,g T=some ks→∀(xs U:List Value),Z94 ks xs→Z94 ks U→∀(A B:List Value) (o:Nat),(A.drop o).take ks.length=xs→(B.drop o).take ks.length=U→
    ∃u v,(part T A.toArray o).run P w = .ok u w∧(part T B.toArray o).run P w = .ok v w∧(Op.equalIn D T u v).run P w = .ok (Za4 xs U) w):
  ∀(J:List Field) (off:Nat) (ks:List Bool),Zb g J off=some ks→∀(A B:List Value),Z94 ks (A.drop off)→Z94 ks (B.drop off)→
   (Op.eqFields D A.toArray B.toArray J).run P w = .ok (Za4 (A.drop off) (B.drop off)) w
 | [],off,ks,h,A,B,hA,hB=>by
   simp [Zb] at h;subst h;simp [Z94] at hA hB;have e1:A.drop off=[]:=by simpa using hA
   have e2:B.drop off=[]:=by simpa using hB
   simp [Op.eqFields,e1,e2,Za4]
 | f::J,off,ks,h,A,B,hA,hB=>by
   simp only [Zb] at h;split at h
   ·rename_i hf;split at h
    ·rename_i l hl;simp only [Option.map_eq_some_iff] at h;obtain ⟨r,hr,rfl⟩:=h;obtain ⟨a1,a2⟩:=Zc4 hA;obtain ⟨b1,b2⟩:=Zc4 hB;obtain ⟨u,v,r1,r2,r3⟩:=hg f.type l hl _ _ a1 b1 A B off rfl rfl;rw [List.drop_drop] at a2 b2;have ih:=Ze4 hg J (off+l.length) r hr A B a2 b2;have h6:(A.drop off).length=(B.drop off).length:=by rw [Zb4 hA,Zb4 hB]
     rw [Zd4 l.length _ _ h6,List.drop_drop,List.drop_drop];have h8:f.name≠"_":=hf.1;simp only [Op.eqFields,h8,ne_eq,not_false_eq_true,if_true,Sem.run_bind,hf.2,r1,r2,r3,Result.andThen_ok];cases Za4 (List.take l.length (A.drop off)) (List.take l.length (B.drop off))
     ·simp
     ·simpa using ih
    ·simp at h
   ·simp at h
theorem Zf4 {P:Program} {w:World}:∀(d D:Nat),d≤D→∀T ks,Zc P d T=some ks→∀(xs J:List Value),Z94 ks xs→Z94 ks J→∀(A B:List Value) (o:Nat),(A.drop o).take ks.length=xs→(B.drop o).take ks.length=J→
   ∃u v,(part T A.toArray o).run P w = .ok u w∧(part T B.toArray o).run P w = .ok v w∧(Op.equalIn D T u v).run P w = .ok (Za4 xs J) w
 | 0,_,_,T,ks,h=>by simp [Zc] at h
 | d+1,0,hd,_,_,_=>by omega
 | d+1,D+1,hd,T,ks,h=>by
   intro xs J hx hy A B o hA hB;simp only [Zc] at h;have one:∀(C:List Value) (z:Value),(C.drop o).take 1=[z]→C[o]?=some z:=by intro C z hz;have:=congrArg (·[0]?) hz;simpa using this
   split at h
   ·rename_i k hu;simp at h;subst h;obtain ⟨x,r,rfl,⟨n,rfl⟩,hr⟩:=hx;obtain ⟨y,r',rfl,⟨m,rfl⟩,hr'⟩:=hy;simp [Z94] at hr hr';subst hr;subst hr';have ha:(isAgg T).run P w = .ok false w:=by simp [isAgg,run_underlying hu]
    refine ⟨.int .i64 n,.int .i64 m,?_,?_,?_⟩
    ·simp [part,ha,one A _ hA]
    ·simp [part,ha,one B _ hB]
    ·rw [run_equalIn_int w D T .i64 k n m hu];simp [Za4,vEq]
   ·rename_i hu;simp at h;subst h;obtain ⟨x,r,rfl,⟨n,rfl⟩,hr⟩:=hx;obtain ⟨y,r',rfl,⟨m,rfl⟩,hr'⟩:=hy;simp [Z94] at hr hr';subst hr;subst hr';have ha:(isAgg T).run P w = .ok false w:=by simp [isAgg,run_underlying hu]
    refine ⟨.bool n,.bool m,?_,?_,?_⟩
    ·simp [part,ha,one A _ hA]
    ·simp [part,ha,one B _ hB]
    ·rw [run_equalIn_bool' w D T n m hu];simp [Za4,vEq]
   ·rename_i fs hu;split at h
    ·rename_i hs;have h8:P.fieldsOf T=fs:=by simp [Program.fieldsOf,hu]
     have hu':P.underlying T=some (.struct (P.fieldsOf T)):=by rw [h8];exact hu
     split at h
     ·rename_i l hl;split at h<;>simp at h;rename_i hn;subst h;have h6:(isAgg T).run P w = .ok true w:=by simp [isAgg,run_underlying hu]
      have h9:=Z74 (P:=P) (w:=w) (T:=T) (n:=l.length) (by simpa using hn);have hc:=Zb4 hx;have hf:=Zb4 hy;refine ⟨.agg xs.toArray,.agg J.toArray,?_,?_,?_⟩
      ·simp [part,h6,h9];rw [←hA]
      ·simp [part,h6,h9];rw [←hB]
      ·rw [run_equalIn_struct w D T _ _ hu' hs,h8];exact Ze4 (fun T ks hk=>Zf4 d D (by omega) T ks hk) fs.toList 0 l hl xs J (by simpa using hx) (by simpa using hy)
     ·simp at h
    ·simp at h
   ·simp at h
theorem Zg4 {P:Program} {w:World} {d D:Nat} (Y:d≤D) {T:TypeId} {U:Array Field} {ks:List Bool} (hu:P.underlying T=some (.struct U)) (h:Zc P d T=some ks)
  {xs J:List Value} (hx:Z94 ks xs) (hy:Z94 ks J):(Op.equalIn D T (.agg xs.toArray) (.agg J.toArray)).run P w = .ok (Za4 xs J) w:=by
 have h8:=Zb4 hx;have h9:=Zb4 hy;obtain ⟨u,v,h1,h2,h3⟩:=Zf4 (P:=P) (w:=w) d D Y T ks h xs J hx hy xs J 0 (by simp [←h8]) (by simp [←h9]);have h6:(isAgg T).run P w = .ok true w:=by simp [isAgg,run_underlying hu]
 have hn:Z9 P T=some ks.length:=by
  cases d with
  | zero=>simp [Zc] at h
  | succ d=>
    simp only [Zc,hu] at h;split at h
    ·split at h
     ·split at h<;>simp at h;subst h;assumption
     ·simp at h
    ·simp at h
 have hc:=Z74 (P:=P) (w:=w) (T:=T) (n:=ks.length) (by simpa using hn);simp [part,h6,hc] at h1;simp [part,h6,hc] at h2;rw [←h8,List.take_length] at h1;rw [←h9,List.take_length] at h2;rw [h1,h2];exact h3
theorem Zh4 {M:Mem} {k:Bool} {x y:AV} {e:Bool} {u v:Value} (h:Zc1 k x y=some e) (hx:AV.is M x u) (hy:AV.is M y v):Z84 k u∧Z84 k v∧vEq u v=e:=by
 cases k<;>simp only [Zc1] at h<;>split at h<;>simp at h
 ·rename_i a b h1 h2;have f:∀ {x:AV} {a:Bool} {u:Value},Za1 x=some a→AV.is M x u→u = .bool a:=by intro x a u h hx;cases x<;>simp [Za1] at h<;>subst h<;>simpa [AV.is] using hx
  rw [f h1 hx,f h2 hy];exact ⟨⟨_,rfl⟩,⟨_,rfl⟩,by simp [vEq,h]⟩
 ·rename_i a b h1 h2;have f:∀ {x:AV} {a:Int} {u:Value},Zb1 x=some a→AV.is M x u→u = .int .i64 a:=by intro x a u h hx;cases x<;>simp [Zb1] at h;subst h;simpa [AV.is] using hx
  rw [f h1 hx,f h2 hy];refine ⟨⟨_,rfl⟩,⟨_,rfl⟩,?_⟩;rw [←h];simp only [vEq];exact Bool.eq_iff_iff.mpr (by simp)
theorem Zi4 {M:Mem}:∀ {ks:List Bool} {l r:List AV} {e:Bool} {us vs:List Value},eqA ks l r=some e→AV.isL M l us→AV.isL M r vs→Z94 ks us∧Z94 ks vs∧Za4 us vs=e
 | [],l,r,e,us,vs,h,hx,hy=>by simp only [eqA] at h;split at h<;>simp at h;simp [AV.isL] at hx hy;simp [hx,hy,Z94,Za4,←h]
 | k::ks,l,r,e,us,vs,h,hx,hy=>by
   simp only [eqA] at h;split at h
   ·split at h<;>simp at h;rename_i h1 h2;obtain ⟨u,us,rfl,hu,hx⟩:=hx;obtain ⟨v,vs,rfl,hv,hy⟩:=hy;obtain ⟨a1,a2,a3⟩:=Zh4 h1 hu hv;obtain ⟨b1,b2,b3⟩:=Zi4 h2 hx hy;exact ⟨⟨_,_,rfl,a1,b1⟩,⟨_,_,rfl,a2,b2⟩,by simp [Za4,a3,b3,h]⟩
   ·simp at h
theorem Zj4 {P:Program} {w:World} {ng:Bool} {T:TypeId} {U:Array Field} {ks:List Bool} (hu:P.underlying T=some (.struct U)) (h:Zc P 8 T=some ks)
  {xs J:List Value} (hx:Z94 ks xs) (hy:Z94 ks J) {op:BinOp} (Y:op=(if ng then .neq else .eql)):(binOp op T (.agg xs.toArray) (.agg J.toArray)).run P w = .ok (.bool (ngB ng (Za4 xs J))) w:=by
 subst Y;cases ng
 ·simp [run_eql_struct,Zg4 (D:=10000) (by omega) hu h hx hy,ngB]
 ·simp [run_neq_struct,Zg4 (D:=10000) (by omega) hu h hx hy,ngB]
end NX
end Go.Proofs.YtgamgemlekpepaaGreat
