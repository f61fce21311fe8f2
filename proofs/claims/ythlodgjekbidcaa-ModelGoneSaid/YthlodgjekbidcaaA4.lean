/-
  Plain laws: a model behind an event. No statement of the seat is proved here.
-/
import Derived.KernelRfl
import Derived.Test.YthlodgjekbidcaaA3
import Derived.Test.YthlodgjekbidcaaA2
namespace Go.Proofs.Ythlodgjekbidcaa
namespace NX
open Go
def ofE (e:Event):Bool:=decide (e.Kind=6)||(decide (e.Kind=7)||decide (e.Kind=8))
def backB (P:List Place) (e:Event):Bool:=match at_ P e.Peer with | some q=>decide (e.Node∈q.Live) | none=>false
def Zcn (P:List Place) (p:Place) (e:Event):List Int×Int:=
 if e.Kind=6 then (if !decide (e.Peer∈p.Live)&&(backB P e==decide (e.Node<e.Peer)) then (Z5b (p.Live++[e.Peer]),0) else ([],206))
 else if e.Kind=7 then (if decide (e.Peer∈p.Live)&&(decide (e.Node<e.Peer)||!backB P e) then ((Z5b p.Live).filter (fun z=>!decide (z∈ [e.Peer])),0) else ([],206))
 else if e.Kind=8 then (if decide (e.Node<e.Peer)&&(!decide (e.Peer∈p.Live)&&(!backB P e&&(!Z7n P e.Node e.Peer&&!Z7n P e.Peer e.Node))) then (p.Live,0) else ([],206))
 else ([],206)
theorem s_edge (m:Model) (hm:fewM m) (e:Event) {p q:Place} (hp:at_ m.Places e.Node=some p) (hq:at_ m.Places e.Peer=some q):Z1k e m.Places=some (Zcn m.Places p e):=by
 have hl:=(hm.2 p (Z5n hp)).1
 have hb:backB m.Places e=decide (e.Node∈q.Live):=by unfold backB;rw [hq]
 simp only [Z1k,hp,Option.bind_some,s_mlive m hm e.Node e.Peer hp,s_mlive m hm e.Peer e.Node hq,←hb]
 have e2:∀(l:List Int) z,Zxj (l,z)=some (if z then (l,0) else ([],206)):=fun l z=>by
  simp only [Zxj];cases z<;>rfl
 simp only [Z0k,Zyj,Zzj,s_Add p.Live e.Peer (by omega),s_Del p.Live e.Peer (by omega),s_uses m hm,Option.bind_some,e2,Zcn]
 by_cases h6:e.Kind=6
 ·simp only [h6,decide_true,Zh6,if_true]
  cases decide (e.Peer∈p.Live)<;>cases (backB m.Places e==decide (e.Node<e.Peer))<;>simp
 ·by_cases h7:e.Kind=7
  ·simp only [h7,decide_true,Zh6,if_true]
   cases decide (e.Peer∈p.Live)<;>cases backB m.Places e<;>cases decide (e.Node<e.Peer)<;>simp
  ·by_cases h8:e.Kind=8
   ·simp only [h8,decide_true,Zh6,if_true]
    cases decide (e.Peer∈p.Live)<;>cases backB m.Places e<;>cases decide (e.Node<e.Peer)<;>cases Z7n m.Places e.Node e.Peer<;>cases Z7n m.Places e.Peer e.Node<;>simp
   ·simp [h6,h7,h8]
def Zdn (P:List Place) (p:Place) (e:Event):Book×Int:=
 if (Zeh p.Book).2.2=0 then (if (Zeh p.Book).2.1=e.ID then (match (Zeh p.Book).1.Sess with
  | s::_=>if s.Need.any (fun q=>Z7n P q e.Node) then (Zzg,203) else ((Zeh p.Book).1,0)
  | []=>(Zzg,203)) else (Zzg,203)) else (Zzg,203)
theorem Zen {b:Book} (h:(Zeh b).2.2=0):Z3h b=true∧∃s l,b.Sess=s::l∧s.State≠1∧Zeh b=(⟨b.Last,⟨s.ID,s.Need,1,s.Age⟩::l⟩,s.ID,0):=by
 unfold Zeh at h ⊢
 cases hk:Z3h b
 ·rw [hk] at h;simp at h
 ·rw [hk] at h
  simp only [if_true] at h ⊢
  refine ⟨trivial,?_⟩
  cases hs:b.Sess with
  | nil=>rw [hs] at h;simp at h
  | cons s l=>
    rw [hs] at h
    simp only at h ⊢
    by_cases h1:s.State=1
    ·rw [if_pos h1] at h;simp at h
    ·exact ⟨s,l,rfl,h1,by rw [if_neg h1]⟩
theorem s_grantM (m:Model) (hm:fewM m) (e:Event) {p:Place} (hp:at_ m.Places e.Node=some p):Zuk e m.Places=some (Zdn m.Places p e):=by
 have hl:=hm.2 p (Z5n hp)
 simp only [Zuk,hp,Option.bind_some,s_Grant p.Book hl.2,Ztk,Zdn]
 by_cases h1:(Zeh p.Book).2.2=0
 ·by_cases h2:(Zeh p.Book).2.1=e.ID
  ·obtain ⟨_,s,l,hs,_,hg⟩:=Zen h1
   have hsm:s∈p.Book.Sess:=by rw [hs];simp
   simp only [h1,h2,decide_true,Bool.not_true,Zi6,if_true]
   rw [hg]
   dsimp only
   rw [show at_ ((⟨s.ID,s.Need,1,s.Age⟩:Sess)::l) 0=some ⟨s.ID,s.Need,1,s.Age⟩ from rfl,Option.bind_some]
   dsimp only
   rw [Zya s.Need _ (fun q=>Z7n m.Places q e.Node) (by have:=hl.2.2 s hsm;omega) (fun q _=>by simp only [Z7j,s_uses m hm,Option.bind_some]),Option.bind_some]
   cases s.Need.any (fun q=>Z7n m.Places q e.Node)<;>rfl
  ·simp [h1,h2,Zzg]
 ·simp [h1,Zzg]
def endR (r:Book×Int):Book×Int:=if r.2=0 then (r.1,0) else (Zzg,204)
def Zfn (P:List Place) (p:Place) (e:Event):Book×Int:=
 if e.Kind=0 then (if (Zdh p.Book e.ID e.Need).2=0 then (if e.Need.all (fun z=>decide (z∈p.Live)) then Zdh p.Book e.ID e.Need else (Zzg,202)) else Zdh p.Book e.ID e.Need)
 else if e.Kind=1 then Zdn P p e
 else if e.Kind=2 then endR (endP p.Book e.ID 1)
 else if e.Kind=4 then endR (endP p.Book e.ID 1)
 else if e.Kind=5 then (if e.ID∈Z8n p then endR (endP p.Book e.ID 0) else (Zzg,205))
 else if e.Kind=3 then endR (endP p.Book e.ID 0)
 else (p.Book,0)
theorem s_session (m:Model) (hm:fewM m) (e:Event) (he:e.Need.length≤1000000) {p:Place} (hp:at_ m.Places e.Node=some p):Z7l e m.Places=some (Zfn m.Places p e):=by
 have hl:=hm.2 p (Z5n hp)
 have hd:(Z8n p).length≤1000000:=Nat.le_trans (due_len _ _) hl.2.1
 have e1:∀r:Book×Int,Z0l (r.2,r.1)=some (endR r):=fun r=>by
  simp only [Z0l,endR]
  by_cases h:r.2=0<;>simp [h,Zzg]
 simp only [Z7l,hp,s_Due4 m hm,Option.bind_some,Zfn]
 by_cases h0:e.Kind=0
 ·simp only [h0,decide_true,Zh6,if_true,Z6l,s_Open p.Book e.ID e.Need hl.2 he,Option.bind_some,s_Within e.Need p.Live he (by omega),Z5l]
  generalize Zdh p.Book e.ID e.Need=r
  obtain ⟨r1,r2⟩:=r
  by_cases h1:r2=0
  ·cases h2:e.Need.all fun z=>decide (z∈p.Live)<;>simp [h1,Zzg]
  ·simp [h1]
 rw [decide_eq_false h0,Zi6,if_neg h0]
 by_cases h1:e.Kind=1
 ·simp only [h1,decide_true,Zh6,if_true,Z4l,s_grantM m hm e hp,Option.bind_some]
 rw [decide_eq_false h1,Zi6,if_neg h1]
 by_cases h2:e.Kind=2
 ·simp only [h2,decide_true,Zh6,if_true,Z3l,s_Release p.Book e.ID hl.2,Option.bind_some,e1]
 rw [decide_eq_false h2,Zi6,if_neg h2]
 by_cases h4:e.Kind=4
 ·simp only [h4,decide_true,Zh6,if_true,Z3l,s_Release p.Book e.ID hl.2,Option.bind_some,e1]
 rw [decide_eq_false h4,Zi6,if_neg h4]
 by_cases h5:e.Kind=5
 ·simp only [h5,decide_true,Zh6,if_true,Z2l,Z1l,Zvd (Z8n p) e.ID hd,s_Cancel p.Book e.ID hl.2,Option.bind_some,e1]
  by_cases h6:e.ID∈Z8n p<;>simp [h6,Zzg]
 rw [decide_eq_false h5,Zi6,if_neg h5]
 by_cases h3:e.Kind=3
 ·simp only [h3,decide_true,Zh6,if_true,Z1l,s_Cancel p.Book e.ID hl.2,Option.bind_some,e1]
 rw [decide_eq_false h3,Zi6,if_neg h3]
 rfl
def doP (m:Model) (p:Place) (e:Event):Model×Int:=
 if ofE e then (if (Zcn m.Places p e).2=0 then (⟨m.Places.set e.Node.toNat ⟨p.Book,(Zcn m.Places p e).1⟩⟩,0) else (⟨[]⟩,(Zcn m.Places p e).2))
 else (if (Zfn m.Places p e).2=0 then (⟨m.Places.set e.Node.toNat ⟨(Zfn m.Places p e).1,p.Live⟩⟩,0) else (⟨[]⟩,(Zfn m.Places p e).2))
def Zgn (m:Model) (e:Event):Model×Int:=
 if okM m then
  match at_ m.Places e.Node with
  | none=>(⟨[]⟩,201)
  | some p=>
    if ofE e&&(!(at_ m.Places e.Peer).isSome||decide (e.Peer=e.Node)) then (⟨[]⟩,201)
    else if !decide (e.Kind=5)&&decide (Z8n p≠ []) then (⟨[]⟩,205)
    else if decide (e.Kind<0)||decide (8<e.Kind) then (⟨[]⟩,207)
    else doP m p e
 else (⟨[]⟩,200)
theorem s_Step (m:Model) (hm:fewM m) (e:Event) (he:e.Need.length≤1000000):Zvl m e=some (Zgn m e):=by
 have jb:∀z w,w≠0→Zql m e z w=some (⟨[]⟩,w):=fun z w hw=>by
  simp only [Zql,hw,decide_false,Bool.not_false,Zh6]
 have j1:Zvl m e=Zul m e (if okM m then 0 else 200) (ofE e):=by
  simp only [Zvl,s_mCheck m hm,Option.bind_some,ofE]
  by_cases h6:e.Kind=6
  ·simp [h6]
  ·by_cases h7:e.Kind=7
   ·simp [h7]
   ·simp [h6,h7]
 rw [j1]
 unfold Zgn
 cases hk:okM m
 ·simp only [Zul,Bool.false_eq_true,if_false]
  rw [show (!decide ((200:Int)=0))=true from rfl,Zh6,jb _ _ (by omega)]
 ·simp only [if_true]
  have j3:∀x3,Ztl m e x3 (ofE e) true=some (⟨[]⟩,201):=fun x3=>by
   simp only [Ztl,Zh6,jb _ 201 (by omega)]
  simp only [Zul,decide_true,Bool.not_true,Zi6,Z6n,Option.bind_some]
  cases hp:at_ m.Places e.Node with
  | none=>simp only [Option.isSome_none,Bool.not_false,Zh6,j3]
  | some p=>
    simp only [Option.isSome_some,Bool.not_true,Zi6]
    have hl:=hm.2 p (Z5n hp)
    have rest:(ofE e=true→∃q,at_ m.Places e.Peer=some q)→Ztl m e 0 (ofE e) false=some (if !decide (e.Kind=5)&&decide (Z8n p≠ []) then (⟨[]⟩,205) else if decide (e.Kind<0)||decide (8<e.Kind) then (⟨[]⟩,207) else doP m p e):=by
     intro hq
     have j2:Zql m e (ofE e) 0=some (doP m p e):=by
      have j6:∀(w:Int) (l:List Place),Zpl (w,l)=some (if w=0 then (⟨l⟩,0) else (⟨[]⟩,w)):=fun w l=>by
       simp only [Zpl]
       by_cases h:w=0<;>simp [h]
      simp only [Zql,decide_true,Bool.not_true,Zi6,s_mown m hm,Option.bind_some,hp,j6,doP]
      cases ho:ofE e
      ·rw [Zi6,s_session m hm e he hp,Option.bind_some];rfl
      ·obtain ⟨q,hq⟩:=hq ho
       rw [Zh6,s_edge m hm e hp hq,Option.bind_some];rfl
     have j5:∀z,Zrl m e 0 (ofE e) z=some (if z then (⟨[]⟩,207) else doP m p e):=fun z=>by
      simp only [Zrl,j2,jb _ 207 (by omega)]
      cases z<;>rfl
     have j4:∀z,Zsl m e 0 (ofE e) z=some (if z then (⟨[]⟩,205) else if decide (e.Kind<0)||decide (8<e.Kind) then (⟨[]⟩,207) else doP m p e):=fun z=>by
      simp only [Zsl,j5,jb _ 205 (by omega)]
      cases z
      ·cases decide (e.Kind<0)<;>simp
      ·rfl
     simp only [Ztl,Zi6,s_Due m hm,hp,Option.bind_some,j4,Zh5]
     have e0:decide ((0:Int)<((Z8n p).length:Nat))=decide (Z8n p≠ []):=by
      rw [decide_eq_decide]
      cases Z8n p<;>simp<;>omega
     rw [e0]
     cases decide (e.Kind=5)<;>simp
    cases ho:ofE e
    ·rw [ho] at rest
     rw [Zi6,Bool.false_and,if_neg (by simp),rest (by simp)]
    ·rw [ho] at rest j3
     rw [Zh6,Bool.true_and]
     cases hq:at_ m.Places e.Peer with
     | none=>simp only [Option.isSome_none,Bool.not_false,Zh6,j3,Bool.true_or,if_true]
     | some q=>
       simp only [Option.isSome_some,Bool.not_true,Zi6,Bool.false_or]
       by_cases hpn:e.Peer=e.Node
       ·simp only [hpn,decide_true,j3,if_true]
       ·simp only [hpn,decide_false,Bool.false_eq_true,if_false]
        exact rest fun _=>⟨q,hq⟩
set_option maxRecDepth 100000
set_option maxHeartbeats 4000000
@[go_sem] def e18_L0:EC:=.seq (.reg [(Qa 21 (.bin .lss (.t 20) (.t 19)))]) (.seq (.ite (.t 21) (.skip) (.exit 0)) (.seq (.blk 1 (.seq (.reg [(Qm 22 20),(Qk 23 5 18 20),(Qe 24 5 23),(Qa 9 (.alloc 41 [.iv 0,.iv 0,.iv 0,.iv 0,.nl])),(Qm 8 22),(Qs 5 9 24)]) (.seq (.reg [(Qe 26 1 6),(Qe 27 5 9),(Qa 28 (.call 11 [(.t 26),(.t 27)])),(Qm 25 28),(Qa 29 (.ext (.t 25) 0)),(Qa 30 (.ext (.t 25) 1)),(Qs 1 6 29),(Qm 7 30)]) (.seq (.reg [(Qm 31 7),(Qa 32 (.bin .neq (.t 31) (.c (.iv 0))))]) (.ite (.t 32) (.seq (.reg [(Qm 33 8),(Qm 34 7),(Qm 4 33),(Qm 5 34)]) (.ret)) (.skip)))))) (.reg [(Qv 35 20 1),(Qm 20 35)])))
@[go_sem] def e18:EC:=.seq (.reg [(Qx 2 24 2 0),(Qi 4 0),(Qi 5 0)]) (.seq (.reg [(Qe 11 2 2),(Qa 12 (.call 8 [(.t 11)])),(Qm 10 12),(Qa 13 (.ext (.t 10) 0)),(Qa 14 (.ext (.t 10) 1)),(Qa 6 (.alloc 30 [.nl])),(Qs 1 6 13),(Qm 7 14)]) (.seq (.seq (.reg [(Qm 15 7),(Qa 16 (.bin .neq (.t 15) (.c (.iv 0))))]) (.ite (.t 16) (.seq (.reg [(Qm 17 7),(Qi 4 0),(Qm 5 17)]) (.ret)) (.skip))) (.seq (.seq (.reg [(Qm 18 1),(Qa 19 (.len (.t 18))),(Qi 20 0)]) (.blk 0 (.loop e18_L0))) (.seq (.reg [(Qm 36 1),(Qa 37 (.len (.t 36))),(Qm 4 37),(Qi 5 0)]) (.ret)))))
theorem ok18:FnOK Try.prog 18 Try.f18 e18 [.t 4,.t 5] 2 36:=⟨by kernel_rfl,⟨_,rfl,by kernel_rfl⟩,by kernel_rfl,by kernel_rfl⟩
noncomputable def Zhn (x2:(List Event)):Unit→Option (Int×Int)
| ()=>
 some (ln Event.row x2,0)
noncomputable def Zin (x2:(List Event)):(Int×(List Place))→Option ((Int×(List Place)) ⊕ (Int×Int))
| (x8,x9)=>
 ifb (decide (x8<(ln Event.row x2))) (
 (at_ x2 x8).bind fun x10=>
 (Zvl ((Model.mk x9)) x10).bind fun x11=>
 ifb (!decide (x11.2=0)) (
 Option.map Sum.inr (some (x8,x11.2))) (
 some (.inl (wr (x8+1),x11.1.Places)))) (
 Option.map Sum.inr ((Zhn x2) ()))
noncomputable def Zjn (x1:Graph) (x2:(List Event)):Option (Int×Int):=
 (Zdm x1).bind fun x3=>
 ifb (!decide (x3.2=0)) (
 some (0,x3.2)) (
 loop (Zin x2) (0,x3.1.Places))
theorem Zkn (x1:Graph) (x2:(List Event)) (r:(Int×Int)) (h:Zjn x1 x2=some r):Zz2 Try.prog 18 [.agg (Graph.row x1),.sl 5 (List.map Event.row x2)] (.tup [.iv r.1,.iv r.2]):=by
 refine Z33 ok18 rfl rfl fun w0 H0=>?_
 rw [Zjn] at h
 refine Zu2 9 ?_;dsimp only [go_sem];refine An ?_;obtain ⟨x3,ex3,h⟩:=Bs h;refine Z83 trivial (Zem x1 _ ex3) (h:=?_);refine Zu2 13 ?_;dsimp only [go_sem];refine An ?_;refine Z05 h rfl (fun _ h=>?_) fun _ h=>?_
 ·refine Zu2 6 ?_;dsimp only [go_sem];refine An ?_;exact Z85 (res:=fun (r:(Int×Int))=>.tup [.iv r.1,.iv r.2]) ok18 h
 ·refine Zu2 8 ?_;dsimp only [go_sem];refine An ?_;refine Zy4 (fun (_:Unit)=>(⟨(.any :: .sl 5 (List.map Event.row x2)::an 36 []),[],[]⟩:St)) (Zhn x2) r ?_ fun J1=>?_
  ·rintro ⟨⟩ h;rw [Zhn] at h;(try dsimp only);refine Zu2 7 ?_;dsimp only [go_sem];refine An ?_;exact Z85 (res:=fun (r:(Int×Int))=>.tup [.iv r.1,.iv r.2]) ok18 h
  ·refine Zu2 1 ?_;dsimp only [go_sem];refine An ?_;refine Zz4 h (fun ((x8,x9):(Int×(List Place)))=>(⟨(.any :: .sl 5 (List.map Event.row x2)::an 4 (.ptr 1 0::an 11 (.sl 5 (List.map Event.row x2) :: .iv (ln Event.row x2) :: .iv x8::an 17 []))),[none,some ⟨30,[.sl 3 (List.map Place.row x9)]⟩],[]⟩:St)) (by simp [go_sem]) (by rintro ⟨x8,x9⟩;first | rfl | simp [go_sem]) ?_;rintro n1 ⟨x8,x9⟩ y1 h hin1 hout1;rw [Zin] at h;(try dsimp only);refine Zu2 5 ?_;dsimp only [go_sem];refine An ?_;refine Z05 h rfl (fun _ h=>?_) fun _ h=>?_
   ·refine Zu2 6 ?_;dsimp only [go_sem];refine An ?_;obtain ⟨x10,ex10,h⟩:=Bs h;refine Z35 Event.row ex10 trivial rfl rfl rfl ?_;refine Zu2 9 ?_;dsimp only [go_sem];refine An ?_;obtain ⟨x11,ex11,h⟩:=Bs h;refine Z83 trivial (Zwl ((Model.mk x9)) x10 _ ex11) (h:=?_);refine Zu2 11 ?_;dsimp only [go_sem];refine An ?_;refine Z05 h rfl (fun _ h=>?_) fun _ h=>?_
    ·refine Zu2 7 ?_;dsimp only [go_sem];refine An ?_;exact Z85 (res:=fun (r:(Int×Int))=>.tup [.iv r.1,.iv r.2]) ok18 (Zx4 h hout1)
    ·refine Zu2 6 ?_;dsimp only [go_sem];refine An ?_;exact Z95 h hin1
   ·refine Zu2 1 ?_;dsimp only [go_sem];refine An ?_;exact Za5 J1 (s:=()) (Zx4 h hout1)
def Zln (_F:Nat) (x2:(List Event)):Unit→Option (Int×Int)
| ()=>
 some (ln Event.row x2,0)
theorem Zmn {F:Nat} {x2:(List Event)}:∀s,ole (Zln F x2 s) (Zhn x2 s):=by
 rintro ⟨⟩
 unfold Zln Zhn
 try dsimp only
 with_reducible repeat' first | exact Zr4 _ | assumption | intro _ | refine Zs4 ?_ ?_ | refine Zt4 ?_ ?_ | refine Zu4 ?_ | refine Zw4 ?_
def Znn (F:Nat) (x2:(List Event)):(Int×(List Place))→Option ((Int×(List Place)) ⊕ (Int×Int))
| (x8,x9)=>
 ifb (decide (x8<(ln Event.row x2))) (
 (at_ x2 x8).bind fun x10=>
 (Z9m F ((Model.mk x9)) x10).bind fun x11=>
 ifb (!decide (x11.2=0)) (
 Option.map Sum.inr (some (x8,x11.2))) (
 some (.inl (wr (x8+1),x11.1.Places)))) (
 Option.map Sum.inr ((Zln F x2) ()))
theorem Zon {F:Nat} {x2:(List Event)}:∀s,ole (Znn F x2 s) (Zin x2 s):=by
 rintro ⟨x8,x9⟩
 unfold Znn Zin
 try dsimp only
 with_reducible repeat' first | exact Zr4 _ | assumption | intro _ | refine Zs4 ?_ ?_ | refine Zt4 ?_ ?_ | refine Zu4 ?_ | refine Zw4 ?_ | apply Zmn | apply Zam
def Zpn (F:Nat) (x1:Graph) (x2:(List Event)):Option (Int×Int):=
 (Zjm F x1).bind fun x3=>
 ifb (!decide (x3.2=0)) (
 some (0,x3.2)) (
 Zv4 F (Znn F x2) (0,x3.1.Places))
theorem Zqn {F:Nat} {x1:Graph} {x2:(List Event)}:ole (Zpn F x1 x2) (Zjn x1 x2):=by
 unfold Zpn Zjn
 with_reducible repeat' first | exact Zr4 _ | assumption | intro _ | refine Zs4 ?_ ?_ | refine Zt4 ?_ ?_ | refine Zu4 ?_ | refine Zw4 ?_ | apply Zmn | apply Zam | apply Zon | apply Zkm
set_option maxRecDepth 100000
set_option maxHeartbeats 4000000
@[go_sem] def e36_L0:EC:=.seq (.reg [(Qa 18 (.bin .lss (.t 17) (.t 16)))]) (.seq (.ite (.t 18) (.skip) (.exit 0)) (.seq (.blk 1 (.seq (.reg [(Qm 19 17),(Qk 20 3 15 17),(Qe 21 3 20),(Qa 8 (.alloc 51 [.iv 0,.nl,.nl])),(Qm 7 19),(Qs 3 8 21)]) (.seq (.reg [(Qm 22 1),(Qm 23 7),(Qk 24 3 22 23),(Qe 25 3 24),(Qa 9 (.alloc 51 [.iv 0,.nl,.nl])),(Qs 3 9 25)]) (.seq (.reg [(Qm 26 2),(Qe 27 3 8),(Qe 28 3 9),(Qa 29 (.callv (.t 26) [(.t 27),(.t 28)])),(Qa 30 (.not (.t 29)))]) (.ite (.t 30) (.seq (.reg [(Qa 6 (.mv (.c .ff)))]) (.ret)) (.skip)))))) (.reg [(Qv 31 17 1),(Qm 17 31)])))
@[go_sem] def e36:EC:=.seq (.reg [(Qa 6 (.mv (.c .ff)))]) (.seq (.seq (.reg [(Qm 10 0),(Qa 11 (.len (.t 10))),(Qm 12 1),(Qa 13 (.len (.t 12))),(Qa 14 (.bin .neq (.t 11) (.t 13)))]) (.ite (.t 14) (.seq (.reg [(Qa 6 (.mv (.c .ff)))]) (.ret)) (.skip))) (.seq (.seq (.reg [(Qm 15 0),(Qa 16 (.len (.t 15))),(Qi 17 0)]) (.blk 0 (.loop e36_L0))) (.seq (.reg [(Qa 6 (.mv (.c .tt)))]) (.ret))))
theorem ok36:FnOK Try.prog 36 Try.f36 e36 [.t 6] 3 29:=⟨by kernel_rfl,⟨_,rfl,by kernel_rfl⟩,by kernel_rfl,by kernel_rfl⟩
noncomputable def Zrn:Unit→Option Bool
| ()=>
 some true
noncomputable def Zsn (x1:(List Place)) (x2:(List Place)) (p2:((Place×Place)→Option Bool)):Int→Option (Int ⊕ Bool)
| x7=>
 ifb (decide (x7<(ln Place.row x1))) (
 (at_ x1 x7).bind fun x8=>
 (at_ x2 x7).bind fun x9=>
 (p2 (x8,x9)).bind fun x10=>
 ifb (!x10) (
 Option.map Sum.inr (some false)) (
 some (.inl (wr (x7+1))))) (
 Option.map Sum.inr (Zrn ()))
noncomputable def Ztn (x1:(List Place)) (x2:(List Place)) (p2:((Place×Place)→Option Bool)):Option Bool:=
 ifb (!decide ((ln Place.row x1)=(ln Place.row x2))) (
 some false) (
 loop (Zsn x1 x2 p2) 0)
theorem Zun (x1:(List Place)) (x2:(List Place)) (g2:Nat) (caps2:List AV) (p2:((Place×Place)→Option Bool)) (hc2:CloOK Try.prog g2 caps2 (fun z=>[.agg (Place.row z.1),.agg (Place.row z.2)]) p2 (fun z=>.bv z)) (r:Bool) (h:Ztn x1 x2 p2=some r):Zz2 Try.prog 36 [.sl 3 (List.map Place.row x1),.sl 3 (List.map Place.row x2),.clo g2 caps2] (.bv r):=by
 refine Z33 ok36 rfl rfl fun w0 H0=>?_
 rw [Ztn] at h
 refine Zu2 13 ?_;dsimp only [go_sem];refine An ?_;refine Z05 h rfl (fun _ h=>?_) fun _ h=>?_
 ·refine Zu2 4 ?_;dsimp only [go_sem];refine An ?_;exact Z85 (res:=fun (r:Bool)=>.bv r) ok36 h
 ·refine Zu2 8 ?_;dsimp only [go_sem];refine An ?_;refine Zy4 (fun (_:Unit)=>(⟨(an 32 []),[],[]⟩:St)) Zrn r ?_ fun J1=>?_
  ·rintro ⟨⟩ h;rw [Zrn] at h;(try dsimp only);refine Zu2 4 ?_;dsimp only [go_sem];refine An ?_;exact Z85 (res:=fun (r:Bool)=>.bv r) ok36 h
  ·refine Zu2 1 ?_;dsimp only [go_sem];refine An ?_;refine Zz4 h (fun (x7:Int)=>(⟨(.any :: .sl 3 (List.map Place.row x2) :: .clo g2 caps2::an 12 (.sl 3 (List.map Place.row x1) :: .iv (ln Place.row x1) :: .iv x7::an 14 [])),[],[]⟩:St)) (by simp [go_sem]) (by intro x7;first | rfl | simp [go_sem,Zk4 _ hc2.pu]) ?_;rintro n1 x7 y1 h hin1 hout1;rw [Zsn] at h;(try dsimp only);refine Zu2 5 ?_;dsimp only [go_sem];refine An ?_;refine Z05 h rfl (fun _ h=>?_) fun _ h=>?_
   ·refine Zu2 6 ?_;dsimp only [go_sem];refine An ?_;obtain ⟨x8,ex8,h⟩:=Bs h;refine Z35 Place.row ex8 trivial rfl rfl rfl ?_;refine Zu2 9 ?_;dsimp only [go_sem];refine An ?_;obtain ⟨x9,ex9,h⟩:=Bs h;refine Z35 Place.row ex9 trivial rfl rfl rfl ?_;refine Zu2 9 ?_;dsimp only [go_sem];refine An ?_;obtain ⟨x10,ex10,h⟩:=Bs h;refine Ze5 trivial rfl hc2 (x:=(x8,x9)) ex10 (by first | exact Zl4 _ | simp [go_sem]) (by first | rfl | simp [go_sem,hc2.pu]) ?_;refine Zu2 2 ?_;dsimp only [go_sem];refine An ?_
    refine Z05 h rfl (fun _ h=>?_) fun _ h=>?_
    ·refine Zu2 4 ?_;dsimp only [go_sem];refine An ?_;exact Z85 (res:=fun (r:Bool)=>.bv r) ok36 (Zx4 h hout1)
    ·refine Zu2 6 ?_;dsimp only [go_sem];refine An ?_;exact Z95 h hin1 (hok:=by first | rfl | simp [go_sem,Zk4 _ hc2.pu])
   ·refine Zu2 1 ?_;dsimp only [go_sem];refine An ?_;exact Za5 J1 (s:=()) (Zx4 h hout1) (hok:=by first | rfl | simp [go_sem,Zk4 _ hc2.pu])
def Zvn (_F:Nat):Unit→Option Bool
| ()=>
 some true
theorem Zwn {F:Nat}:∀s,ole (Zvn F s) (Zrn s):=by
 rintro ⟨⟩
 unfold Zvn Zrn
 try dsimp only
 with_reducible repeat' first | exact Zr4 _ | assumption | intro _ | refine Zs4 ?_ ?_ | refine Zt4 ?_ ?_ | refine Zu4 ?_ | refine Zw4 ?_ | apply h_p2
def Zxn (F:Nat) (x1:(List Place)) (x2:(List Place)) (p2:((Place×Place)→Option Bool)):Int→Option (Int ⊕ Bool)
| x7=>
 ifb (decide (x7<(ln Place.row x1))) (
 (at_ x1 x7).bind fun x8=>
 (at_ x2 x7).bind fun x9=>
 (p2 (x8,x9)).bind fun x10=>
 ifb (!x10) (
 Option.map Sum.inr (some false)) (
 some (.inl (wr (x7+1))))) (
 Option.map Sum.inr (Zvn F ()))
theorem Zyn {F:Nat} {x1:(List Place)} {x2:(List Place)} {p2 q2:((Place×Place)→Option Bool)} (h_p2:∀z,ole (p2 z) (q2 z)):∀s,ole (Zxn F x1 x2 p2 s) (Zsn x1 x2 q2 s):=by
 intro x7
 unfold Zxn Zsn
 try dsimp only
 with_reducible repeat' first | exact Zr4 _ | assumption | intro _ | refine Zs4 ?_ ?_ | refine Zt4 ?_ ?_ | refine Zu4 ?_ | refine Zw4 ?_ | apply Zwn | apply h_p2
def Zzn (F:Nat) (x1:(List Place)) (x2:(List Place)) (p2:((Place×Place)→Option Bool)):Option Bool:=
 ifb (!decide ((ln Place.row x1)=(ln Place.row x2))) (
 some false) (
 Zv4 F (Zxn F x1 x2 p2) 0)
theorem Z0o {F:Nat} {x1:(List Place)} {x2:(List Place)} {p2 q2:((Place×Place)→Option Bool)} (h_p2:∀z,ole (p2 z) (q2 z)):ole (Zzn F x1 x2 p2) (Ztn x1 x2 q2):=by
 unfold Zzn Ztn
 with_reducible repeat' first | exact Zr4 _ | assumption | intro _ | refine Zs4 ?_ ?_ | refine Zt4 ?_ ?_ | refine Zu4 ?_ | refine Zw4 ?_ | apply Zwn | apply Zyn | apply h_p2
set_option maxRecDepth 100000
set_option maxHeartbeats 4000000
@[go_sem] def e60_L0:EC:=.seq (.reg [(Qa 18 (.bin .lss (.t 17) (.t 16)))]) (.seq (.ite (.t 18) (.skip) (.exit 0)) (.seq (.blk 1 (.seq (.reg [(Qm 19 17),(Qk 20 4 15 17),(Qe 21 4 20),(Qa 8 (.alloc 76 [.iv 0,.nl,.iv 0,.iv 0])),(Qm 7 19),(Qs 4 8 21)]) (.seq (.reg [(Qm 22 1),(Qm 23 7),(Qk 24 4 22 23),(Qe 25 4 24),(Qa 9 (.alloc 76 [.iv 0,.nl,.iv 0,.iv 0])),(Qs 4 9 25)]) (.seq (.reg [(Qm 26 2),(Qe 27 4 8),(Qe 28 4 9),(Qa 29 (.callv (.t 26) [(.t 27),(.t 28)])),(Qa 30 (.not (.t 29)))]) (.ite (.t 30) (.seq (.reg [(Qa 6 (.mv (.c .ff)))]) (.ret)) (.skip)))))) (.reg [(Qv 31 17 1),(Qm 17 31)])))
@[go_sem] def e60:EC:=.seq (.reg [(Qa 6 (.mv (.c .ff)))]) (.seq (.seq (.reg [(Qm 10 0),(Qa 11 (.len (.t 10))),(Qm 12 1),(Qa 13 (.len (.t 12))),(Qa 14 (.bin .neq (.t 11) (.t 13)))]) (.ite (.t 14) (.seq (.reg [(Qa 6 (.mv (.c .ff)))]) (.ret)) (.skip))) (.seq (.seq (.reg [(Qm 15 0),(Qa 16 (.len (.t 15))),(Qi 17 0)]) (.blk 0 (.loop e60_L0))) (.seq (.reg [(Qa 6 (.mv (.c .tt)))]) (.ret))))
theorem ok60:FnOK Try.prog 60 Try.f60 e60 [.t 6] 3 29:=⟨by kernel_rfl,⟨_,rfl,by kernel_rfl⟩,by kernel_rfl,by kernel_rfl⟩
noncomputable def Z1o:Unit→Option Bool
| ()=>
 some true
noncomputable def Z2o (x1:(List Sess)) (x2:(List Sess)) (p2:((Sess×Sess)→Option Bool)):Int→Option (Int ⊕ Bool)
| x7=>
 ifb (decide (x7<(ln Sess.row x1))) (
 (at_ x1 x7).bind fun x8=>
 (at_ x2 x7).bind fun x9=>
 (p2 (x8,x9)).bind fun x10=>
 ifb (!x10) (
 Option.map Sum.inr (some false)) (
 some (.inl (wr (x7+1))))) (
 Option.map Sum.inr (Z1o ()))
noncomputable def Z3o (x1:(List Sess)) (x2:(List Sess)) (p2:((Sess×Sess)→Option Bool)):Option Bool:=
 ifb (!decide ((ln Sess.row x1)=(ln Sess.row x2))) (
 some false) (
 loop (Z2o x1 x2 p2) 0)
theorem Z4o (x1:(List Sess)) (x2:(List Sess)) (g2:Nat) (caps2:List AV) (p2:((Sess×Sess)→Option Bool)) (hc2:CloOK Try.prog g2 caps2 (fun z=>[.agg (Sess.row z.1),.agg (Sess.row z.2)]) p2 (fun z=>.bv z)) (r:Bool) (h:Z3o x1 x2 p2=some r):Zz2 Try.prog 60 [.sl 4 (List.map Sess.row x1),.sl 4 (List.map Sess.row x2),.clo g2 caps2] (.bv r):=by
 refine Z33 ok60 rfl rfl fun w0 H0=>?_
 rw [Z3o] at h
 refine Zu2 13 ?_;dsimp only [go_sem];refine An ?_;refine Z05 h rfl (fun _ h=>?_) fun _ h=>?_
 ·refine Zu2 4 ?_;dsimp only [go_sem];refine An ?_;exact Z85 (res:=fun (r:Bool)=>.bv r) ok60 h
 ·refine Zu2 8 ?_;dsimp only [go_sem];refine An ?_;refine Zy4 (fun (_:Unit)=>(⟨(an 32 []),[],[]⟩:St)) Z1o r ?_ fun J1=>?_
  ·rintro ⟨⟩ h;rw [Z1o] at h;(try dsimp only);refine Zu2 4 ?_;dsimp only [go_sem];refine An ?_;exact Z85 (res:=fun (r:Bool)=>.bv r) ok60 h
  ·refine Zu2 1 ?_;dsimp only [go_sem];refine An ?_;refine Zz4 h (fun (x7:Int)=>(⟨(.any :: .sl 4 (List.map Sess.row x2) :: .clo g2 caps2::an 12 (.sl 4 (List.map Sess.row x1) :: .iv (ln Sess.row x1) :: .iv x7::an 14 [])),[],[]⟩:St)) (by simp [go_sem]) (by intro x7;first | rfl | simp [go_sem,Zk4 _ hc2.pu]) ?_;rintro n1 x7 y1 h hin1 hout1;rw [Z2o] at h;(try dsimp only);refine Zu2 5 ?_;dsimp only [go_sem];refine An ?_;refine Z05 h rfl (fun _ h=>?_) fun _ h=>?_
   ·refine Zu2 6 ?_;dsimp only [go_sem];refine An ?_;obtain ⟨x8,ex8,h⟩:=Bs h;refine Z35 Sess.row ex8 trivial rfl rfl rfl ?_;refine Zu2 9 ?_;dsimp only [go_sem];refine An ?_;obtain ⟨x9,ex9,h⟩:=Bs h;refine Z35 Sess.row ex9 trivial rfl rfl rfl ?_;refine Zu2 9 ?_;dsimp only [go_sem];refine An ?_;obtain ⟨x10,ex10,h⟩:=Bs h;refine Ze5 trivial rfl hc2 (x:=(x8,x9)) ex10 (by first | exact Zl4 _ | simp [go_sem]) (by first | rfl | simp [go_sem,hc2.pu]) ?_;refine Zu2 2 ?_;dsimp only [go_sem];refine An ?_;refine Z05 h rfl (fun _ h=>?_) fun _ h=>?_
    ·refine Zu2 4 ?_;dsimp only [go_sem];refine An ?_;exact Z85 (res:=fun (r:Bool)=>.bv r) ok60 (Zx4 h hout1)
    ·refine Zu2 6 ?_;dsimp only [go_sem];refine An ?_;exact Z95 h hin1 (hok:=by first | rfl | simp [go_sem,Zk4 _ hc2.pu])
   ·refine Zu2 1 ?_;dsimp only [go_sem];refine An ?_;exact Za5 J1 (s:=()) (Zx4 h hout1) (hok:=by first | rfl | simp [go_sem,Zk4 _ hc2.pu])
def Z5o (_F:Nat):Unit→Option Bool
| ()=>
 some true
theorem Z6o {F:Nat}:∀s,ole (Z5o F s) (Z1o s):=by
 rintro ⟨⟩
 unfold Z5o Z1o
 try dsimp only
 with_reducible repeat' first | exact Zr4 _ | assumption | intro _ | refine Zs4 ?_ ?_ | refine Zt4 ?_ ?_ | refine Zu4 ?_ | refine Zw4 ?_ | apply h_p2
def Z7o (F:Nat) (x1:(List Sess)) (x2:(List Sess)) (p2:((Sess×Sess)→Option Bool)):Int→Option (Int ⊕ Bool)
| x7=>
 ifb (decide (x7<(ln Sess.row x1))) (
 (at_ x1 x7).bind fun x8=>
 (at_ x2 x7).bind fun x9=>
 (p2 (x8,x9)).bind fun x10=>
 ifb (!x10) (
 Option.map Sum.inr (some false)) (
 some (.inl (wr (x7+1))))) (
 Option.map Sum.inr (Z5o F ()))
theorem Z8o {F:Nat} {x1:(List Sess)} {x2:(List Sess)} {p2 q2:((Sess×Sess)→Option Bool)} (h_p2:∀z,ole (p2 z) (q2 z)):∀s,ole (Z7o F x1 x2 p2 s) (Z2o x1 x2 q2 s):=by
 intro x7
 unfold Z7o Z2o
 try dsimp only
 with_reducible repeat' first | exact Zr4 _ | assumption | intro _ | refine Zs4 ?_ ?_ | refine Zt4 ?_ ?_ | refine Zu4 ?_ | refine Zw4 ?_ | apply Z6o | apply h_p2
def Z9o (F:Nat) (x1:(List Sess)) (x2:(List Sess)) (p2:((Sess×Sess)→Option Bool)):Option Bool:=
 ifb (!decide ((ln Sess.row x1)=(ln Sess.row x2))) (
 some false) (
 Zv4 F (Z7o F x1 x2 p2) 0)
theorem Zao {F:Nat} {x1:(List Sess)} {x2:(List Sess)} {p2 q2:((Sess×Sess)→Option Bool)} (h_p2:∀z,ole (p2 z) (q2 z)):ole (Z9o F x1 x2 p2) (Z3o x1 x2 q2):=by
 unfold Z9o Z3o
 with_reducible repeat' first | exact Zr4 _ | assumption | intro _ | refine Zs4 ?_ ?_ | refine Zt4 ?_ ?_ | refine Zu4 ?_ | refine Zw4 ?_ | apply Z6o | apply Z8o | apply h_p2
set_option maxRecDepth 100000
set_option maxHeartbeats 4000000
@[go_sem] def e39_L0:EC:=.seq (.reg [(Qa 14 (.bin .lss (.t 13) (.t 12)))]) (.seq (.ite (.t 14) (.skip) (.exit 0)) (.seq (.blk 1 (.seq (.reg [(Qm 15 13),(Qm 5 15)]) (.seq (.drw [(Qm 16 0),(Qm 17 5),(Qk 18 1 16 17),(Ql 19 18),(Qm 20 1),(Qm 21 5),(Qk 22 1 20 21),(Ql 23 22),(Qa 24 (.bin .neq (.t 19) (.t 23)))] [[],[],[0,1],[2],[],[],[4,5],[6],[3,7]] [[2],[2],[0,1,3],[2,8],[6],[6],[4,5,7],[6,8],[3,7]]) (.ite (.t 24) (.seq (.reg [(Qa 4 (.mv (.c .ff)))]) (.ret)) (.skip))))) (.reg [(Qv 25 13 1),(Qm 13 25)])))
@[go_sem] def e39:EC:=.seq (.reg [(Qa 4 (.mv (.c .ff)))]) (.seq (.seq (.reg [(Qm 6 0),(Qa 7 (.len (.t 6))),(Qm 8 1),(Qa 9 (.len (.t 8))),(Qa 10 (.bin .neq (.t 7) (.t 9)))]) (.ite (.t 10) (.seq (.reg [(Qa 4 (.mv (.c .ff)))]) (.ret)) (.skip))) (.seq (.seq (.reg [(Qm 11 0),(Qa 12 (.len (.t 11))),(Qi 13 0)]) (.blk 0 (.loop e39_L0))) (.seq (.reg [(Qa 4 (.mv (.c .tt)))]) (.ret))))
theorem ok39:FnOK Try.prog 39 Try.f39 e39 [.t 4] 2 24:=⟨by kernel_rfl,⟨_,rfl,by kernel_rfl⟩,by kernel_rfl,by kernel_rfl⟩
noncomputable def Zbo:Unit→Option Bool
| ()=>
 some true
noncomputable def Zco (x1:(List Int)) (x2:(List Int)):Int→Option (Int ⊕ Bool)
| x6=>
 ifb (decide (x6<(ln Zf5 x1))) (
 (at_ x1 x6).bind fun x7=>
 (at_ x2 x6).bind fun x8=>
 ifb (!decide (x7=x8)) (
 Option.map Sum.inr (some false)) (
 some (.inl (wr (x6+1))))) (
 Option.map Sum.inr (Zbo ()))
noncomputable def Zdo (x1:(List Int)) (x2:(List Int)):Option Bool:=
 ifb (!decide ((ln Zf5 x1)=(ln Zf5 x2))) (
 some false) (
 loop (Zco x1 x2) 0)
theorem Zeo (x1:(List Int)) (x2:(List Int)) (r:Bool) (h:Zdo x1 x2=some r):Zz2 Try.prog 39 [.sl 1 (List.map Zf5 x1),.sl 1 (List.map Zf5 x2)] (.bv r):=by
 refine Z33 ok39 rfl rfl fun w0 H0=>?_
 rw [Zdo] at h
 refine Zu2 13 ?_;dsimp only [go_sem];refine An ?_;refine Z05 h rfl (fun _ h=>?_) fun _ h=>?_
 ·refine Zu2 4 ?_;dsimp only [go_sem];refine An ?_;exact Z85 (res:=fun (r:Bool)=>.bv r) ok39 h
 ·refine Zu2 8 ?_;dsimp only [go_sem];refine An ?_;refine Zy4 (fun (_:Unit)=>(⟨(an 26 []),[],[]⟩:St)) Zbo r ?_ fun J1=>?_
  ·rintro ⟨⟩ h;rw [Zbo] at h;(try dsimp only);refine Zu2 4 ?_;dsimp only [go_sem];refine An ?_;exact Z85 (res:=fun (r:Bool)=>.bv r) ok39 h
  ·refine Zu2 1 ?_;dsimp only [go_sem];refine An ?_;refine Zz4 h (fun (x6:Int)=>(⟨(.sl 1 (List.map Zf5 x1) :: .sl 1 (List.map Zf5 x2)::an 10 (.iv (ln Zf5 x1) :: .iv x6::an 12 [])),[],[]⟩:St)) (by simp [go_sem]) (by intro x6;first | rfl | simp [go_sem]) ?_;rintro n1 x6 y1 h hin1 hout1;rw [Zco] at h;(try dsimp only);refine Zu2 5 ?_;dsimp only [go_sem];refine An ?_;refine Z05 h rfl (fun _ h=>?_) fun _ h=>?_
   ·refine Zu2 9 ?_;dsimp only [go_sem];refine An ?_;refine Zu3 (by kernel_rfl) fun all hall hs hnap haf=>?_;dsimp only [go_sem];refine Zt5 hall hs haf hnap 4 5 ?_;dsimp only [go_sem];refine An ?_;obtain ⟨x7,ex7,h⟩:=Bs h;refine Z45 hall hs haf hnap 2 Zf5 ex7 rfl rfl trivial rfl rfl rfl rfl ?_;refine Zt5 hall hs haf hnap 1 3 ?_;dsimp only [go_sem];refine An ?_;obtain ⟨x8,ex8,h⟩:=Bs h;refine Z45 hall hs haf hnap 6 Zf5 ex8 rfl rfl trivial rfl rfl rfl rfl ?_;refine Zt5 hall hs haf hnap 2 0 ?_;dsimp only [go_sem];refine An ?_;refine Z44 rfl ?_ _
    refine Z05 h rfl (fun _ h=>?_) fun _ h=>?_
    ·refine Zu2 4 ?_;dsimp only [go_sem];refine An ?_;exact Z85 (res:=fun (r:Bool)=>.bv r) ok39 (Zx4 h hout1)
    ·refine Zu2 6 ?_;dsimp only [go_sem];refine An ?_;exact Z95 h hin1
   ·refine Zu2 1 ?_;dsimp only [go_sem];refine An ?_;exact Za5 J1 (s:=()) (Zx4 h hout1)
def Zfo (_F:Nat):Unit→Option Bool
| ()=>
 some true
theorem Zgo {F:Nat}:∀s,ole (Zfo F s) (Zbo s):=by
 rintro ⟨⟩
 unfold Zfo Zbo
 try dsimp only
 with_reducible repeat' first | exact Zr4 _ | assumption | intro _ | refine Zs4 ?_ ?_ | refine Zt4 ?_ ?_ | refine Zu4 ?_ | refine Zw4 ?_
def Zho (F:Nat) (x1:(List Int)) (x2:(List Int)):Int→Option (Int ⊕ Bool)
| x6=>
 ifb (decide (x6<(ln Zf5 x1))) (
 (at_ x1 x6).bind fun x7=>
 (at_ x2 x6).bind fun x8=>
 ifb (!decide (x7=x8)) (
 Option.map Sum.inr (some false)) (
 some (.inl (wr (x6+1))))) (
 Option.map Sum.inr (Zfo F ()))
theorem Zio {F:Nat} {x1:(List Int)} {x2:(List Int)}:∀s,ole (Zho F x1 x2 s) (Zco x1 x2 s):=by
 intro x6
 unfold Zho Zco
 try dsimp only
 with_reducible repeat' first | exact Zr4 _ | assumption | intro _ | refine Zs4 ?_ ?_ | refine Zt4 ?_ ?_ | refine Zu4 ?_ | refine Zw4 ?_ | apply Zgo
def Zjo (F:Nat) (x1:(List Int)) (x2:(List Int)):Option Bool:=
 ifb (!decide ((ln Zf5 x1)=(ln Zf5 x2))) (
 some false) (
 Zv4 F (Zho F x1 x2) 0)
theorem Zko {F:Nat} {x1:(List Int)} {x2:(List Int)}:ole (Zjo F x1 x2) (Zdo x1 x2):=by
 unfold Zjo Zdo
 with_reducible repeat' first | exact Zr4 _ | assumption | intro _ | refine Zs4 ?_ ?_ | refine Zt4 ?_ ?_ | refine Zu4 ?_ | refine Zw4 ?_ | apply Zgo | apply Zio
set_option maxRecDepth 100000
set_option maxHeartbeats 4000000
@[go_sem] def e61:EC:=.seq (.reg [(Qx 2 76 4 0),(Qx 3 76 4 1),(Qa 4 (.mv (.c .ff)))]) (.seq (.reg [(Qf 5 0 2),(Ql 6 5),(Qf 7 0 3),(Ql 8 7),(Qa 9 (.bin .eql (.t 6) (.t 8))),(Qm 10 9),(Qh 11 10 true 2 2),(Qn 12 10 true 11),(Qh 13 10 true 2 3),(Qn 14 10 true 13),(Qg 15 10 true (.bin .eql (.t 12) (.t 14))),(Qp 16 10 15),(Qm 17 16),(Qh 18 17 true 3 2),(Qn 19 17 true 18),(Qh 20 17 true 3 3),(Qn 21 17 true 20),(Qg 22 17 true (.bin .eql (.t 19) (.t 21))),(Qp 23 17 22),(Qm 24 23),(Qh 25 24 true 1 2),(Qn 26 24 true 25),(Qh 27 24 true 1 3),(Qn 28 24 true 27),(Qg 29 24 true (.call 39 [(.t 26),(.t 28)])),(Qp 30 24 29),(Qm 4 30)]) (.ret))
theorem ok61:FnOK Try.prog 61 Try.f61 e61 [.t 4] 2 29:=⟨by kernel_rfl,⟨_,rfl,by kernel_rfl⟩,by kernel_rfl,by kernel_rfl⟩
noncomputable def Zlo:Bool→Option Bool
| x4=>
 some x4
noncomputable def Zmo (x1:Sess) (x2:Sess):Option Bool:=
 ifb (decide (x1.ID=x2.ID)) (
 ifb (decide (x1.State=x2.State)) (
 ifb (decide (x1.Age=x2.Age)) (
 (Zdo x1.Need x2.Need).bind fun x3=>
 Zlo x3) (
 Zlo false)) (
 Zlo false)) (
 Zlo false)
theorem k_sess_Same_1 (x1:Sess) (x2:Sess) (r:Bool) (h:Zmo x1 x2=some r):Zz2 Try.prog 61 [.agg (Sess.row x1),.agg (Sess.row x2)] (.bv r):=by
 refine Z33 ok61 rfl rfl fun w0 H0=>?_
 rw [Zmo] at h
 refine Zu2 14 ?_;dsimp only [go_sem];refine An ?_;refine Zy4 (fun (x4:Bool)=>(⟨(an 4 (.bv x4::an 26 [])),[],[]⟩:St)) Zlo r ?_ fun J1=>?_
 ·intro x4 h;rw [Zlo] at h;(try dsimp only);exact Z85 (res:=fun (r:Bool)=>.bv r) ok61 h
 ·refine Z75 10 h rfl (fun _ h=>?_) fun _ h=>?_
  ·dsimp only [go_sem];refine Zu2 7 ?_;dsimp only [go_sem];refine An ?_;refine Z75 17 h rfl (fun _ h=>?_) fun _ h=>?_
   ·dsimp only [go_sem];refine Zu2 7 ?_;dsimp only [go_sem];refine An ?_;refine Z75 24 h rfl (fun _ h=>?_) fun _ h=>?_
    ·dsimp only [go_sem];refine Zu2 4 ?_;dsimp only [go_sem];refine An ?_;obtain ⟨x3,ex3,h⟩:=Bs h;refine Z83 trivial (Zeo x1.Need x2.Need _ ex3) (h:=?_);refine Zu2 3 ?_;dsimp only [go_sem];refine An ?_;exact Za5 J1 (s:=x3) h
    ·dsimp only [go_sem];refine Zu2 8 ?_;dsimp only [go_sem];refine An ?_;exact Za5 J1 (s:=false) h
   ·dsimp only [go_sem];refine Zu2 15 ?_;dsimp only [go_sem];refine An ?_;exact Za5 J1 (s:=false) h
  ·dsimp only [go_sem];refine Zu2 22 ?_;dsimp only [go_sem];refine An ?_;exact Za5 J1 (s:=false) h
def Zno (_F:Nat):Bool→Option Bool
| x4=>
 some x4
theorem Zoo {F:Nat}:∀s,ole (Zno F s) (Zlo s):=by
 intro x4
 unfold Zno Zlo
 try dsimp only
 with_reducible repeat' first | exact Zr4 _ | assumption | intro _ | refine Zs4 ?_ ?_ | refine Zt4 ?_ ?_ | refine Zu4 ?_ | refine Zw4 ?_
def Zpo (F:Nat) (x1:Sess) (x2:Sess):Option Bool:=
 ifb (decide (x1.ID=x2.ID)) (
 ifb (decide (x1.State=x2.State)) (
 ifb (decide (x1.Age=x2.Age)) (
 (Zjo F x1.Need x2.Need).bind fun x3=>
 Zno F x3) (
 Zno F false)) (
 Zno F false)) (
 Zno F false)
theorem Zqo {F:Nat} {x1:Sess} {x2:Sess}:ole (Zpo F x1 x2) (Zmo x1 x2):=by
 unfold Zpo Zmo
 with_reducible repeat' first | exact Zr4 _ | assumption | intro _ | refine Zs4 ?_ ?_ | refine Zt4 ?_ ?_ | refine Zu4 ?_ | refine Zw4 ?_ | apply Zoo | apply Zko
set_option maxRecDepth 100000
set_option maxHeartbeats 4000000
@[go_sem] def e38:EC:=.seq (.reg [(Qx 2 49 2 0),(Qx 3 49 2 1),(Qa 4 (.mv (.c .ff)))]) (.seq (.reg [(Qf 5 0 2),(Ql 6 5),(Qf 7 0 3),(Ql 8 7),(Qa 9 (.bin .eql (.t 6) (.t 8))),(Qm 10 9),(Qh 11 10 true 1 2),(Qn 12 10 true 11),(Qh 13 10 true 1 3),(Qn 14 10 true 13),(Qg 15 10 true (.call 60 [(.t 12),(.t 14),(.c (.clo 61 []))])),(Qp 16 10 15),(Qm 4 16)]) (.ret))
theorem ok38:FnOK Try.prog 38 Try.f38 e38 [.t 4] 2 15:=⟨by kernel_rfl,⟨_,rfl,by kernel_rfl⟩,by kernel_rfl,by kernel_rfl⟩
noncomputable def Zro:Bool→Option Bool
| x4=>
 some x4
noncomputable def Zso (x1:Book) (x2:Book):Option Bool:=
 ifb (decide (x1.Last=x2.Last)) (
 (Z3o x1.Sess x2.Sess ((fun z=>Zmo z.1 z.2))).bind fun x3=>
 Zro x3) (
 Zro false)
theorem k_sess_Same (x1:Book) (x2:Book) (r:Bool) (h:Zso x1 x2=some r):Zz2 Try.prog 38 [.agg (Book.row x1),.agg (Book.row x2)] (.bv r):=by
 refine Z33 ok38 rfl rfl fun w0 H0=>?_
 rw [Zso] at h
 refine Zu2 14 ?_;dsimp only [go_sem];refine An ?_;refine Zy4 (fun (x4:Bool)=>(⟨(an 4 (.bv x4::an 12 [])),[],[]⟩:St)) Zro r ?_ fun J1=>?_
 ·intro x4 h;rw [Zro] at h;(try dsimp only);exact Z85 (res:=fun (r:Bool)=>.bv r) ok38 h
 ·refine Z75 10 h rfl (fun _ h=>?_) fun _ h=>?_
  ·dsimp only [go_sem];refine Zu2 4 ?_;dsimp only [go_sem];refine An ?_;obtain ⟨x3,ex3,h⟩:=Bs h;refine Z83 trivial (Z4o x1.Sess x2.Sess _ _ ((fun z=>Zmo z.1 z.2)) ⟨by kernel_rfl,rfl,fun z r hz=>k_sess_Same_1 z.1 z.2 r hz⟩ _ ex3) (h:=?_);refine Zu2 3 ?_;dsimp only [go_sem];refine An ?_;exact Za5 J1 (s:=x3) h
  ·dsimp only [go_sem];refine Zu2 8 ?_;dsimp only [go_sem];refine An ?_;exact Za5 J1 (s:=false) h
def Zto (_F:Nat):Bool→Option Bool
| x4=>
 some x4
theorem Zuo {F:Nat}:∀s,ole (Zto F s) (Zro s):=by
 intro x4
 unfold Zto Zro
 try dsimp only
 with_reducible repeat' first | exact Zr4 _ | assumption | intro _ | refine Zs4 ?_ ?_ | refine Zt4 ?_ ?_ | refine Zu4 ?_ | refine Zw4 ?_
def Zvo (F:Nat) (x1:Book) (x2:Book):Option Bool:=
 ifb (decide (x1.Last=x2.Last)) (
 (Z9o F x1.Sess x2.Sess ((fun z=>Zpo F z.1 z.2))).bind fun x3=>
 Zto F x3) (
 Zto F false)
theorem le_sess_Same {F:Nat} {x1:Book} {x2:Book}:ole (Zvo F x1 x2) (Zso x1 x2):=by
 unfold Zvo Zso
 with_reducible repeat' first | exact Zr4 _ | assumption | intro _ | refine Zs4 ?_ ?_ | refine Zt4 ?_ ?_ | refine Zu4 ?_ | refine Zw4 ?_ | apply Zuo | apply Zao | apply Zqo
set_option maxRecDepth 100000
set_option maxHeartbeats 4000000
@[go_sem] def e37:EC:=.seq (.reg [(Qx 2 51 3 0),(Qx 3 51 3 1),(Qa 4 (.mv (.c .ff)))]) (.seq (.reg [(Qf 5 0 2),(Qe 6 2 5),(Qf 7 0 3),(Qe 8 2 7),(Qa 9 (.call 38 [(.t 6),(.t 8)])),(Qm 10 9),(Qh 11 10 true 2 2),(Qn 12 10 true 11),(Qh 13 10 true 2 3),(Qn 14 10 true 13),(Qg 15 10 true (.call 39 [(.t 12),(.t 14)])),(Qp 16 10 15),(Qm 4 16)]) (.ret))
theorem ok37:FnOK Try.prog 37 Try.f37 e37 [.t 4] 2 15:=⟨by kernel_rfl,⟨_,rfl,by kernel_rfl⟩,by kernel_rfl,by kernel_rfl⟩
noncomputable def Zwo:Bool→Option Bool
| x5=>
 some x5
noncomputable def Zxo (x1:Place) (x2:Place):Option Bool:=
 (Zso x1.Book x2.Book).bind fun x3=>
 ifb x3 (
 (Zdo x1.Live x2.Live).bind fun x4=>
 Zwo x4) (
 Zwo false)
theorem Zyo (x1:Place) (x2:Place) (r:Bool) (h:Zxo x1 x2=some r):Zz2 Try.prog 37 [.agg (Place.row x1),.agg (Place.row x2)] (.bv r):=by
 refine Z33 ok37 rfl rfl fun w0 H0=>?_
 rw [Zxo] at h
 refine Zu2 12 ?_;dsimp only [go_sem];refine An ?_;obtain ⟨x3,ex3,h⟩:=Bs h;refine Z83 trivial (k_sess_Same x1.Book x2.Book _ ex3) (h:=?_);refine Zu2 1 ?_;dsimp only [go_sem];refine An ?_;refine Zy4 (fun (x5:Bool)=>(⟨(an 4 (.bv x5::an 12 [])),[],[]⟩:St)) Zwo r ?_ fun J1=>?_
 ·intro x5 h;rw [Zwo] at h;(try dsimp only);exact Z85 (res:=fun (r:Bool)=>.bv r) ok37 h
 ·refine Z75 10 h rfl (fun _ h=>?_) fun _ h=>?_
  ·dsimp only [go_sem];refine Zu2 4 ?_;dsimp only [go_sem];refine An ?_;obtain ⟨x4,ex4,h⟩:=Bs h;refine Z83 trivial (Zeo x1.Live x2.Live _ ex4) (h:=?_);refine Zu2 3 ?_;dsimp only [go_sem];refine An ?_;exact Za5 J1 (s:=x4) h
  ·dsimp only [go_sem];refine Zu2 8 ?_;dsimp only [go_sem];refine An ?_;exact Za5 J1 (s:=false) h
def Zzo (_F:Nat):Bool→Option Bool
| x5=>
 some x5
theorem Z0p {F:Nat}:∀s,ole (Zzo F s) (Zwo s):=by
 intro x5
 unfold Zzo Zwo
 try dsimp only
 with_reducible repeat' first | exact Zr4 _ | assumption | intro _ | refine Zs4 ?_ ?_ | refine Zt4 ?_ ?_ | refine Zu4 ?_ | refine Zw4 ?_
def Z1p (F:Nat) (x1:Place) (x2:Place):Option Bool:=
 (Zvo F x1.Book x2.Book).bind fun x3=>
 ifb x3 (
 (Zjo F x1.Live x2.Live).bind fun x4=>
 Zzo F x4) (
 Zzo F false)
theorem Z2p {F:Nat} {x1:Place} {x2:Place}:ole (Z1p F x1 x2) (Zxo x1 x2):=by
 unfold Z1p Zxo
 with_reducible repeat' first | exact Zr4 _ | assumption | intro _ | refine Zs4 ?_ ?_ | refine Zt4 ?_ ?_ | refine Zu4 ?_ | refine Zw4 ?_ | apply Z0p | apply le_sess_Same | apply Zko
set_option maxRecDepth 100000
set_option maxHeartbeats 4000000
@[go_sem] def e20:EC:=.seq (.reg [(Qx 2 30 1 0),(Qx 3 30 1 1),(Qa 4 (.mv (.c .ff)))]) (.seq (.reg [(Qf 5 0 2),(Ql 6 5),(Qf 7 0 3),(Ql 8 7),(Qa 9 (.call 36 [(.t 6),(.t 8),(.c (.clo 37 []))])),(Qm 4 9)]) (.ret))
theorem ok20:FnOK Try.prog 20 Try.f20 e20 [.t 4] 2 8:=⟨by kernel_rfl,⟨_,rfl,by kernel_rfl⟩,by kernel_rfl,by kernel_rfl⟩
noncomputable def Z3p (x1:Model) (x2:Model):Option Bool:=
 (Ztn x1.Places x2.Places ((fun z=>Zxo z.1 z.2))).bind fun x3=>
 some x3
theorem Z4p (x1:Model) (x2:Model) (r:Bool) (h:Z3p x1 x2=some r):Zz2 Try.prog 20 [.agg (Model.row x1),.agg (Model.row x2)] (.bv r):=by
 refine Z33 ok20 rfl rfl fun w0 H0=>?_
 rw [Z3p] at h
 refine Zu2 12 ?_;dsimp only [go_sem];refine An ?_;obtain ⟨x3,ex3,h⟩:=Bs h;refine Z83 trivial (Zun x1.Places x2.Places _ _ ((fun z=>Zxo z.1 z.2)) ⟨by kernel_rfl,rfl,fun z r hz=>Zyo z.1 z.2 r hz⟩ _ ex3) (h:=?_);refine Zu2 2 ?_;dsimp only [go_sem];refine An ?_;exact Z85 (res:=fun (r:Bool)=>.bv r) ok20 h
def Z5p (F:Nat) (x1:Model) (x2:Model):Option Bool:=
 (Zzn F x1.Places x2.Places ((fun z=>Z1p F z.1 z.2))).bind fun x3=>
 some x3
theorem Z6p {F:Nat} {x1:Model} {x2:Model}:ole (Z5p F x1 x2) (Z3p x1 x2):=by
 unfold Z5p Z3p
 with_reducible repeat' first | exact Zr4 _ | assumption | intro _ | refine Zs4 ?_ ?_ | refine Zt4 ?_ ?_ | refine Zu4 ?_ | refine Zw4 ?_ | apply Z0o | apply Z2p
set_option maxRecDepth 100000
set_option maxHeartbeats 4000000
@[go_sem] def e6:EC:=.seq (.reg [(Qa 0 (.mv (.c .ff)))]) (.seq (.reg [(Qa 11 (.build [.iv 0,.iv 0] [(0,1,(.c (.iv 0))),(1,1,(.c (.iv 1)))])),(Qa 12 (.bsl 55 2 1 [.iv 0,.iv 0] [(0,(.t 11))])),(Qa 13 (.build [.iv 0,.nl] [(0,1,(.c (.iv 2))),(1,1,(.t 12))])),(Qa 1 (.alloc 24 [.iv 0,.nl])),(Qs 2 1 13)]) (.seq (.reg [(Qa 14 (.bsl 3 1 1 [.iv 0] [(0,(.c (.iv 1)))])),(Qa 15 (.build [.iv 0,.iv 0,.iv 0,.iv 0,.nl] [(0,1,(.c (.iv 0))),(2,1,(.c (.iv 1))),(4,1,(.t 14))])),(Qa 16 (.bsl 3 1 1 [.iv 0] [(0,(.c (.iv 0)))])),(Qa 17 (.build [.iv 0,.iv 0,.iv 0,.iv 0,.nl] [(0,1,(.c (.iv 0))),(1,1,(.c (.iv 1))),(2,1,(.c (.iv 1))),(4,1,(.t 16))])),(Qa 18 (.build [.iv 0,.iv 0,.iv 0,.iv 0,.nl] [(0,1,(.c (.iv 1))),(1,1,(.c (.iv 1))),(2,1,(.c (.iv 1)))])),(Qa 19 (.build [.iv 0,.iv 0,.iv 0,.iv 0,.nl] [(0,1,(.c (.iv 1))),(2,1,(.c (.iv 1)))])),(Qa 20 (.bsl 41 5 4 [.iv 0,.iv 0,.iv 0,.iv 0,.nl] [(0,(.t 15)),(1,(.t 17)),(2,(.t 18)),(3,(.t 19))])),(Qm 2 20)]) (.seq (.reg [(Qe 22 2 1),(Qm 23 2),(Qa 24 (.call 18 [(.t 22),(.t 23)])),(Qm 21 24),(Qa 25 (.ext (.t 21) 0)),(Qa 26 (.ext (.t 21) 1)),(Qm 3 25),(Qm 4 26)]) (.seq (.reg [(Qe 28 2 1),(Qa 29 (.call 8 [(.t 28)])),(Qm 27 29),(Qa 30 (.ext (.t 27) 0)),(Qa 31 (.ext (.t 27) 1)),(Qa 5 (.alloc 30 [.nl])),(Qs 1 5 30),(Qm 6 31)]) (.seq (.drw [(Qe 33 1 5),(Qm 34 2),(Qa 35 (.idx 5 (.t 34) (.c (.iv 0)))),(Qe 36 5 35),(Qa 37 (.call 11 [(.t 33),(.t 36)])),(Qm 32 37),(Qa 38 (.ext (.t 32) 0)),(Qa 39 (.ext (.t 32) 1)),(Qa 7 (.alloc 30 [.nl])),(Qs 1 7 38),(Qm 8 39)] [[],[],[1],[2],[0,3],[4],[5],[5],[],[8,6,4,0,1,2,3,4,5,6,8],[7,9,0,1,2,3,4,5,6,7,8,9]] [[4],[2],[1,3],[2,4],[0,3,5],[4,6,7],[5,9],[5,10],[9],[6,8],[7]]) (.seq (.reg [(Qe 41 1 7),(Qa 42 (.build [.iv 0,.iv 0,.iv 0,.iv 0,.nl] [(0,1,(.c (.iv 7))),(3,1,(.c (.iv 1)))])),(Qa 43 (.call 11 [(.t 41),(.t 42)])),(Qm 40 43),(Qa 44 (.ext (.t 40) 0)),(Qa 45 (.ext (.t 40) 1)),(Qa 9 (.alloc 30 [.nl])),(Qs 1 9 44),(Qm 10 45)]) (.seq (.reg [(Qm 46 3),(Qa 47 (.bin .eql (.t 46) (.c (.iv 3)))),(Qm 48 47),(Qg 49 48 true (.mv (.t 4))),(Qg 50 48 true (.bin .eql (.t 49) (.c (.iv 203)))),(Qp 51 48 50),(Qm 52 51),(Qg 53 52 true (.mv (.t 6))),(Qg 54 52 true (.bin .eql (.t 53) (.c (.iv 0)))),(Qp 55 52 54),(Qm 56 55),(Qg 57 56 true (.mv (.t 8))),(Qg 58 56 true (.bin .eql (.t 57) (.c (.iv 0)))),(Qp 59 56 58),(Qm 60 59),(Qg 61 60 true (.mv (.t 10))),(Qg 62 60 true (.bin .eql (.t 61) (.c (.iv 0)))),(Qp 63 60 62),(Qm 64 63),(Qg 65 64 true (.loadA 1 (.t 9))),(Qg 66 64 true (.call 16 [(.t 65),(.c (.iv 0))])),(Qg 67 64 true (.bsl 3 1 1 [.iv 0] [(0,(.c (.iv 1)))])),(Qg 68 64 true (.call 19 [(.t 66),(.t 67)])),(Qp 69 64 68),(Qm 70 69),(Qg 71 70 true (.loadA 1 (.t 7))),(Qg 72 70 true (.call 16 [(.t 71),(.c (.iv 0))])),(Qg 73 70 true (.len (.t 72))),(Qg 74 70 true (.bin .eql (.t 73) (.c (.iv 0)))),(Qp 75 70 74),(Qm 76 75),(Qg 77 76 true (.loadA 1 (.t 7))),(Qg 78 76 true (.call 13 [(.t 77)])),(Qp 79 76 78),(Qm 80 79),(Qg 81 80 true (.loadA 1 (.t 7))),(Qg 82 80 true (.call 14 [(.t 81)])),(Qg 83 80 true (.bin .eql (.t 82) (.c (.iv 0)))),(Qp 84 80 83),(Qm 85 84),(Qg 86 85 true (.loadA 1 (.t 7))),(Qg 87 85 true (.loadA 1 (.t 7))),(Qg 88 85 true (.call 20 [(.t 86),(.t 87)])),(Qp 89 85 88),(Qm 90 89),(Qg 91 90 true (.loadA 1 (.t 7))),(Qg 92 90 true (.loadA 1 (.t 9))),(Qg 93 90 true (.call 20 [(.t 91),(.t 92)])),(Qg 94 90 true (.not (.t 93))),(Qp 95 90 94),(Qm 0 95)]) (.ret))))))))
theorem ok6:FnOK Try.prog 6 Try.f6 e6 [.t 0] 0 96:=⟨by kernel_rfl,⟨_,rfl,by kernel_rfl⟩,by kernel_rfl,by kernel_rfl⟩
noncomputable def Z7p:Bool→Option Bool
| x16=>
 some x16
noncomputable def Z8p (x1:(Int×Int)) (x2:(Model×Int)):(Int×(List Place))→Option Bool
| (x6,x7)=>
 (Zvl ((Model.mk x7)) ((Event.mk 7 0 0 1 (([]:(List Int)))))).bind fun x8=>
 ifb (decide (x1.1=3)) (
 ifb (decide (x1.2=203)) (
 ifb (decide (x2.2=0)) (
 ifb (decide (x6=0)) (
 ifb (decide (x8.2=0)) (
 (Zai x8.1 0).bind fun x9=>
 (Zda x9 ([1])).bind fun x10=>
 ifb x10 (
 (Zai ((Model.mk x7)) 0).bind fun x11=>
 ifb (decide ((ln Zf5 x11)=0)) (
 (Zqm ((Model.mk x7))).bind fun x12=>
 ifb x12 (
 (Zwh ((Model.mk x7))).bind fun x13=>
 ifb (decide (x13=0)) (
 (Z3p ((Model.mk x7)) ((Model.mk x7))).bind fun x14=>
 ifb x14 (
 (Z3p ((Model.mk x7)) x8.1).bind fun x15=>
 Z7p (!x15)) (
 Z7p false)) (
 Z7p false)) (
 Z7p false)) (
 Z7p false)) (
 Z7p false)) (
 Z7p false)) (
 Z7p false)) (
 Z7p false)) (
 Z7p false)) (
 Z7p false)
noncomputable def Z9p:Option Bool:=
 (Zjn ((Graph.mk 2 ([(Edge.mk 0 1)]))) ([(Event.mk 0 0 1 0 ([1])),(Event.mk 0 1 1 0 ([0])),(Event.mk 1 1 1 0 (([]:List Int))),(Event.mk 1 0 1 0 (([]:List Int)))])).bind fun x1=>
 (Zdm ((Graph.mk 2 ([(Edge.mk 0 1)])))).bind fun x2=>
 (at_ ([(Event.mk 0 0 1 0 ([1])),(Event.mk 0 1 1 0 ([0])),(Event.mk 1 1 1 0 (([]:List Int))),(Event.mk 1 0 1 0 (([]:List Int)))]) 0).bind fun x3=>
 (Zvl x2.1 x3).bind fun x4=>
 (Z8p x1 x2) (x4.2,x4.1.Places)
theorem Zap (r:Bool) (h:Z9p=some r):Zz2 Try.prog 6 [] (.bv r):=by
 refine Z33 ok6 rfl rfl fun w0 H0=>?_
 rw [Z9p] at h
 refine Zu2 20 ?_;dsimp only [go_sem];refine An ?_;refine V_put1 18 (.agg [.iv 1,.iv 1,.iv 1,.iv 0,.sl 1 (List.map Zf5 (([]:List Int)))]) (by simp [go_sem]) ?_;dsimp only [go_sem];refine V_put1 19 (.agg [.iv 1,.iv 0,.iv 1,.iv 0,.sl 1 (List.map Zf5 (([]:List Int)))]) (by simp [go_sem]) ?_;dsimp only [go_sem];refine Zm3 1 rfl ?_;dsimp only [go_sem];refine Zm3 2 rfl ?_;dsimp only [go_sem];refine Zu2 7 ?_;dsimp only [go_sem];refine An ?_;obtain ⟨x1,ex1,h⟩:=Bs h
 refine Zc5 trivial (((Zb5.refl _).slice 0 rfl).slice 3 rfl) (Zkn ((Graph.mk 2 ([(Edge.mk 0 1)]))) ([(Event.mk 0 0 1 0 ([1])),(Event.mk 0 1 1 0 ([0])),(Event.mk 1 1 1 0 (([]:List Int))),(Event.mk 1 0 1 0 (([]:List Int)))]) _ ex1) (h:=?_);refine Zu2 9 ?_;dsimp only [go_sem];refine An ?_;refine Zm3 0 rfl ?_;dsimp only [go_sem];obtain ⟨x2,ex2,h⟩:=Bs h;refine Z83 trivial (Zem ((Graph.mk 2 ([(Edge.mk 0 1)]))) _ ex2) (h:=?_);refine Zu2 8 ?_;dsimp only [go_sem];refine An ?_
 refine Zy4 (fun ((x6,x7):(Int×(List Place)))=>(⟨(an 3 (.iv x1.1 :: .iv x1.2 :: .any :: .iv x2.2 :: .ptr 2 0 :: .iv x6::an 87 [])),[none,none,some ⟨30,[.sl 3 (List.map Place.row x7)]⟩],[]⟩:St)) (Z8p x1 x2) r ?_ fun J1=>?_
 ·rintro ⟨x6,x7⟩ h;rw [Z8p] at h;(try dsimp only);refine Zu2 4 ?_;dsimp only [go_sem];refine An ?_;obtain ⟨x8,ex8,h⟩:=Bs h;refine Z83 trivial (Zwl ((Model.mk x7)) ((Event.mk 7 0 0 1 (([]:(List Int))))) _ ex8) (h:=?_);refine Zu2 12 ?_;dsimp only [go_sem];refine An ?_;refine Zy4 (fun (x16:Bool)=>(⟨(.bv x16::an 95 []),[],[]⟩:St)) Z7p r ?_ fun J2=>?_
  ·intro x16 h;rw [Z7p] at h;(try dsimp only);exact Z85 (res:=fun (r:Bool)=>.bv r) ok6 h
  ·refine Z75 48 h rfl (fun _ h=>?_) fun _ h=>?_
   ·dsimp only [go_sem];refine Zu2 4 ?_;dsimp only [go_sem];refine An ?_;refine Z75 52 h rfl (fun _ h=>?_) fun _ h=>?_
    ·dsimp only [go_sem];refine Zu2 4 ?_;dsimp only [go_sem];refine An ?_;refine Z75 56 h rfl (fun _ h=>?_) fun _ h=>?_
     ·dsimp only [go_sem];refine Zu2 4 ?_;dsimp only [go_sem];refine An ?_;refine Z75 60 h rfl (fun _ h=>?_) fun _ h=>?_
      ·dsimp only [go_sem];refine Zu2 4 ?_;dsimp only [go_sem];refine An ?_;refine Z75 64 h rfl (fun _ h=>?_) fun _ h=>?_
       ·dsimp only [go_sem];refine Zu2 1 ?_;dsimp only [go_sem];refine An ?_;obtain ⟨x9,ex9,h⟩:=Bs h;refine Z83 trivial (Zbi x8.1 0 _ ex9) (h:=?_);refine Zu2 1 ?_;dsimp only [go_sem];refine An ?_;obtain ⟨x10,ex10,h⟩:=Bs h;refine Zc5 trivial ((Zb5.refl _).slice 0 rfl) (Zea x9 ([1]) _ ex10) (h:=?_);refine Zu2 2 ?_;dsimp only [go_sem];refine An ?_;refine Z75 70 h rfl (fun _ h=>?_) fun _ h=>?_
        ·dsimp only [go_sem];refine Zu2 1 ?_;dsimp only [go_sem];refine An ?_;obtain ⟨x11,ex11,h⟩:=Bs h;refine Z83 trivial (Zbi ((Model.mk x7)) 0 _ ex11) (h:=?_);refine Zu2 4 ?_;dsimp only [go_sem];refine An ?_;refine Z75 76 h rfl (fun _ h=>?_) fun _ h=>?_
         ·dsimp only [go_sem];refine Zu2 1 ?_;dsimp only [go_sem];refine An ?_;obtain ⟨x12,ex12,h⟩:=Bs h;refine Z83 trivial (Zrm ((Model.mk x7)) _ ex12) (h:=?_);refine Zu2 2 ?_;dsimp only [go_sem];refine An ?_;refine Z75 80 h rfl (fun _ h=>?_) fun _ h=>?_
          ·dsimp only [go_sem];refine Zu2 1 ?_;dsimp only [go_sem];refine An ?_;obtain ⟨x13,ex13,h⟩:=Bs h;refine Z83 trivial (Zxh ((Model.mk x7)) _ ex13) (h:=?_);refine Zu2 3 ?_;dsimp only [go_sem];refine An ?_;refine Z75 85 h rfl (fun _ h=>?_) fun _ h=>?_
           ·dsimp only [go_sem];refine Zu2 2 ?_;dsimp only [go_sem];refine An ?_;obtain ⟨x14,ex14,h⟩:=Bs h;refine Z83 trivial (Z4p ((Model.mk x7)) ((Model.mk x7)) _ ex14) (h:=?_);refine Zu2 2 ?_;dsimp only [go_sem];refine An ?_;refine Z75 90 h rfl (fun _ h=>?_) fun _ h=>?_
            ·dsimp only [go_sem];refine Zu2 2 ?_;dsimp only [go_sem];refine An ?_;obtain ⟨x15,ex15,h⟩:=Bs h;refine Z83 trivial (Z4p ((Model.mk x7)) x8.1 _ ex15) (h:=?_);refine Zu2 4 ?_;dsimp only [go_sem];refine An ?_;exact Za5 J2 (s:=!x15) h
            ·dsimp only [go_sem];refine Zu2 7 ?_;dsimp only [go_sem];refine An ?_;exact Za5 J2 (s:=false) h
           ·dsimp only [go_sem];refine Zu2 12 ?_;dsimp only [go_sem];refine An ?_;exact Za5 J2 (s:=false) h
          ·dsimp only [go_sem];refine Zu2 17 ?_;dsimp only [go_sem];refine An ?_;exact Za5 J2 (s:=false) h
         ·dsimp only [go_sem];refine Zu2 21 ?_;dsimp only [go_sem];refine An ?_;exact Za5 J2 (s:=false) h
        ·dsimp only [go_sem];refine Zu2 27 ?_;dsimp only [go_sem];refine An ?_;exact Za5 J2 (s:=false) h
       ·dsimp only [go_sem];refine Zu2 33 ?_;dsimp only [go_sem];refine An ?_;exact Za5 J2 (s:=false) h
      ·dsimp only [go_sem];refine Zu2 37 ?_;dsimp only [go_sem];refine An ?_;exact Za5 J2 (s:=false) h
     ·dsimp only [go_sem];refine Zu2 41 ?_;dsimp only [go_sem];refine An ?_;exact Za5 J2 (s:=false) h
    ·dsimp only [go_sem];refine Zu2 45 ?_;dsimp only [go_sem];refine An ?_;exact Za5 J2 (s:=false) h
   ·dsimp only [go_sem];refine Zu2 49 ?_;dsimp only [go_sem];refine An ?_;exact Za5 J2 (s:=false) h
 ·refine Zu3 (by kernel_rfl) fun all hall hs hnap haf=>?_;dsimp only [go_sem];refine Zt5 hall hs haf hnap 2 9 ?_;dsimp only [go_sem];refine An ?_;obtain ⟨x3,ex3,h⟩:=Bs h;refine Z64 2 8 rfl ?_ ?_
  ·refine Zb6 hall Event.row ex3 rfl trivial rfl rfl rfl ?_;dsimp only [go_sem];refine Z64 3 8 rfl ?_ ?_
   ·refine Zd6 hall Event.row ex3 rfl trivial rfl rfl rfl ?_;dsimp only [go_sem];obtain ⟨x4,ex4,h⟩:=Bs h;refine Z64 4 8 rfl ?_ ?_
    ·refine Zb4 hall rfl trivial (Zwl x2.1 x3 _ ex4) (h:=?_);dsimp only [go_sem];refine Zt5 hall hs haf hnap 3 3 ?_;dsimp only [go_sem];refine An ?_;refine Z54 8 rfl ?_;refine Za4 hall rfl trivial ?_;dsimp only [go_sem];refine Z54 9 rfl ?_;refine Za4 hall rfl trivial ?_;dsimp only [go_sem];refine Zt5 hall hs haf hnap 1 0 ?_;dsimp only [go_sem];refine An ?_;refine Z44 rfl ?_ _;exact Za5 J1 (s:=(x4.2,x4.1.Places)) h
    ·refine Za4 hall rfl trivial ?_;dsimp only [go_sem];refine Z54 4 rfl ?_;refine Zb4 hall rfl trivial (Zwl x2.1 x3 _ ex4) (h:=?_);dsimp only [go_sem];refine Zt5 hall hs haf hnap 3 2 ?_;dsimp only [go_sem];refine An ?_;refine Z54 9 rfl ?_;refine Za4 hall rfl trivial ?_;dsimp only [go_sem];refine Zt5 hall hs haf hnap 1 0 ?_;dsimp only [go_sem];refine An ?_;refine Z44 rfl ?_ _;exact Za5 J1 (s:=(x4.2,x4.1.Places)) h
   ·refine Za4 hall rfl trivial ?_;dsimp only [go_sem];refine Z54 3 rfl ?_;refine Zd6 hall Event.row ex3 rfl trivial rfl rfl rfl ?_;dsimp only [go_sem];refine Z54 4 rfl ?_;obtain ⟨x4,ex4,h⟩:=Bs h;refine Zb4 hall rfl trivial (Zwl x2.1 x3 _ ex4) (h:=?_);dsimp only [go_sem];refine Zt5 hall hs haf hnap 3 2 ?_;dsimp only [go_sem];refine An ?_;refine Z54 9 rfl ?_;refine Za4 hall rfl trivial ?_;dsimp only [go_sem];refine Zt5 hall hs haf hnap 1 0 ?_;dsimp only [go_sem];refine An ?_;refine Z44 rfl ?_ _
    exact Za5 J1 (s:=(x4.2,x4.1.Places)) h
  ·refine Za4 hall rfl trivial ?_;dsimp only [go_sem];refine Z54 2 rfl ?_;refine Zb6 hall Event.row ex3 rfl trivial rfl rfl rfl ?_;dsimp only [go_sem];refine Z54 3 rfl ?_;refine Zd6 hall Event.row ex3 rfl trivial rfl rfl rfl ?_;dsimp only [go_sem];refine Z54 4 rfl ?_;obtain ⟨x4,ex4,h⟩:=Bs h;refine Zb4 hall rfl trivial (Zwl x2.1 x3 _ ex4) (h:=?_);dsimp only [go_sem];refine Zt5 hall hs haf hnap 3 2 ?_;dsimp only [go_sem];refine An ?_;refine Z54 9 rfl ?_;refine Za4 hall rfl trivial ?_;dsimp only [go_sem]
   refine Zt5 hall hs haf hnap 1 0 ?_;dsimp only [go_sem];refine An ?_;refine Z44 rfl ?_ _;exact Za5 J1 (s:=(x4.2,x4.1.Places)) h
def Zbp (_F:Nat):Bool→Option Bool
| x16=>
 some x16
theorem Zcp {F:Nat}:∀s,ole (Zbp F s) (Z7p s):=by
 intro x16
 unfold Zbp Z7p
 try dsimp only
 with_reducible repeat' first | exact Zr4 _ | assumption | intro _ | refine Zs4 ?_ ?_ | refine Zt4 ?_ ?_ | refine Zu4 ?_ | refine Zw4 ?_
def Zdp (F:Nat) (x1:(Int×Int)) (x2:(Model×Int)):(Int×(List Place))→Option Bool
| (x6,x7)=>
 (Z9m F ((Model.mk x7)) ((Event.mk 7 0 0 1 (([]:(List Int)))))).bind fun x8=>
 ifb (decide (x1.1=3)) (
 ifb (decide (x1.2=203)) (
 ifb (decide (x2.2=0)) (
 ifb (decide (x6=0)) (
 ifb (decide (x8.2=0)) (
 (Zki F x8.1 0).bind fun x9=>
 (Zja F x9 ([1])).bind fun x10=>
 ifb x10 (
 (Zki F ((Model.mk x7)) 0).bind fun x11=>
 ifb (decide ((ln Zf5 x11)=0)) (
 (Z2n F ((Model.mk x7))).bind fun x12=>
 ifb x12 (
 (Z4i F ((Model.mk x7))).bind fun x13=>
 ifb (decide (x13=0)) (
 (Z5p F ((Model.mk x7)) ((Model.mk x7))).bind fun x14=>
 ifb x14 (
 (Z5p F ((Model.mk x7)) x8.1).bind fun x15=>
 Zbp F (!x15)) (
 Zbp F false)) (
 Zbp F false)) (
 Zbp F false)) (
 Zbp F false)) (
 Zbp F false)) (
 Zbp F false)) (
 Zbp F false)) (
 Zbp F false)) (
 Zbp F false)) (
 Zbp F false)
theorem Zep {F:Nat} {x1:(Int×Int)} {x2:(Model×Int)}:∀s,ole (Zdp F x1 x2 s) (Z8p x1 x2 s):=by
 rintro ⟨x6,x7⟩
 unfold Zdp Z8p
 try dsimp only
 with_reducible repeat' first | exact Zr4 _ | assumption | intro _ | refine Zs4 ?_ ?_ | refine Zt4 ?_ ?_ | refine Zu4 ?_ | refine Zw4 ?_ | apply Zcp | apply Zam | apply Zli | apply Zka | apply Z3n | apply Z5i | apply Z6p
def Zfp (F:Nat):Option Bool:=
 (Zpn F ((Graph.mk 2 ([(Edge.mk 0 1)]))) ([(Event.mk 0 0 1 0 ([1])),(Event.mk 0 1 1 0 ([0])),(Event.mk 1 1 1 0 (([]:List Int))),(Event.mk 1 0 1 0 (([]:List Int)))])).bind fun x1=>
 (Zjm F ((Graph.mk 2 ([(Edge.mk 0 1)])))).bind fun x2=>
 (at_ ([(Event.mk 0 0 1 0 ([1])),(Event.mk 0 1 1 0 ([0])),(Event.mk 1 1 1 0 (([]:List Int))),(Event.mk 1 0 1 0 (([]:List Int)))]) 0).bind fun x3=>
 (Z9m F x2.1 x3).bind fun x4=>
 (Zdp F x1 x2) (x4.2,x4.1.Places)
theorem Zgp {F:Nat}:ole (Zfp F) (Z9p):=by
 unfold Zfp Z9p
 with_reducible repeat' first | exact Zr4 _ | assumption | intro _ | refine Zs4 ?_ ?_ | refine Zt4 ?_ ?_ | refine Zu4 ?_ | refine Zw4 ?_ | apply Zcp | apply Zam | apply Zli | apply Zka | apply Z3n | apply Z5i | apply Z6p | apply Zep | apply Zqn | apply Zkm
theorem Zhp:Z9p=some true:=Zgp.h _ (by kernel_rfl:Zfp 60=some true)
set_option maxRecDepth 100000
set_option maxHeartbeats 4000000
@[go_sem] def e28_L0:EC:=.seq (.seq (.reg [(Qm 9 4),(Qf 10 1 1),(Ql 11 10),(Qa 12 (.len (.t 11))),(Qa 13 (.bin .lss (.t 9) (.t 12)))]) (.ite (.t 13) (.skip) (.exit 0))) (.seq (.blk 1 (.seq (.reg [(Qf 16 1 1),(Ql 17 16),(Qm 18 4),(Qk 19 4 17 18),(Qe 20 4 19),(Qa 5 (.alloc 76 [.iv 0,.nl,.iv 0,.iv 0])),(Qs 4 5 20)]) (.seq (.reg [(Qa 21 (.bsl 3 1 0 [.iv 0] [])),(Qf 22 1 5),(Ql 23 22),(Qa 24 (.app 3 1 8 (.t 21) (.t 23))),(Qf 25 1 5),(Qs 1 25 24)]) (.reg [(Qf 26 1 3),(Ql 27 26),(Qe 28 4 5),(Qa 29 (.bsl 76 4 1 [.iv 0,.nl,.iv 0,.iv 0] [(0,(.t 28))])),(Qa 30 (.app 76 4 48 (.t 27) (.t 29))),(Qf 31 1 3),(Qs 1 31 30)])))) (.reg [(Qm 14 4),(Qv 15 14 1),(Qm 4 15)]))
@[go_sem] def e28:EC:=.seq (.reg [(Qx 1 49 2 0),(Qa 2 (.alloc 49 [.iv 0,.nl]))]) (.seq (.reg [(Qf 6 0 1),(Ql 7 6),(Qa 8 (.build [.iv 0,.nl] [(0,1,(.t 7))])),(Qa 3 (.alloc 49 [.iv 0,.nl])),(Qs 2 3 8)]) (.seq (.seq (.reg [(Qi 4 0)]) (.blk 0 (.loop e28_L0))) (.seq (.reg [(Qe 32 2 3),(Qs 2 2 32)]) (.ret))))
theorem ok28:FnOK Try.prog 28 Try.f28 e28 [.c 2 (some 2)] 1 32:=⟨by kernel_rfl,⟨_,rfl,by kernel_rfl⟩,by kernel_rfl,by kernel_rfl⟩
noncomputable def Zip (x1:Book):(List Sess)→Option Book
| x18=>
 some (Book.mk x1.Last x18)
noncomputable def Zjp (x1:Book):(Int×(List Sess))→Option ((Int×(List Sess)) ⊕ Book)
| (x7,x8)=>
 ifb (decide (x7<(ln Sess.row x1.Sess))) (
 (at_ x1.Sess x7).bind fun x9=>
 (Zm4 8 (([]:List Int)) x9.Need).bind fun x10=>
 (Zm4 48 x8 ([(Sess.mk x9.ID x10 x9.State x9.Age)])).bind fun x11=>
 some (.inl (wr (x7+1),x11))) (
 Option.map Sum.inr ((Zip x1) x8))
noncomputable def Zkp (x1:Book):Option Book:=
 loop (Zjp x1) (0,([]:List Sess))
theorem Zlp (x1:Book) (r:Book) (h:Zkp x1=some r):Zz2 Try.prog 28 [.agg (Book.row x1)] (.agg (Book.row r)):=by
 refine Z33 ok28 rfl rfl fun w0 H0=>?_
 rw [Zkp] at h
 refine Zu2 18 ?_;dsimp only [go_sem];refine An ?_;refine Zy4 (fun (x18:(List Sess))=>(⟨(.any :: .any :: .ptr 1 0 :: .ptr 2 0::an 29 []),[none,some ⟨49,[.iv 0,.nl]⟩,some ⟨49,[.iv x1.Last,.osl 0]⟩],[some ⟨76,4,List.map Sess.row x18⟩]⟩:St)) (Zip x1) r ?_ fun J1=>?_
 ·intro x18 h;rw [Zip] at h;(try dsimp only);refine Zu2 5 ?_;dsimp only [go_sem];refine An ?_;refine Zm3 0 rfl ?_;dsimp only [go_sem];exact Z85 (res:=fun (r:Book)=>.agg (Book.row r)) ok28 h
 ·refine Zu2 1 ?_;dsimp only [go_sem];refine An ?_;refine V_ownB 2 1 76 4 rfl rfl rfl ?_;dsimp only [go_sem];refine Zz4 h (fun ((x7,x8):(Int×(List Sess)))=>(⟨(.any :: .ptr 0 0 :: .ptr 1 0 :: .ptr 2 0 :: .iv x7::an 28 []),[some ⟨49,[.iv x1.Last,.sl 4 (List.map Sess.row x1.Sess)]⟩,some ⟨49,[.iv 0,.nl]⟩,some ⟨49,[.iv x1.Last,.osl 0]⟩],[some ⟨76,4,List.map Sess.row x8⟩]⟩:St)) (by simp [go_sem]) (by rintro ⟨x7,x8⟩;first | rfl | simp [go_sem]) ?_;rintro n1 ⟨x7,x8⟩ y1 h hin1 hout1;rw [Zjp] at h;(try dsimp only);refine Zu2 9 ?_
  dsimp only [go_sem];refine An ?_;refine Z05 h rfl (fun _ h=>?_) fun _ h=>?_
  ·refine Zu2 8 ?_;dsimp only [go_sem];refine An ?_;obtain ⟨x9,ex9,h⟩:=Bs h;refine Z35 Sess.row ex9 trivial rfl rfl rfl ?_;refine Zu2 9 ?_;dsimp only [go_sem];refine An ?_;obtain ⟨x10,ex10,h⟩:=Bs h;refine Z55 Zf5 ex10 trivial rfl rfl rfl ?_;refine Zu2 7 ?_;dsimp only [go_sem];refine An ?_;refine Zm3 2 rfl ?_;dsimp only [go_sem];refine Zu2 1 ?_;dsimp only [go_sem];refine An ?_;obtain ⟨x11,ex11,h⟩:=Bs h;refine Z55 Sess.row ex11 trivial rfl rfl rfl ?_;refine Zu2 9 ?_;dsimp only [go_sem];refine An ?_;refine Zg4 4 0 rfl rfl rfl ?_
   dsimp only [go_sem];exact Z95 h hin1
  ·refine Zu2 1 ?_;dsimp only [go_sem];refine An ?_;exact Za5 J1 (s:=x8) (Zx4 h hout1)
set_option maxRecDepth 100000
set_option maxHeartbeats 4000000
@[go_sem] def e12_L0:EC:=.seq (.seq (.reg [(Qm 6 4),(Qf 7 0 1),(Ql 8 7),(Qa 9 (.len (.t 8))),(Qa 10 (.bin .lss (.t 6) (.t 9)))]) (.ite (.t 10) (.skip) (.exit 0))) (.seq (.blk 1 (.drw [(Qf 13 0 3),(Ql 14 13),(Qf 15 0 1),(Ql 16 15),(Qm 17 4),(Qk 18 3 16 17),(Qf 19 0 18),(Qe 20 2 19),(Qa 21 (.call 28 [(.t 20)])),(Qa 22 (.bsl 3 1 0 [.iv 0] [])),(Qf 23 0 1),(Ql 24 23),(Qm 25 4),(Qk 26 3 24 25),(Qf 27 2 26),(Ql 28 27),(Qa 29 (.app 3 1 8 (.t 22) (.t 28))),(Qa 30 (.build [.iv 0,.nl,.nl] [(0,2,(.t 21)),(2,1,(.t 29))])),(Qa 31 (.bsl 51 3 1 [.iv 0,.nl,.nl] [(0,(.t 30))])),(Qa 32 (.app 51 3 56 (.t 14) (.t 31))),(Qf 33 0 3),(Qs 1 33 32)] [[],[0],[],[2],[],[3,4],[5],[6],[7],[],[],[10],[],[11,12],[13],[14],[9,15,8],[8,16],[17],[1,18,16],[0,1,2,3,4,5,6,7,8,9,10,11,12,13,14,15,16,17,18,19],[20,19,19,0,1,2,3,4,5,6,7,8,9,10,11,12,13,14,15,16,17,18,19]] [[1],[0,19],[3],[2,5],[5],[3,4,6],[5,7],[6,8],[7,17],[16],[11],[10,13],[13],[11,12,14],[13,15],[14,16],[9,15,17],[8,16,18],[17,19],[1,18,21],[21],[19,20]])) (.reg [(Qm 11 4),(Qv 12 11 1),(Qm 4 12)]))
@[go_sem] def e12:EC:=.seq (.reg [(Qx 1 30 1 0),(Qa 2 (.alloc 30 [.nl]))]) (.seq (.reg [(Qa 5 (.build [.nl] [])),(Qa 3 (.alloc 30 [.nl])),(Qs 1 3 5)]) (.seq (.seq (.reg [(Qi 4 0)]) (.blk 0 (.loop e12_L0))) (.seq (.reg [(Qe 34 1 3),(Qs 1 2 34)]) (.ret))))
theorem ok12:FnOK Try.prog 12 Try.f12 e12 [.c 2 (some 1)] 1 34:=⟨by kernel_rfl,⟨_,rfl,by kernel_rfl⟩,by kernel_rfl,by kernel_rfl⟩
noncomputable def Zmp:(List Place)→Option Model
| x26=>
 some (Model.mk x26)
noncomputable def Znp (x11:Int):(List Place)→Option ((Int×(List Place)) ⊕ Model)
| x20=>
 some (.inl (wr (x11+1),x20))
noncomputable def Zop (x1:Model):(Int×(List Place))→Option ((Int×(List Place)) ⊕ Model)
| (x11,x12)=>
 ifb (decide (x11<(ln Place.row x1.Places))) (
 (at_ x1.Places x11).bind fun x13=>
 (at_ x1.Places x11).bind fun x14=>
 (Zkp x13.Book).bind fun x15=>
 (Zm4 8 (([]:List Int)) x14.Live).bind fun x17=>
 (Zm4 56 x12 ([(Place.mk x15 x17)])).bind fun x18=>
 (Znp x11) x18) (
 Option.map Sum.inr (Zmp x12))
noncomputable def Zpp (x1:Model):Option Model:=
 loop (Zop x1) (0,([]:List Place))
theorem Zqp (x1:Model) (r:Model) (h:Zpp x1=some r):Zz2 Try.prog 12 [.agg (Model.row x1)] (.agg (Model.row r)):=by
 refine Z33 ok12 rfl rfl fun w0 H0=>?_
 rw [Zpp] at h
 refine Zu2 16 ?_;dsimp only [go_sem];refine An ?_;refine Zy4 (fun (x26:(List Place))=>(⟨(.any :: .any :: .ptr 1 0 :: .ptr 2 0::an 31 []),[none,some ⟨30,[.nl]⟩,some ⟨30,[.osl 0]⟩],[some ⟨51,3,List.map Place.row x26⟩]⟩:St)) Zmp r ?_ fun J1=>?_
 ·intro x26 h;rw [Zmp] at h;(try dsimp only);refine Zu2 5 ?_;dsimp only [go_sem];refine An ?_;refine Zm3 0 rfl ?_;dsimp only [go_sem];exact Z85 (res:=fun (r:Model)=>.agg (Model.row r)) ok12 h
 ·refine Zu2 1 ?_;dsimp only [go_sem];refine An ?_;refine V_ownB 2 0 51 3 rfl rfl rfl ?_;dsimp only [go_sem];refine Zz4 h (fun ((x11,x12):(Int×(List Place)))=>(⟨(.any :: .ptr 0 0 :: .ptr 1 0 :: .ptr 2 0 :: .iv x11::an 30 []),[some ⟨30,[.sl 3 (List.map Place.row x1.Places)]⟩,some ⟨30,[.nl]⟩,some ⟨30,[.osl 0]⟩],[some ⟨51,3,List.map Place.row x12⟩]⟩:St)) (by simp [go_sem]) (by rintro ⟨x11,x12⟩;first | rfl | simp [go_sem]) ?_;rintro n1 ⟨x11,x12⟩ y1 h hin1 hout1;rw [Zop] at h;(try dsimp only);refine Zu2 9 ?_;dsimp only [go_sem];refine An ?_
  refine Z05 h rfl (fun _ h=>?_) fun _ h=>?_
  ·refine Zu2 3 ?_;dsimp only [go_sem];refine An ?_;refine Zy4 (fun (x20:(List Place))=>(⟨(.any :: .ptr 0 0 :: .ptr 1 0 :: .ptr 2 0 :: .iv x11::an 30 []),[some ⟨30,[.sl 3 (List.map Place.row x1.Places)]⟩,some ⟨30,[.nl]⟩,some ⟨30,[.osl 4]⟩],[none,none,none,none,some ⟨51,3,List.map Place.row x20⟩]⟩:St)) (Znp x11) y1 ?_ fun J2=>?_
   ·intro x20 h;rw [Znp] at h;(try dsimp only);refine Zu2 6 ?_;dsimp only [go_sem];refine An ?_;refine Zg4 4 0 rfl rfl rfl ?_;dsimp only [go_sem];exact Z95 h hin1
   ·refine Zu3 (by kernel_rfl) fun all hall hs hnap haf=>?_;dsimp only [go_sem];refine Zu5 hall hs haf hnap 7 15 [1,1,3,5,3,9] [(13,[.ptr 2 0]),(1,[.ptr 0 0,.sl 3 (List.map Place.row x1.Places),.iv x11]),(5,[.ptr 0 0,.sl 3 (List.map Place.row x1.Places),.iv x11])] (by kernel_rfl) ?_;dsimp only [go_sem];obtain ⟨x13,ex13,h⟩:=Bs h;refine Z45 hall hs haf hnap 5 Place.row ex13 rfl rfl trivial rfl rfl rfl rfl ?_;refine Zt5 hall hs haf hnap 2 12 ?_;dsimp only [go_sem];refine An ?_;obtain ⟨x14,ex14,h⟩:=Bs h
    refine Z45 hall hs haf hnap 13 Place.row ex14 rfl rfl trivial rfl rfl rfl rfl ?_;refine Zt5 hall hs haf hnap 2 9 ?_;dsimp only [go_sem];refine An ?_;obtain ⟨x15,ex15,h⟩:=Bs h;refine Z74 1 8 9 rfl ?_ ?_ ?_
    ·refine Za4 hall rfl trivial ?_;dsimp only [go_sem];refine Z64 8 9 rfl ?_ ?_
     ·refine Zb4 hall rfl trivial (Zlp x13.Book _ ex15) (h:=?_);dsimp only [go_sem];refine Z54 9 rfl ?_;refine Za4 hall rfl trivial ?_;dsimp only [go_sem];refine Z54 16 rfl ?_;obtain ⟨x17,ex17,h⟩:=Bs h;refine Zs5 Zf5 ex17 hall rfl trivial rfl rfl rfl ?_;dsimp only [go_sem];refine Zt5 hall hs haf hnap 1 4 ?_;dsimp only [go_sem];refine An ?_;refine Z54 18 rfl ?_;refine Za4 hall rfl trivial ?_;dsimp only [go_sem];refine Z54 19 rfl ?_;obtain ⟨x18,ex18,h⟩:=Bs h;refine Z65 Place.row ex18 hall rfl trivial rfl rfl rfl ?_
      dsimp only [go_sem];refine Zt5 hall hs haf hnap 1 1 ?_;dsimp only [go_sem];refine An ?_;refine Z54 21 rfl ?_;refine Za4 hall rfl trivial ?_;dsimp only [go_sem];refine Z44 rfl ?_ _;exact Za5 J2 (s:=x18) h
     ·refine Za4 hall rfl trivial ?_;dsimp only [go_sem];refine Z54 8 rfl ?_;refine Zb4 hall rfl trivial (Zlp x13.Book _ ex15) (h:=?_);dsimp only [go_sem];refine Z54 16 rfl ?_;obtain ⟨x17,ex17,h⟩:=Bs h;refine Zs5 Zf5 ex17 hall rfl trivial rfl rfl rfl ?_;dsimp only [go_sem];refine Zt5 hall hs haf hnap 1 4 ?_;dsimp only [go_sem];refine An ?_;refine Z54 18 rfl ?_;refine Za4 hall rfl trivial ?_;dsimp only [go_sem];refine Z54 19 rfl ?_;obtain ⟨x18,ex18,h⟩:=Bs h;refine Z65 Place.row ex18 hall rfl trivial rfl rfl rfl ?_
      dsimp only [go_sem];refine Zt5 hall hs haf hnap 1 1 ?_;dsimp only [go_sem];refine An ?_;refine Z54 21 rfl ?_;refine Za4 hall rfl trivial ?_;dsimp only [go_sem];refine Z44 rfl ?_ _;exact Za5 J2 (s:=x18) h
    ·refine Zb4 hall rfl trivial (Zlp x13.Book _ ex15) (h:=?_);dsimp only [go_sem];refine Z64 1 9 rfl ?_ ?_
     ·refine Za4 hall rfl trivial ?_;dsimp only [go_sem];refine Z54 9 rfl ?_;refine Za4 hall rfl trivial ?_;dsimp only [go_sem];refine Z54 16 rfl ?_;obtain ⟨x17,ex17,h⟩:=Bs h;refine Zs5 Zf5 ex17 hall rfl trivial rfl rfl rfl ?_;dsimp only [go_sem];refine Zt5 hall hs haf hnap 1 4 ?_;dsimp only [go_sem];refine An ?_;refine Z54 18 rfl ?_;refine Za4 hall rfl trivial ?_;dsimp only [go_sem];refine Z54 19 rfl ?_;obtain ⟨x18,ex18,h⟩:=Bs h;refine Z65 Place.row ex18 hall rfl trivial rfl rfl rfl ?_;dsimp only [go_sem]
      refine Zt5 hall hs haf hnap 1 1 ?_;dsimp only [go_sem];refine An ?_;refine Z54 21 rfl ?_;refine Za4 hall rfl trivial ?_;dsimp only [go_sem];refine Z44 rfl ?_ _;exact Za5 J2 (s:=x18) h
     ·refine Za4 hall rfl trivial ?_;dsimp only [go_sem];obtain ⟨x17,ex17,h⟩:=Bs h;refine Z64 1 16 rfl ?_ ?_
      ·refine Za4 hall rfl trivial ?_;dsimp only [go_sem];refine Z54 16 rfl ?_;refine Zs5 Zf5 ex17 hall rfl trivial rfl rfl rfl ?_;dsimp only [go_sem];refine Zt5 hall hs haf hnap 1 4 ?_;dsimp only [go_sem];refine An ?_;refine Z54 18 rfl ?_;refine Za4 hall rfl trivial ?_;dsimp only [go_sem];refine Z54 19 rfl ?_;obtain ⟨x19,ex19,h⟩:=Bs h;refine Z65 Place.row ex19 hall rfl trivial rfl rfl rfl ?_;dsimp only [go_sem];refine Zt5 hall hs haf hnap 1 1 ?_;dsimp only [go_sem];refine An ?_;refine Z54 21 rfl ?_;refine Za4 hall rfl trivial ?_
       dsimp only [go_sem];refine Z44 rfl ?_ _;exact Za5 J2 (s:=x19) h
      ·refine Zs5 Zf5 ex17 hall rfl trivial rfl rfl rfl ?_;dsimp only [go_sem];refine Zt5 hall hs haf hnap 1 5 ?_;dsimp only [go_sem];refine An ?_;refine Z64 1 18 rfl ?_ ?_
       ·refine Za4 hall rfl trivial ?_;dsimp only [go_sem];refine Z54 18 rfl ?_;refine Za4 hall rfl trivial ?_;dsimp only [go_sem];refine Z54 19 rfl ?_;obtain ⟨x19,ex19,h⟩:=Bs h;refine Z65 Place.row ex19 hall rfl trivial rfl rfl rfl ?_;dsimp only [go_sem];refine Zt5 hall hs haf hnap 1 1 ?_;dsimp only [go_sem];refine An ?_;refine Z54 21 rfl ?_;refine Za4 hall rfl trivial ?_;dsimp only [go_sem];refine Z44 rfl ?_ _;exact Za5 J2 (s:=x19) h
       ·refine Za4 hall rfl trivial ?_;dsimp only [go_sem];refine Z54 1 rfl ?_;refine Za4 hall rfl trivial ?_;dsimp only [go_sem];refine Z54 19 rfl ?_;obtain ⟨x19,ex19,h⟩:=Bs h;refine Z65 Place.row ex19 hall rfl trivial rfl rfl rfl ?_;dsimp only [go_sem];refine Zt5 hall hs haf hnap 1 1 ?_;dsimp only [go_sem];refine An ?_;refine Z54 21 rfl ?_;refine Za4 hall rfl trivial ?_;dsimp only [go_sem];refine Z44 rfl ?_ _;exact Za5 J2 (s:=x19) h
    ·refine Za4 hall rfl trivial ?_;dsimp only [go_sem];refine Z64 1 8 rfl ?_ ?_
     ·refine Za4 hall rfl trivial ?_;dsimp only [go_sem];refine Z54 8 rfl ?_;refine Zb4 hall rfl trivial (Zlp x13.Book _ ex15) (h:=?_);dsimp only [go_sem];refine Z54 16 rfl ?_;obtain ⟨x17,ex17,h⟩:=Bs h;refine Zs5 Zf5 ex17 hall rfl trivial rfl rfl rfl ?_;dsimp only [go_sem];refine Zt5 hall hs haf hnap 1 4 ?_;dsimp only [go_sem];refine An ?_;refine Z54 18 rfl ?_;refine Za4 hall rfl trivial ?_;dsimp only [go_sem];refine Z54 19 rfl ?_;obtain ⟨x18,ex18,h⟩:=Bs h;refine Z65 Place.row ex18 hall rfl trivial rfl rfl rfl ?_
      dsimp only [go_sem];refine Zt5 hall hs haf hnap 1 1 ?_;dsimp only [go_sem];refine An ?_;refine Z54 21 rfl ?_;refine Za4 hall rfl trivial ?_;dsimp only [go_sem];refine Z44 rfl ?_ _;exact Za5 J2 (s:=x18) h
     ·refine Zb4 hall rfl trivial (Zlp x13.Book _ ex15) (h:=?_);dsimp only [go_sem];obtain ⟨x17,ex17,h⟩:=Bs h;refine Z64 1 16 rfl ?_ ?_
      ·refine Za4 hall rfl trivial ?_;dsimp only [go_sem];refine Z54 16 rfl ?_;refine Zs5 Zf5 ex17 hall rfl trivial rfl rfl rfl ?_;dsimp only [go_sem];refine Zt5 hall hs haf hnap 1 4 ?_;dsimp only [go_sem];refine An ?_;refine Z54 18 rfl ?_;refine Za4 hall rfl trivial ?_;dsimp only [go_sem];refine Z54 19 rfl ?_;obtain ⟨x19,ex19,h⟩:=Bs h;refine Z65 Place.row ex19 hall rfl trivial rfl rfl rfl ?_;dsimp only [go_sem];refine Zt5 hall hs haf hnap 1 1 ?_;dsimp only [go_sem];refine An ?_;refine Z54 21 rfl ?_;refine Za4 hall rfl trivial ?_
       dsimp only [go_sem];refine Z44 rfl ?_ _;exact Za5 J2 (s:=x19) h
      ·refine Zs5 Zf5 ex17 hall rfl trivial rfl rfl rfl ?_;dsimp only [go_sem];refine Zt5 hall hs haf hnap 1 5 ?_;dsimp only [go_sem];refine An ?_;refine Z64 1 18 rfl ?_ ?_
       ·refine Za4 hall rfl trivial ?_;dsimp only [go_sem];refine Z54 18 rfl ?_;refine Za4 hall rfl trivial ?_;dsimp only [go_sem];refine Z54 19 rfl ?_;obtain ⟨x19,ex19,h⟩:=Bs h;refine Z65 Place.row ex19 hall rfl trivial rfl rfl rfl ?_;dsimp only [go_sem];refine Zt5 hall hs haf hnap 1 1 ?_;dsimp only [go_sem];refine An ?_;refine Z54 21 rfl ?_;refine Za4 hall rfl trivial ?_;dsimp only [go_sem];refine Z44 rfl ?_ _;exact Za5 J2 (s:=x19) h
       ·refine Za4 hall rfl trivial ?_;dsimp only [go_sem];refine Z54 1 rfl ?_;refine Za4 hall rfl trivial ?_;dsimp only [go_sem];refine Z54 19 rfl ?_;obtain ⟨x19,ex19,h⟩:=Bs h;refine Z65 Place.row ex19 hall rfl trivial rfl rfl rfl ?_;dsimp only [go_sem];refine Zt5 hall hs haf hnap 1 1 ?_;dsimp only [go_sem];refine An ?_;refine Z54 21 rfl ?_;refine Za4 hall rfl trivial ?_;dsimp only [go_sem];refine Z44 rfl ?_ _;exact Za5 J2 (s:=x19) h
  ·refine Zu2 1 ?_;dsimp only [go_sem];refine An ?_;exact Za5 J1 (s:=x12) (Zx4 h hout1)
set_option maxRecDepth 100000
set_option maxHeartbeats 4000000
@[go_sem] def e7_L0:EC:=.seq (.seq (.reg [(Qm 4 3),(Qm 5 0),(Qa 6 (.len (.t 5))),(Qa 7 (.bin .lss (.t 4) (.t 6))),(Qm 8 7),(Qg 9 8 true (.mv (.t 3))),(Qg 10 8 true (.bin .lss (.t 9) (.c (.iv 201)))),(Qp 11 8 10)]) (.ite (.t 11) (.skip) (.exit 0))) (.seq (.blk 1 (.seq (.reg [(Qm 14 0),(Qm 15 3),(Qk 16 5 14 15),(Qf 17 4 16),(Ql 18 17),(Qa 19 (.len (.t 18))),(Qa 20 (.bin .gtr (.t 19) (.c (.iv 70))))]) (.ite (.t 20) (.seq (.reg [(Qa 2 (.mv (.c .ff)))]) (.ret)) (.skip)))) (.reg [(Qm 12 3),(Qv 13 12 1),(Qm 3 13)]))
@[go_sem] def e7:EC:=.seq (.reg [(Qa 2 (.mv (.c .ff)))]) (.seq (.seq (.reg [(Qi 3 0)]) (.blk 0 (.loop e7_L0))) (.seq (.reg [(Qm 21 0),(Qa 22 (.len (.t 21))),(Qa 23 (.bin .leq (.t 22) (.c (.iv 200)))),(Qm 2 23)]) (.ret)))
theorem ok7:FnOK Try.prog 7 Try.f7 e7 [.t 2] 1 23:=⟨by kernel_rfl,⟨_,rfl,by kernel_rfl⟩,by kernel_rfl,by kernel_rfl⟩
noncomputable def Zrp (x1:(List Event)):Unit→Option Bool
| ()=>
 some (decide ((ln Event.row x1)≤200))
noncomputable def Zsp (x1:(List Event)) (x5:Int):Bool→Option (Int ⊕ Bool)
| x6=>
 ifb x6 (
 (at_ x1 x5).bind fun x7=>
 ifb (decide (70<(ln Zf5 x7.Need))) (
 Option.map Sum.inr (some false)) (
 some (.inl (wr (x5+1))))) (
 Option.map Sum.inr ((Zrp x1) ()))
noncomputable def Ztp (x1:(List Event)):Int→Option (Int ⊕ Bool)
| x5=>
 ifb (decide (x5<(ln Event.row x1))) (
 (Zsp x1 x5) (decide (x5<201))) (
 (Zsp x1 x5) false)
noncomputable def Zup (x1:(List Event)):Option Bool:=
 loop (Ztp x1) 0
theorem Zvp (x1:(List Event)) (r:Bool) (h:Zup x1=some r):Zz2 Try.prog 7 [.sl 5 (List.map Event.row x1)] (.bv r):=by
 refine Z33 ok7 rfl rfl fun w0 H0=>?_
 rw [Zup] at h
 refine Zu2 9 ?_;dsimp only [go_sem];refine An ?_;refine Zy4 (fun (_:Unit)=>(⟨(.sl 5 (List.map Event.row x1)::an 23 []),[],[]⟩:St)) (Zrp x1) r ?_ fun J1=>?_
 ·rintro ⟨⟩ h;rw [Zrp] at h;(try dsimp only);refine Zu2 7 ?_;dsimp only [go_sem];refine An ?_;exact Z85 (res:=fun (r:Bool)=>.bv r) ok7 h
 ·refine Zu2 1 ?_;dsimp only [go_sem];refine An ?_;refine Zz4 h (fun (x5:Int)=>(⟨(.sl 5 (List.map Event.row x1) :: .any :: .any :: .iv x5::an 20 []),[],[]⟩:St)) (by simp [go_sem]) (by intro x5;first | rfl | simp [go_sem]) ?_;rintro n1 x5 y1 h hin1 hout1;rw [Ztp] at h;(try dsimp only);refine Zu2 8 ?_;dsimp only [go_sem];refine An ?_;refine Zy4 (fun (x6:Bool)=>(⟨(.sl 5 (List.map Event.row x1) :: .any :: .any :: .iv x5::an 7 (.bv x6::an 12 [])),[],[]⟩:St)) (Zsp x1 x5) y1 ?_ fun J2=>?_
  ·intro x6 h;rw [Zsp] at h;(try dsimp only);refine Z05 h rfl (fun _ h=>?_) fun _ h=>?_
   ·refine Zu2 7 ?_;dsimp only [go_sem];refine An ?_;obtain ⟨x7,ex7,h⟩:=Bs h;refine Z35 Event.row ex7 trivial rfl rfl rfl ?_;refine Zu2 5 ?_;dsimp only [go_sem];refine An ?_;refine Z05 h rfl (fun _ h=>?_) fun _ h=>?_
    ·refine Zu2 4 ?_;dsimp only [go_sem];refine An ?_;exact Z85 (res:=fun (r:Bool)=>.bv r) ok7 (Zx4 h hout1)
    ·refine Zu2 7 ?_;dsimp only [go_sem];refine An ?_;exact Z95 h hin1
   ·refine Zu2 1 ?_;dsimp only [go_sem];refine An ?_;exact Za5 J1 (s:=()) (Zx4 h hout1)
  ·refine Z75 8 h rfl (fun _ h=>?_) fun _ h=>?_
   ·dsimp only [go_sem];refine Zu2 4 ?_;dsimp only [go_sem];refine An ?_;exact Za5 J2 (s:=decide (x5<201)) h
   ·dsimp only [go_sem];refine Zu2 4 ?_;dsimp only [go_sem];refine An ?_;exact Za5 J2 (s:=false) h
set_option maxRecDepth 100000
set_option maxHeartbeats 4000000
@[go_sem] def e23_L0:EC:=.seq (.seq (.reg [(Qm 22 5),(Qf 23 1 2),(Ql 24 23),(Qa 25 (.len (.t 24))),(Qa 26 (.bin .lss (.t 22) (.t 25)))]) (.ite (.t 26) (.skip) (.exit 0))) (.seq (.blk 1 (.seq (.drw [(Qf 29 1 2),(Ql 30 29),(Qm 31 5),(Qk 32 4 30 31),(Qe 33 4 32),(Qf 34 1 3),(Ql 35 34),(Qm 36 5),(Qk 37 4 35 36),(Qe 38 4 37),(Qa 6 (.alloc 76 [.iv 0,.nl,.iv 0,.iv 0])),(Qa 7 (.alloc 76 [.iv 0,.nl,.iv 0,.iv 0])),(Qs 4 6 33),(Qs 4 7 38)] [[],[0],[],[1,2],[3],[],[5],[],[6,7],[8],[],[],[10,4,0,1,2,3,4,10,11],[11,9,12,0,1,2,3,4,5,6,7,8,9,10,11,12]] [[1],[0,3],[3],[1,2,4],[3,12],[6],[5,8],[8],[6,7,9],[8,13],[12],[13],[4,10],[9,11]]) (.seq (.reg [(Qf 39 0 6),(Ql 40 39),(Qf 41 0 7),(Ql 42 41),(Qa 43 (.bin .neq (.t 40) (.t 42))),(Qm 44 43),(Qh 45 44 false 2 6),(Qn 46 44 false 45),(Qh 47 44 false 2 7),(Qn 48 44 false 47),(Qg 49 44 false (.bin .neq (.t 46) (.t 48))),(Qq 50 44 49),(Qm 51 50),(Qh 52 51 false 3 6),(Qn 53 51 false 52),(Qh 54 51 false 3 7),(Qn 55 51 false 54),(Qg 56 51 false (.bin .neq (.t 53) (.t 55))),(Qq 57 51 56),(Qm 58 57),(Qh 59 58 false 1 6),(Qn 60 58 false 59),(Qh 61 58 false 1 7),(Qn 62 58 false 61),(Qg 63 58 false (.call 19 [(.t 60),(.t 62)])),(Qg 64 58 false (.not (.t 63))),(Qq 65 58 64)]) (.ite (.t 65) (.seq (.reg [(Qa 4 (.mv (.c .ff)))]) (.ret)) (.skip))))) (.reg [(Qm 27 5),(Qv 28 27 1),(Qm 5 28)]))
@[go_sem] def e23:EC:=.seq (.reg [(Qx 2 49 2 0),(Qx 3 49 2 1),(Qa 4 (.mv (.c .ff)))]) (.seq (.seq (.reg [(Qf 8 0 2),(Ql 9 8),(Qf 10 0 3),(Ql 11 10),(Qa 12 (.bin .neq (.t 9) (.t 11))),(Qm 13 12),(Qh 14 13 false 1 2),(Qn 15 13 false 14),(Qg 16 13 false (.len (.t 15))),(Qh 17 13 false 1 3),(Qn 18 13 false 17),(Qg 19 13 false (.len (.t 18))),(Qg 20 13 false (.bin .neq (.t 16) (.t 19))),(Qq 21 13 20)]) (.ite (.t 21) (.seq (.reg [(Qa 4 (.mv (.c .ff)))]) (.ret)) (.skip))) (.seq (.seq (.reg [(Qi 5 0)]) (.blk 0 (.loop e23_L0))) (.seq (.reg [(Qa 4 (.mv (.c .tt)))]) (.ret))))
theorem ok23:FnOK Try.prog 23 Try.f23 e23 [.t 4] 2 64:=⟨by kernel_rfl,⟨_,rfl,by kernel_rfl⟩,by kernel_rfl,by kernel_rfl⟩
noncomputable def Zwp:Unit→Option Bool
| ()=>
 some true
noncomputable def Zxp (x11:Int):Bool→Option (Int ⊕ Bool)
| x17=>
 ifb x17 (
 Option.map Sum.inr (some false)) (
 some (.inl (wr (x11+1))))
noncomputable def Zyp (x11:Int):(Sess×Sess)→Option (Int ⊕ Bool)
| (x14,x15)=>
 ifb (!decide (x14.ID=x15.ID)) (
 (Zxp x11) true) (
 ifb (!decide (x14.State=x15.State)) (
 (Zxp x11) true) (
 ifb (!decide (x14.Age=x15.Age)) (
 (Zxp x11) true) (
 (Zda x14.Need x15.Need).bind fun x16=>
 (Zxp x11) (!x16))))
noncomputable def Zzp (x1:Book) (x2:Book):Int→Option (Int ⊕ Bool)
| x11=>
 ifb (decide (x11<(ln Sess.row x1.Sess))) (
 (at_ x1.Sess x11).bind fun x12=>
 (at_ x2.Sess x11).bind fun x13=>
 (Zyp x11) (x12,x13)) (
 Option.map Sum.inr (Zwp ()))
noncomputable def Z0q (x1:Book) (x2:Book):Bool→Option Bool
| x3=>
 ifb x3 (
 some false) (
 loop (Zzp x1 x2) 0)
noncomputable def Z1q (x1:Book) (x2:Book):Option Bool:=
 ifb (!decide (x1.Last=x2.Last)) (
 (Z0q x1 x2) true) (
 (Z0q x1 x2) (!decide ((ln Sess.row x1.Sess)=(ln Sess.row x2.Sess))))
theorem Z2q (x1:Book) (x2:Book) (r:Bool) (h:Z1q x1 x2=some r):Zz2 Try.prog 23 [.agg (Book.row x1),.agg (Book.row x2)] (.bv r):=by
 refine Z33 ok23 rfl rfl fun w0 H0=>?_
 rw [Z1q] at h
 refine Zu2 15 ?_;dsimp only [go_sem];refine An ?_;refine Zy4 (fun (x3:Bool)=>(⟨(.any :: .any :: .ptr 0 0 :: .ptr 1 0::an 17 (.bv x3::an 44 [])),[some ⟨49,[.iv x1.Last,.sl 4 (List.map Sess.row x1.Sess)]⟩,some ⟨49,[.iv x2.Last,.sl 4 (List.map Sess.row x2.Sess)]⟩],[]⟩:St)) (Z0q x1 x2) r ?_ fun J1=>?_
 ·intro x3 h;rw [Z0q] at h;(try dsimp only);refine Z05 h rfl (fun _ h=>?_) fun _ h=>?_
  ·refine Zu2 4 ?_;dsimp only [go_sem];refine An ?_;exact Z85 (res:=fun (r:Bool)=>.bv r) ok23 h
  ·refine Zu2 6 ?_;dsimp only [go_sem];refine An ?_;refine Zy4 (fun (_:Unit)=>(⟨(an 66 []),[],[]⟩:St)) Zwp r ?_ fun J2=>?_
   ·rintro ⟨⟩ h;rw [Zwp] at h;(try dsimp only);refine Zu2 4 ?_;dsimp only [go_sem];refine An ?_;exact Z85 (res:=fun (r:Bool)=>.bv r) ok23 h
   ·refine Zu2 1 ?_;dsimp only [go_sem];refine An ?_;refine Zz4 h (fun (x11:Int)=>(⟨(.any :: .any :: .ptr 0 0 :: .ptr 1 0 :: .any :: .iv x11::an 60 []),[some ⟨49,[.iv x1.Last,.sl 4 (List.map Sess.row x1.Sess)]⟩,some ⟨49,[.iv x2.Last,.sl 4 (List.map Sess.row x2.Sess)]⟩],[]⟩:St)) (by simp [go_sem]) (by intro x11;first | rfl | simp [go_sem]) ?_;rintro n1 x11 y1 h hin1 hout1;rw [Zzp] at h;(try dsimp only);refine Zu2 9 ?_;dsimp only [go_sem];refine An ?_;refine Z05 h rfl (fun _ h=>?_) fun _ h=>?_
    ·refine Zu2 4 ?_;dsimp only [go_sem];refine An ?_;refine Zy4 (fun ((x14,x15):(Sess×Sess))=>(⟨(.any :: .any :: .ptr 0 0 :: .ptr 1 0 :: .any :: .iv x11 :: .ptr 2 0 :: .ptr 3 0::an 58 []),[some ⟨49,[.iv x1.Last,.sl 4 (List.map Sess.row x1.Sess)]⟩,some ⟨49,[.iv x2.Last,.sl 4 (List.map Sess.row x2.Sess)]⟩,some ⟨76,[.iv x14.ID,.sl 1 (List.map Zf5 x14.Need),.iv x14.State,.iv x14.Age]⟩,some ⟨76,[.iv x15.ID,.sl 1 (List.map Zf5 x15.Need),.iv x15.State,.iv x15.Age]⟩],[]⟩:St)) (Zyp x11) y1 ?_ fun J3=>?_
     ·rintro ⟨x14,x15⟩ h;rw [Zyp] at h;(try dsimp only);refine Zu2 8 ?_;dsimp only [go_sem];refine An ?_;refine Zy4 (fun (x17:Bool)=>(⟨(.any :: .any :: .ptr 0 0 :: .ptr 1 0 :: .any :: .iv x11::an 59 [.bv x17]),[some ⟨49,[.iv x1.Last,.sl 4 (List.map Sess.row x1.Sess)]⟩,some ⟨49,[.iv x2.Last,.sl 4 (List.map Sess.row x2.Sess)]⟩],[]⟩:St)) (Zxp x11) y1 ?_ fun J4=>?_
      ·intro x17 h;rw [Zxp] at h;(try dsimp only);refine Z05 h rfl (fun _ h=>?_) fun _ h=>?_
       ·refine Zu2 4 ?_;dsimp only [go_sem];refine An ?_;exact Z85 (res:=fun (r:Bool)=>.bv r) ok23 (Zx4 h hout1)
       ·refine Zu2 7 ?_;dsimp only [go_sem];refine An ?_;exact Z95 h hin1
      ·refine Z75 44 h rfl (fun _ h=>?_) fun _ h=>?_
       ·dsimp only [go_sem];refine Zu2 22 ?_;dsimp only [go_sem];refine An ?_;exact Za5 J4 (s:=true) h
       ·dsimp only [go_sem];refine Zu2 7 ?_;dsimp only [go_sem];refine An ?_;refine Z75 51 h rfl (fun _ h=>?_) fun _ h=>?_
        ·dsimp only [go_sem];refine Zu2 15 ?_;dsimp only [go_sem];refine An ?_;exact Za5 J4 (s:=true) h
        ·dsimp only [go_sem];refine Zu2 7 ?_;dsimp only [go_sem];refine An ?_;refine Z75 58 h rfl (fun _ h=>?_) fun _ h=>?_
         ·dsimp only [go_sem];refine Zu2 8 ?_;dsimp only [go_sem];refine An ?_;exact Za5 J4 (s:=true) h
         ·dsimp only [go_sem];refine Zu2 4 ?_;dsimp only [go_sem];refine An ?_;obtain ⟨x16,ex16,h⟩:=Bs h;refine Z83 trivial (Zea x14.Need x15.Need _ ex16) (h:=?_);refine Zu2 3 ?_;dsimp only [go_sem];refine An ?_;exact Za5 J4 (s:=!x16) h
     ·refine Zu3 (by kernel_rfl) fun all hall hs hnap haf=>?_;dsimp only [go_sem];refine Zu5 hall hs haf hnap 5 9 [3,2,1,1,1,6] [(29,[.ptr 0 1,.sl 4 (List.map Sess.row x1.Sess),.iv x11]),(2,[.ptr 1 1]),(1,[.iv x11])] (by kernel_rfl) ?_;dsimp only [go_sem];obtain ⟨x12,ex12,h⟩:=Bs h;refine Z45 hall hs haf hnap 3 Sess.row ex12 rfl rfl trivial rfl rfl rfl rfl ?_;refine Zt5 hall hs haf hnap 1 7 ?_;dsimp only [go_sem];refine An ?_;refine Z74 6 10 11 rfl ?_ ?_ ?_
      ·refine Za4 hall rfl trivial ?_;dsimp only [go_sem];obtain ⟨x13,ex13,h⟩:=Bs h;refine Z45 hall hs haf hnap 8 Sess.row ex13 rfl rfl trivial rfl rfl rfl rfl ?_;refine Z74 9 10 11 rfl ?_ ?_ ?_
       ·refine Za4 hall rfl trivial ?_;dsimp only [go_sem];refine Z64 10 11 rfl ?_ ?_
        ·refine Za4 hall rfl trivial ?_;dsimp only [go_sem];refine Z54 11 rfl ?_;refine Za4 hall rfl trivial ?_;dsimp only [go_sem];refine Z54 12 rfl ?_;refine Za4 hall rfl trivial ?_;dsimp only [go_sem];refine Z54 13 rfl ?_;refine Za4 hall rfl trivial ?_;dsimp only [go_sem];refine Z44 rfl ?_ _;exact Za5 J3 (s:=(x12,x13)) h
        ·refine Za4 hall rfl trivial ?_;dsimp only [go_sem];refine Z54 10 rfl ?_;refine Za4 hall rfl trivial ?_;dsimp only [go_sem];refine Z54 12 rfl ?_;refine Za4 hall rfl trivial ?_;dsimp only [go_sem];refine Z54 13 rfl ?_;refine Za4 hall rfl trivial ?_;dsimp only [go_sem];refine Z44 rfl ?_ _;refine Zr5 2 3 rfl rfl ?_;dsimp only [go_sem];exact Za5 J3 (s:=(x12,x13)) h
       ·refine Za4 hall rfl trivial ?_;dsimp only [go_sem];refine Z64 9 11 rfl ?_ ?_
        ·refine Za4 hall rfl trivial ?_;dsimp only [go_sem];refine Z54 11 rfl ?_;refine Za4 hall rfl trivial ?_;dsimp only [go_sem];refine Z54 12 rfl ?_;refine Za4 hall rfl trivial ?_;dsimp only [go_sem];refine Z54 13 rfl ?_;refine Za4 hall rfl trivial ?_;dsimp only [go_sem];refine Z44 rfl ?_ _;exact Za5 J3 (s:=(x12,x13)) h
        ·refine Za4 hall rfl trivial ?_;dsimp only [go_sem];refine Z64 9 12 rfl ?_ ?_
         ·refine Za4 hall rfl trivial ?_;dsimp only [go_sem];refine Z54 12 rfl ?_;refine Za4 hall rfl trivial ?_;dsimp only [go_sem];refine Z54 13 rfl ?_;refine Za4 hall rfl trivial ?_;dsimp only [go_sem];refine Z44 rfl ?_ _;exact Za5 J3 (s:=(x12,x13)) h
         ·refine Za4 hall rfl trivial ?_;dsimp only [go_sem];refine Zt5 hall hs haf hnap 1 1 ?_;dsimp only [go_sem];refine An ?_;refine Z54 13 rfl ?_;refine Za4 hall rfl trivial ?_;dsimp only [go_sem];refine Z44 rfl ?_ _;exact Za5 J3 (s:=(x12,x13)) h
       ·refine Za4 hall rfl trivial ?_;dsimp only [go_sem];refine Z64 9 10 rfl ?_ ?_
        ·refine Za4 hall rfl trivial ?_;dsimp only [go_sem];refine Z54 10 rfl ?_;refine Za4 hall rfl trivial ?_;dsimp only [go_sem];refine Z54 12 rfl ?_;refine Za4 hall rfl trivial ?_;dsimp only [go_sem];refine Z54 13 rfl ?_;refine Za4 hall rfl trivial ?_;dsimp only [go_sem];refine Z44 rfl ?_ _;refine Zr5 2 3 rfl rfl ?_;dsimp only [go_sem];exact Za5 J3 (s:=(x12,x13)) h
        ·refine Za4 hall rfl trivial ?_;dsimp only [go_sem];refine Z64 9 12 rfl ?_ ?_
         ·refine Za4 hall rfl trivial ?_;dsimp only [go_sem];refine Z54 12 rfl ?_;refine Za4 hall rfl trivial ?_;dsimp only [go_sem];refine Z54 13 rfl ?_;refine Za4 hall rfl trivial ?_;dsimp only [go_sem];refine Z44 rfl ?_ _;refine Zr5 2 3 rfl rfl ?_;dsimp only [go_sem];exact Za5 J3 (s:=(x12,x13)) h
         ·refine Za4 hall rfl trivial ?_;dsimp only [go_sem];refine Zt5 hall hs haf hnap 1 1 ?_;dsimp only [go_sem];refine An ?_;refine Z54 13 rfl ?_;refine Za4 hall rfl trivial ?_;dsimp only [go_sem];refine Z44 rfl ?_ _;refine Zr5 2 3 rfl rfl ?_;dsimp only [go_sem];exact Za5 J3 (s:=(x12,x13)) h
      ·refine Za4 hall rfl trivial ?_;dsimp only [go_sem];refine Z64 6 11 rfl ?_ ?_
       ·refine Za4 hall rfl trivial ?_;dsimp only [go_sem];obtain ⟨x13,ex13,h⟩:=Bs h;refine Z45 hall hs haf hnap 8 Sess.row ex13 rfl rfl trivial rfl rfl rfl rfl ?_;refine Z64 9 11 rfl ?_ ?_
        ·refine Za4 hall rfl trivial ?_;dsimp only [go_sem];refine Z54 11 rfl ?_;refine Za4 hall rfl trivial ?_;dsimp only [go_sem];refine Z54 12 rfl ?_;refine Za4 hall rfl trivial ?_;dsimp only [go_sem];refine Z54 13 rfl ?_;refine Za4 hall rfl trivial ?_;dsimp only [go_sem];refine Z44 rfl ?_ _;exact Za5 J3 (s:=(x12,x13)) h
        ·refine Za4 hall rfl trivial ?_;dsimp only [go_sem];refine Z64 9 12 rfl ?_ ?_
         ·refine Za4 hall rfl trivial ?_;dsimp only [go_sem];refine Z54 12 rfl ?_;refine Za4 hall rfl trivial ?_;dsimp only [go_sem];refine Z54 13 rfl ?_;refine Za4 hall rfl trivial ?_;dsimp only [go_sem];refine Z44 rfl ?_ _;exact Za5 J3 (s:=(x12,x13)) h
         ·refine Za4 hall rfl trivial ?_;dsimp only [go_sem];refine Zt5 hall hs haf hnap 1 1 ?_;dsimp only [go_sem];refine An ?_;refine Z54 13 rfl ?_;refine Za4 hall rfl trivial ?_;dsimp only [go_sem];refine Z44 rfl ?_ _;exact Za5 J3 (s:=(x12,x13)) h
       ·refine Za4 hall rfl trivial ?_;dsimp only [go_sem];refine Z64 6 12 rfl ?_ ?_
        ·refine Za4 hall rfl trivial ?_;dsimp only [go_sem];obtain ⟨x13,ex13,h⟩:=Bs h;refine Z45 hall hs haf hnap 8 Sess.row ex13 rfl rfl trivial rfl rfl rfl rfl ?_;refine Z64 9 12 rfl ?_ ?_
         ·refine Za4 hall rfl trivial ?_;dsimp only [go_sem];refine Z54 12 rfl ?_;refine Za4 hall rfl trivial ?_;dsimp only [go_sem];refine Z54 13 rfl ?_;refine Za4 hall rfl trivial ?_;dsimp only [go_sem];refine Z44 rfl ?_ _;exact Za5 J3 (s:=(x12,x13)) h
         ·refine Za4 hall rfl trivial ?_;dsimp only [go_sem];refine Zt5 hall hs haf hnap 1 1 ?_;dsimp only [go_sem];refine An ?_;refine Z54 13 rfl ?_;refine Za4 hall rfl trivial ?_;dsimp only [go_sem];refine Z44 rfl ?_ _;exact Za5 J3 (s:=(x12,x13)) h
        ·refine Za4 hall rfl trivial ?_;dsimp only [go_sem];refine Zt5 hall hs haf hnap 1 3 ?_;dsimp only [go_sem];refine An ?_;obtain ⟨x13,ex13,h⟩:=Bs h;refine Z45 hall hs haf hnap 8 Sess.row ex13 rfl rfl trivial rfl rfl rfl rfl ?_;refine Zt5 hall hs haf hnap 1 1 ?_;dsimp only [go_sem];refine An ?_;refine Z54 13 rfl ?_;refine Za4 hall rfl trivial ?_;dsimp only [go_sem];refine Z44 rfl ?_ _;exact Za5 J3 (s:=(x12,x13)) h
      ·refine Za4 hall rfl trivial ?_;dsimp only [go_sem];refine Z64 6 10 rfl ?_ ?_
       ·refine Za4 hall rfl trivial ?_;dsimp only [go_sem];obtain ⟨x13,ex13,h⟩:=Bs h;refine Z45 hall hs haf hnap 8 Sess.row ex13 rfl rfl trivial rfl rfl rfl rfl ?_;refine Z64 9 10 rfl ?_ ?_
        ·refine Za4 hall rfl trivial ?_;dsimp only [go_sem];refine Z54 10 rfl ?_;refine Za4 hall rfl trivial ?_;dsimp only [go_sem];refine Z54 12 rfl ?_;refine Za4 hall rfl trivial ?_;dsimp only [go_sem];refine Z54 13 rfl ?_;refine Za4 hall rfl trivial ?_;dsimp only [go_sem];refine Z44 rfl ?_ _;refine Zr5 2 3 rfl rfl ?_;dsimp only [go_sem];exact Za5 J3 (s:=(x12,x13)) h
        ·refine Za4 hall rfl trivial ?_;dsimp only [go_sem];refine Z64 9 12 rfl ?_ ?_
         ·refine Za4 hall rfl trivial ?_;dsimp only [go_sem];refine Z54 12 rfl ?_;refine Za4 hall rfl trivial ?_;dsimp only [go_sem];refine Z54 13 rfl ?_;refine Za4 hall rfl trivial ?_;dsimp only [go_sem];refine Z44 rfl ?_ _;refine Zr5 2 3 rfl rfl ?_;dsimp only [go_sem];exact Za5 J3 (s:=(x12,x13)) h
         ·refine Za4 hall rfl trivial ?_;dsimp only [go_sem];refine Zt5 hall hs haf hnap 1 1 ?_;dsimp only [go_sem];refine An ?_;refine Z54 13 rfl ?_;refine Za4 hall rfl trivial ?_;dsimp only [go_sem];refine Z44 rfl ?_ _;refine Zr5 2 3 rfl rfl ?_;dsimp only [go_sem];exact Za5 J3 (s:=(x12,x13)) h
       ·refine Za4 hall rfl trivial ?_;dsimp only [go_sem];refine Z64 6 12 rfl ?_ ?_
        ·refine Za4 hall rfl trivial ?_;dsimp only [go_sem];obtain ⟨x13,ex13,h⟩:=Bs h;refine Z45 hall hs haf hnap 8 Sess.row ex13 rfl rfl trivial rfl rfl rfl rfl ?_;refine Z64 9 12 rfl ?_ ?_
         ·refine Za4 hall rfl trivial ?_;dsimp only [go_sem];refine Z54 12 rfl ?_;refine Za4 hall rfl trivial ?_;dsimp only [go_sem];refine Z54 13 rfl ?_;refine Za4 hall rfl trivial ?_;dsimp only [go_sem];refine Z44 rfl ?_ _;refine Zr5 2 3 rfl rfl ?_;dsimp only [go_sem];exact Za5 J3 (s:=(x12,x13)) h
         ·refine Za4 hall rfl trivial ?_;dsimp only [go_sem];refine Zt5 hall hs haf hnap 1 1 ?_;dsimp only [go_sem];refine An ?_;refine Z54 13 rfl ?_;refine Za4 hall rfl trivial ?_;dsimp only [go_sem];refine Z44 rfl ?_ _;refine Zr5 2 3 rfl rfl ?_;dsimp only [go_sem];exact Za5 J3 (s:=(x12,x13)) h
        ·refine Za4 hall rfl trivial ?_;dsimp only [go_sem];refine Zt5 hall hs haf hnap 1 3 ?_;dsimp only [go_sem];refine An ?_;obtain ⟨x13,ex13,h⟩:=Bs h;refine Z45 hall hs haf hnap 8 Sess.row ex13 rfl rfl trivial rfl rfl rfl rfl ?_;refine Zt5 hall hs haf hnap 1 1 ?_;dsimp only [go_sem];refine An ?_;refine Z54 13 rfl ?_;refine Za4 hall rfl trivial ?_;dsimp only [go_sem];refine Z44 rfl ?_ _;refine Zr5 2 3 rfl rfl ?_;dsimp only [go_sem];exact Za5 J3 (s:=(x12,x13)) h
    ·refine Zu2 1 ?_;dsimp only [go_sem];refine An ?_;exact Za5 J2 (s:=()) (Zx4 h hout1)
 ·refine Z75 13 h rfl (fun _ h=>?_) fun _ h=>?_
  ·dsimp only [go_sem];refine Zu2 9 ?_;dsimp only [go_sem];refine An ?_;exact Za5 J1 (s:=true) h
  ·dsimp only [go_sem];refine Zu2 9 ?_;dsimp only [go_sem];refine An ?_;exact Za5 J1 (s:=!decide ((ln Sess.row x1.Sess)=(ln Sess.row x2.Sess))) h
set_option maxRecDepth 100000
set_option maxHeartbeats 4000000
@[go_sem] def e10_L0:EC:=.seq (.seq (.reg [(Qm 13 5),(Qf 14 0 2),(Ql 15 14),(Qa 16 (.len (.t 15))),(Qa 17 (.bin .lss (.t 13) (.t 16)))]) (.ite (.t 17) (.skip) (.exit 0))) (.seq (.blk 1 (.seq (.drw [(Qf 20 0 2),(Ql 21 20),(Qm 22 5),(Qk 23 3 21 22),(Qf 24 0 23),(Qe 25 2 24),(Qf 26 0 3),(Ql 27 26),(Qm 28 5),(Qk 29 3 27 28),(Qf 30 0 29),(Qe 31 2 30),(Qa 32 (.call 23 [(.t 25),(.t 31)])),(Qa 33 (.not (.t 32))),(Qm 34 33),(Qh 35 34 false 0 2),(Qn 36 34 false 35),(Qg 37 34 false (.mv (.t 5))),(Qg 38 34 false (.idx 3 (.t 36) (.t 37))),(Qh 39 34 false 2 38),(Qn 40 34 false 39),(Qh 41 34 false 0 3),(Qn 42 34 false 41),(Qg 43 34 false (.mv (.t 5))),(Qg 44 34 false (.idx 3 (.t 42) (.t 43))),(Qh 45 34 false 2 44),(Qn 46 34 false 45),(Qg 47 34 false (.call 19 [(.t 40),(.t 46)])),(Qg 48 34 false (.not (.t 47))),(Qq 49 34 48)] [[],[0],[],[1,2],[3],[4],[],[6],[],[7,8],[9],[10],[5,11],[12],[13,12],[14],[15,14],[14],[16,17,14],[18,14],[19,14],[14],[21,14],[14],[22,23,14],[24,14],[25,14],[20,26,14,14],[27,14],[14,28]] [[1],[0,3],[3],[1,2,4],[3,5],[4,12],[7],[6,9],[9],[7,8,10],[9,11],[10,12],[5,11,13],[12,14],[13,15,16,17,18,19,20,21,22,23,24,25,26,27,28,29],[14,16],[14,15,18],[14,18],[14,16,17,19],[14,18,20],[14,19,27],[14,22],[14,21,24],[14,24],[14,22,23,25],[14,24,26],[14,25,27],[14,20,26,28],[14,27,29],[14,28]]) (.ite (.t 49) (.seq (.reg [(Qa 4 (.mv (.c .ff)))]) (.ret)) (.skip)))) (.reg [(Qm 18 5),(Qv 19 18 1),(Qm 5 19)]))
@[go_sem] def e10:EC:=.seq (.reg [(Qx 2 30 1 0),(Qx 3 30 1 1),(Qa 4 (.mv (.c .ff)))]) (.seq (.seq (.reg [(Qf 6 0 2),(Ql 7 6),(Qa 8 (.len (.t 7))),(Qf 9 0 3),(Ql 10 9),(Qa 11 (.len (.t 10))),(Qa 12 (.bin .neq (.t 8) (.t 11)))]) (.ite (.t 12) (.seq (.reg [(Qa 4 (.mv (.c .ff)))]) (.ret)) (.skip))) (.seq (.seq (.reg [(Qi 5 0)]) (.blk 0 (.loop e10_L0))) (.seq (.reg [(Qa 4 (.mv (.c .tt)))]) (.ret))))
theorem ok10:FnOK Try.prog 10 Try.f10 e10 [.t 4] 2 48:=⟨by kernel_rfl,⟨_,rfl,by kernel_rfl⟩,by kernel_rfl,by kernel_rfl⟩
noncomputable def Z3q:Unit→Option Bool
| ()=>
 some true
noncomputable def Z4q (x11:Int):Bool→Option (Int ⊕ Bool)
| x18=>
 ifb x18 (
 Option.map Sum.inr (some false)) (
 some (.inl (wr (x11+1))))
noncomputable def Z5q (x1:Model) (x2:Model):Int→Option (Int ⊕ Bool)
| x11=>
 ifb (decide (x11<(ln Place.row x1.Places))) (
 (at_ x1.Places x11).bind fun x12=>
 (at_ x2.Places x11).bind fun x13=>
 (Z1q x12.Book x13.Book).bind fun x14=>
 ifb (!x14) (
 (Z4q x11) true) (
 (at_ x1.Places x11).bind fun x15=>
 (at_ x2.Places x11).bind fun x16=>
 (Zda x15.Live x16.Live).bind fun x17=>
 (Z4q x11) (!x17))) (
 Option.map Sum.inr (Z3q ()))
noncomputable def Z6q (x1:Model) (x2:Model):Option Bool:=
 ifb (!decide ((ln Place.row x1.Places)=(ln Place.row x2.Places))) (
 some false) (
 loop (Z5q x1 x2) 0)
theorem Z7q (x1:Model) (x2:Model) (r:Bool) (h:Z6q x1 x2=some r):Zz2 Try.prog 10 [.agg (Model.row x1),.agg (Model.row x2)] (.bv r):=by
 refine Z33 ok10 rfl rfl fun w0 H0=>?_
 rw [Z6q] at h
 refine Zu2 17 ?_;dsimp only [go_sem];refine An ?_;refine Z05 h rfl (fun _ h=>?_) fun _ h=>?_
 ·refine Zu2 4 ?_;dsimp only [go_sem];refine An ?_;exact Z85 (res:=fun (r:Bool)=>.bv r) ok10 h
 ·refine Zu2 6 ?_;dsimp only [go_sem];refine An ?_;refine Zy4 (fun (_:Unit)=>(⟨(an 50 []),[],[]⟩:St)) Z3q r ?_ fun J1=>?_
  ·rintro ⟨⟩ h;rw [Z3q] at h;(try dsimp only);refine Zu2 4 ?_;dsimp only [go_sem];refine An ?_;exact Z85 (res:=fun (r:Bool)=>.bv r) ok10 h
  ·refine Zu2 1 ?_;dsimp only [go_sem];refine An ?_;refine Zz4 h (fun (x11:Int)=>(⟨(.any :: .any :: .ptr 0 0 :: .ptr 1 0 :: .any :: .iv x11::an 44 []),[some ⟨30,[.sl 3 (List.map Place.row x1.Places)]⟩,some ⟨30,[.sl 3 (List.map Place.row x2.Places)]⟩],[]⟩:St)) (by simp [go_sem]) (by intro x11;first | rfl | simp [go_sem]) ?_;rintro n1 x11 y1 h hin1 hout1;rw [Z5q] at h;(try dsimp only);refine Zu2 9 ?_;dsimp only [go_sem];refine An ?_;refine Z05 h rfl (fun _ h=>?_) fun _ h=>?_
   ·refine Zu2 4 ?_;dsimp only [go_sem];refine An ?_;refine Zy4 (fun (x18:Bool)=>(⟨(.any :: .any :: .ptr 0 0 :: .ptr 1 0 :: .any :: .iv x11::an 43 [.bv x18]),[some ⟨30,[.sl 3 (List.map Place.row x1.Places)]⟩,some ⟨30,[.sl 3 (List.map Place.row x2.Places)]⟩],[]⟩:St)) (Z4q x11) y1 ?_ fun J2=>?_
    ·intro x18 h;rw [Z4q] at h;(try dsimp only);refine Z05 h rfl (fun _ h=>?_) fun _ h=>?_
     ·refine Zu2 4 ?_;dsimp only [go_sem];refine An ?_;exact Z85 (res:=fun (r:Bool)=>.bv r) ok10 (Zx4 h hout1)
     ·refine Zu2 7 ?_;dsimp only [go_sem];refine An ?_;exact Z95 h hin1
    ·refine Zu3 (by kernel_rfl) fun all hall hs hnap haf=>?_;dsimp only [go_sem];refine Zu5 hall hs haf hnap 6 24 [3,3,3,21] [(20,[.ptr 0 0,.sl 3 (List.map Place.row x1.Places),.iv x11]),(3,[.ptr 1 0,.sl 3 (List.map Place.row x2.Places),.iv x11])] (by kernel_rfl) ?_;dsimp only [go_sem];obtain ⟨x12,ex12,h⟩:=Bs h;refine Z45 hall hs haf hnap 3 Place.row ex12 rfl rfl trivial rfl rfl rfl rfl ?_;refine Zt5 hall hs haf hnap 2 21 ?_;dsimp only [go_sem];refine An ?_;obtain ⟨x13,ex13,h⟩:=Bs h
     refine Z45 hall hs haf hnap 9 Place.row ex13 rfl rfl trivial rfl rfl rfl rfl ?_;refine Zt5 hall hs haf hnap 2 18 ?_;dsimp only [go_sem];refine An ?_;refine Z54 12 rfl ?_;obtain ⟨x14,ex14,h⟩:=Bs h;refine Zb4 hall rfl trivial (Z2q x12.Book x13.Book _ ex14) (h:=?_);dsimp only [go_sem];refine Zt5 hall hs haf hnap 2 15 ?_;dsimp only [go_sem];refine An ?_;refine Zi5 34 h rfl (fun _ h=>?_) fun _ h=>?_
     ·dsimp only [go_sem];refine Zu5 hall hs haf hnap 15 0 [30] [(35,[.un,.un,.un,.un,.un,.un,.un,.un,.un,.un,.un,.un,.un,.un,.tt])] (by kernel_rfl) ?_;dsimp only [go_sem];refine Z44 rfl ?_ _;exact Za5 J2 (s:=true) h
     ·dsimp only [go_sem];refine Zu5 hall hs haf hnap 6 9 [18,3,3,6] [(35,[.ptr 0 0,.sl 3 (List.map Place.row x1.Places),.iv x11]),(3,[.ptr 1 0,.sl 3 (List.map Place.row x2.Places),.iv x11])] (by kernel_rfl) ?_;dsimp only [go_sem];obtain ⟨x15,ex15,h⟩:=Bs h;refine Z45 hall hs haf hnap 18 Place.row ex15 rfl rfl trivial rfl rfl rfl rfl ?_;refine Zt5 hall hs haf hnap 2 6 ?_;dsimp only [go_sem];refine An ?_;obtain ⟨x16,ex16,h⟩:=Bs h;refine Z45 hall hs haf hnap 24 Place.row ex16 rfl rfl trivial rfl rfl rfl rfl ?_;refine Zt5 hall hs haf hnap 2 3 ?_
      dsimp only [go_sem];refine An ?_;refine Z54 27 rfl ?_;obtain ⟨x17,ex17,h⟩:=Bs h;refine Zb4 hall rfl trivial (Zea x15.Live x16.Live _ ex17) (h:=?_);dsimp only [go_sem];refine Zt5 hall hs haf hnap 2 0 ?_;dsimp only [go_sem];refine An ?_;refine Z44 rfl ?_ _;exact Za5 J2 (s:=!x17) h
   ·refine Zu2 1 ?_;dsimp only [go_sem];refine An ?_;exact Za5 J1 (s:=()) (Zx4 h hout1)
set_option maxRecDepth 100000
set_option maxHeartbeats 4000000
@[go_sem] def e34_L0:EC:=.seq (.seq (.reg [(Qm 4 3),(Qf 5 1 1),(Ql 6 5),(Qa 7 (.len (.t 6))),(Qa 8 (.bin .lss (.t 4) (.t 7))),(Qm 9 8),(Qg 10 9 true (.mv (.t 3))),(Qg 11 9 true (.bin .lss (.t 10) (.c (.iv 13)))),(Qp 12 9 11)]) (.ite (.t 12) (.skip) (.exit 0))) (.seq (.blk 1 (.seq (.reg [(Qf 15 1 1),(Ql 16 15),(Qm 17 3),(Qk 18 4 16 17),(Qf 19 1 18),(Ql 20 19),(Qa 21 (.len (.t 20))),(Qa 22 (.bin .gtr (.t 21) (.c (.iv 70))))]) (.ite (.t 22) (.seq (.reg [(Qa 2 (.mv (.c .ff)))]) (.ret)) (.skip)))) (.reg [(Qm 13 3),(Qv 14 13 1),(Qm 3 14)]))
@[go_sem] def e34:EC:=.seq (.reg [(Qx 1 49 2 0),(Qa 2 (.mv (.c .ff)))]) (.seq (.seq (.reg [(Qi 3 0)]) (.blk 0 (.loop e34_L0))) (.seq (.reg [(Qf 23 1 1),(Ql 24 23),(Qa 25 (.len (.t 24))),(Qa 26 (.bin .leq (.t 25) (.c (.iv 12)))),(Qm 2 26)]) (.ret)))
theorem ok34:FnOK Try.prog 34 Try.f34 e34 [.t 2] 1 26:=⟨by kernel_rfl,⟨_,rfl,by kernel_rfl⟩,by kernel_rfl,by kernel_rfl⟩
noncomputable def Z8q (x1:Book):Unit→Option Bool
| ()=>
 some (decide ((ln Sess.row x1.Sess)≤12))
noncomputable def Z9q (x1:Book) (x5:Int):Bool→Option (Int ⊕ Bool)
| x6=>
 ifb x6 (
 (at_ x1.Sess x5).bind fun x7=>
 ifb (decide (70<(ln Zf5 x7.Need))) (
 Option.map Sum.inr (some false)) (
 some (.inl (wr (x5+1))))) (
 Option.map Sum.inr ((Z8q x1) ()))
noncomputable def Zaq (x1:Book):Int→Option (Int ⊕ Bool)
| x5=>
 ifb (decide (x5<(ln Sess.row x1.Sess))) (
 (Z9q x1 x5) (decide (x5<13))) (
 (Z9q x1 x5) false)
noncomputable def Zbq (x1:Book):Option Bool:=
 loop (Zaq x1) 0
theorem Zcq (x1:Book) (r:Bool) (h:Zbq x1=some r):Zz2 Try.prog 34 [.agg (Book.row x1)] (.bv r):=by
 refine Z33 ok34 rfl rfl fun w0 H0=>?_
 rw [Zbq] at h
 refine Zu2 10 ?_;dsimp only [go_sem];refine An ?_;refine Zy4 (fun (_:Unit)=>(⟨(.any :: .ptr 0 0::an 25 []),[some ⟨49,[.iv x1.Last,.sl 4 (List.map Sess.row x1.Sess)]⟩],[]⟩:St)) (Z8q x1) r ?_ fun J1=>?_
 ·rintro ⟨⟩ h;rw [Z8q] at h;(try dsimp only);refine Zu2 8 ?_;dsimp only [go_sem];refine An ?_;exact Z85 (res:=fun (r:Bool)=>.bv r) ok34 h
 ·refine Zu2 1 ?_;dsimp only [go_sem];refine An ?_;refine Zz4 h (fun (x5:Int)=>(⟨(.any :: .ptr 0 0 :: .any :: .iv x5::an 23 []),[some ⟨49,[.iv x1.Last,.sl 4 (List.map Sess.row x1.Sess)]⟩],[]⟩:St)) (by simp [go_sem]) (by intro x5;first | rfl | simp [go_sem]) ?_;rintro n1 x5 y1 h hin1 hout1;rw [Zaq] at h;(try dsimp only);refine Zu2 9 ?_;dsimp only [go_sem];refine An ?_
  refine Zy4 (fun (x6:Bool)=>(⟨(.any :: .ptr 0 0 :: .any :: .iv x5::an 8 (.bv x6::an 14 [])),[some ⟨49,[.iv x1.Last,.sl 4 (List.map Sess.row x1.Sess)]⟩],[]⟩:St)) (Z9q x1 x5) y1 ?_ fun J2=>?_
  ·intro x6 h;rw [Z9q] at h;(try dsimp only);refine Z05 h rfl (fun _ h=>?_) fun _ h=>?_
   ·refine Zu2 8 ?_;dsimp only [go_sem];refine An ?_;obtain ⟨x7,ex7,h⟩:=Bs h;refine Z35 Sess.row ex7 trivial rfl rfl rfl ?_;refine Zu2 5 ?_;dsimp only [go_sem];refine An ?_;refine Z05 h rfl (fun _ h=>?_) fun _ h=>?_
    ·refine Zu2 4 ?_;dsimp only [go_sem];refine An ?_;exact Z85 (res:=fun (r:Bool)=>.bv r) ok34 (Zx4 h hout1)
    ·refine Zu2 7 ?_;dsimp only [go_sem];refine An ?_;exact Z95 h hin1
   ·refine Zu2 1 ?_;dsimp only [go_sem];refine An ?_;exact Za5 J1 (s:=()) (Zx4 h hout1)
  ·refine Z75 9 h rfl (fun _ h=>?_) fun _ h=>?_
   ·dsimp only [go_sem];refine Zu2 4 ?_;dsimp only [go_sem];refine An ?_;exact Za5 J2 (s:=decide (x5<13)) h
   ·dsimp only [go_sem];refine Zu2 4 ?_;dsimp only [go_sem];refine An ?_;exact Za5 J2 (s:=false) h
set_option maxRecDepth 100000
set_option maxHeartbeats 4000000
@[go_sem] def e15_L0:EC:=.seq (.seq (.reg [(Qm 4 3),(Qf 5 0 1),(Ql 6 5),(Qa 7 (.len (.t 6))),(Qa 8 (.bin .lss (.t 4) (.t 7))),(Qm 9 8),(Qg 10 9 true (.mv (.t 3))),(Qg 11 9 true (.bin .lss (.t 10) (.c (.iv 71)))),(Qp 12 9 11)]) (.ite (.t 12) (.skip) (.exit 0))) (.seq (.blk 1 (.seq (.reg [(Qf 15 0 1),(Ql 16 15),(Qm 17 3),(Qk 18 3 16 17),(Qf 19 2 18),(Ql 20 19),(Qa 21 (.len (.t 20))),(Qa 22 (.bin .gtr (.t 21) (.c (.iv 70)))),(Qm 23 22),(Qh 24 23 false 0 1),(Qn 25 23 false 24),(Qg 26 23 false (.mv (.t 3))),(Qg 27 23 false (.idx 3 (.t 25) (.t 26))),(Qh 28 23 false 0 27),(Qg 29 23 false (.loadA 2 (.t 28))),(Qg 30 23 false (.call 34 [(.t 29)])),(Qg 31 23 false (.not (.t 30))),(Qq 32 23 31)]) (.ite (.t 32) (.seq (.reg [(Qa 2 (.mv (.c .ff)))]) (.ret)) (.skip)))) (.reg [(Qm 13 3),(Qv 14 13 1),(Qm 3 14)]))
@[go_sem] def e15:EC:=.seq (.reg [(Qx 1 30 1 0),(Qa 2 (.mv (.c .ff)))]) (.seq (.seq (.reg [(Qi 3 0)]) (.blk 0 (.loop e15_L0))) (.seq (.reg [(Qf 33 0 1),(Ql 34 33),(Qa 35 (.len (.t 34))),(Qa 36 (.bin .leq (.t 35) (.c (.iv 70)))),(Qm 2 36)]) (.ret)))
theorem ok15:FnOK Try.prog 15 Try.f15 e15 [.t 2] 1 36:=⟨by kernel_rfl,⟨_,rfl,by kernel_rfl⟩,by kernel_rfl,by kernel_rfl⟩
noncomputable def Zdq (x1:Model):Unit→Option Bool
| ()=>
 some (decide ((ln Place.row x1.Places)≤70))
noncomputable def Zeq (x8:Int):Bool→Option (Int ⊕ Bool)
| x13=>
 ifb x13 (
 Option.map Sum.inr (some false)) (
 some (.inl (wr (x8+1))))
noncomputable def Zfq (x1:Model) (x8:Int):Bool→Option (Int ⊕ Bool)
| x9=>
 ifb x9 (
 (at_ x1.Places x8).bind fun x10=>
 ifb (decide (70<(ln Zf5 x10.Live))) (
 (Zeq x8) true) (
 (at_ x1.Places x8).bind fun x11=>
 (Zbq x11.Book).bind fun x12=>
 (Zeq x8) (!x12))) (
 Option.map Sum.inr ((Zdq x1) ()))
noncomputable def Zgq (x1:Model):Int→Option (Int ⊕ Bool)
| x8=>
 ifb (decide (x8<(ln Place.row x1.Places))) (
 (Zfq x1 x8) (decide (x8<71))) (
 (Zfq x1 x8) false)
noncomputable def Zhq (x1:Model):Option Bool:=
 loop (Zgq x1) 0
theorem Ziq (x1:Model) (r:Bool) (h:Zhq x1=some r):Zz2 Try.prog 15 [.agg (Model.row x1)] (.bv r):=by
 refine Z33 ok15 rfl rfl fun w0 H0=>?_
 rw [Zhq] at h
 refine Zu2 10 ?_;dsimp only [go_sem];refine An ?_;refine Zy4 (fun (_:Unit)=>(⟨(.any :: .ptr 0 0::an 35 []),[some ⟨30,[.sl 3 (List.map Place.row x1.Places)]⟩],[]⟩:St)) (Zdq x1) r ?_ fun J1=>?_
 ·rintro ⟨⟩ h;rw [Zdq] at h;(try dsimp only);refine Zu2 8 ?_;dsimp only [go_sem];refine An ?_;exact Z85 (res:=fun (r:Bool)=>.bv r) ok15 h
 ·refine Zu2 1 ?_;dsimp only [go_sem];refine An ?_;refine Zz4 h (fun (x8:Int)=>(⟨(.any :: .ptr 0 0 :: .any :: .iv x8::an 33 []),[some ⟨30,[.sl 3 (List.map Place.row x1.Places)]⟩],[]⟩:St)) (by simp [go_sem]) (by intro x8;first | rfl | simp [go_sem]) ?_;rintro n1 x8 y1 h hin1 hout1;rw [Zgq] at h;(try dsimp only);refine Zu2 9 ?_;dsimp only [go_sem];refine An ?_
  refine Zy4 (fun (x9:Bool)=>(⟨(.any :: .ptr 0 0 :: .any :: .iv x8::an 8 (.bv x9::an 24 [])),[some ⟨30,[.sl 3 (List.map Place.row x1.Places)]⟩],[]⟩:St)) (Zfq x1 x8) y1 ?_ fun J2=>?_
  ·intro x9 h;rw [Zfq] at h;(try dsimp only);refine Z05 h rfl (fun _ h=>?_) fun _ h=>?_
   ·refine Zu2 8 ?_;dsimp only [go_sem];refine An ?_;obtain ⟨x10,ex10,h⟩:=Bs h;refine Z35 Place.row ex10 trivial rfl rfl rfl ?_;refine Zu2 5 ?_;dsimp only [go_sem];refine An ?_;refine Zy4 (fun (x13:Bool)=>(⟨(.any :: .ptr 0 0 :: .any :: .iv x8::an 28 (.bv x13::an 4 [])),[some ⟨30,[.sl 3 (List.map Place.row x1.Places)]⟩],[]⟩:St)) (Zeq x8) y1 ?_ fun J3=>?_
    ·intro x13 h;rw [Zeq] at h;(try dsimp only);refine Z05 h rfl (fun _ h=>?_) fun _ h=>?_
     ·refine Zu2 4 ?_;dsimp only [go_sem];refine An ?_;exact Z85 (res:=fun (r:Bool)=>.bv r) ok15 (Zx4 h hout1)
     ·refine Zu2 7 ?_;dsimp only [go_sem];refine An ?_;exact Z95 h hin1
    ·refine Z75 23 h rfl (fun _ h=>?_) fun _ h=>?_
     ·dsimp only [go_sem];refine Zu2 10 ?_;dsimp only [go_sem];refine An ?_;exact Za5 J3 (s:=true) h
     ·dsimp only [go_sem];refine Zu2 3 ?_;dsimp only [go_sem];refine An ?_;obtain ⟨x11,ex11,h⟩:=Bs h;refine Z35 Place.row ex11 trivial rfl rfl rfl ?_;refine Zu2 2 ?_;dsimp only [go_sem];refine An ?_;obtain ⟨x12,ex12,h⟩:=Bs h;refine Z83 trivial (Zcq x11.Book _ ex12) (h:=?_);refine Zu2 3 ?_;dsimp only [go_sem];refine An ?_;exact Za5 J3 (s:=!x12) h
   ·refine Zu2 1 ?_;dsimp only [go_sem];refine An ?_;exact Za5 J1 (s:=()) (Zx4 h hout1)
  ·refine Z75 9 h rfl (fun _ h=>?_) fun _ h=>?_
   ·dsimp only [go_sem];refine Zu2 4 ?_;dsimp only [go_sem];refine An ?_;exact Za5 J2 (s:=decide (x8<71)) h
   ·dsimp only [go_sem];refine Zu2 4 ?_;dsimp only [go_sem];refine An ?_;exact Za5 J2 (s:=false) h
theorem Sess_eqB (x y:Sess):(decide (x.ID=y.ID)&&(decide (x.State=y.State)&&(decide (x.Age=y.Age)&&decide (x.Need=y.Need))))=decide (x=y):=by
 rw [Bool.eq_iff_iff]
 obtain ⟨a,b,c,d⟩:=x
 obtain ⟨a',b',c',d'⟩:=y
 simp only [Bool.and_eq_true,decide_eq_true_eq,Sess.mk.injEq]
 constructor
 ·rintro ⟨h1,h2,h3,h4⟩;exact ⟨h1,h4,h2,h3⟩
 ·rintro ⟨h1,h4,h2,h3⟩;exact ⟨h1,h2,h3,h4⟩
theorem s_r17Same (b c:Book) (hb:Z4h b):Z1q b c=some (decide (b=c)):=by
 have h1:=hb.1
 have es:decide (b=c)=(decide (b.Last=c.Last)&&decide (b.Sess=c.Sess)):=by
  obtain ⟨l,q⟩:=b
  obtain ⟨l',q'⟩:=c
  rw [Bool.eq_iff_iff];simp
 rw [es]
 simp only [Z1q,Z0q,ln_dec]
 by_cases h0:b.Last=c.Last
 ·by_cases h:b.Sess.length=c.Sess.length
  ·simp only [h0,h,decide_true,Bool.not_true,Zi6,Bool.true_and]
   rw [Zsa b.Sess c.Sess _ (fun x y=>decide (x=y)) h (by omega) (fun k x y hx hy=>by
    have e4:∀z,Zxp (k:Int) z=if z then some (.inr false) else some (.inl ((k+1:Nat):Int)):=fun z=>by
     simp only [Zxp,Zp6 hx (show b.Sess.length≤4000000000000000000 by omega)]
     cases z<;>rfl
    simp only [Zzp,Zm6 hx,Zh6,Zk6 hx,Zk6 hy,Option.bind_some,Zyp,e4,Z6b x.Need y.Need (hb.2 x (List.mem_iff_getElem?.2 ⟨_,hx⟩)),←Sess_eqB]
    by_cases g1:x.ID=y.ID<;>by_cases g2:x.State=y.State<;>by_cases g3:x.Age=y.Age<;>by_cases g4:x.Need=y.Need<;>simp [g1,g2,g3,g4]) (by simp only [Zzp,Zn6,Zi6,Zwp,Option.map_some]),Zta _ _ h]
  ·simp [h0,h,len_ne h]
 ·simp [h0]
theorem Place_eqB (x y:Place):(decide (x.Book=y.Book)&&decide (x.Live=y.Live))=decide (x=y):=by
 rw [Bool.eq_iff_iff];cases x;cases y;simp [Place.mk.injEq]
theorem Zjq (m n:Model) (hm:fewM m):Z6q m n=some (decide (m=n)):=by
 have h1:=hm.1
 have es:decide (m=n)=decide (m.Places=n.Places):=by
  obtain ⟨l⟩:=m
  obtain ⟨l'⟩:=n
  rw [Bool.eq_iff_iff];simp
 rw [es]
 simp only [Z6q,ln_dec]
 by_cases h:m.Places.length=n.Places.length
 ·simp only [h,decide_true,Bool.not_true,Zi6]
  rw [Zsa m.Places n.Places _ (fun x y=>decide (x=y)) h (by omega) (fun k x y hx hy=>by
   have e2:∀z,Z4q (k:Int) z=if z then some (.inr false) else some (.inl ((k+1:Nat):Int)):=fun z=>by
    simp only [Z4q,Zp6 hx (show m.Places.length≤4000000000000000000 by omega)]
    cases z<;>rfl
   have hp:=hm.2 x (List.mem_iff_getElem?.2 ⟨_,hx⟩)
   simp only [Z5q,Zm6 hx,Zh6,Zk6 hx,Zk6 hy,Option.bind_some,e2,s_r17Same x.Book y.Book hp.2,Z6b x.Live y.Live (by omega),←Place_eqB]
   by_cases g1:x.Book=y.Book<;>by_cases g2:x.Live=y.Live<;>simp [g1,g2]) (by simp only [Z5q,Zn6,Zi6,Z3q,Option.map_some]),Zta _ _ h]
 ·simp [h,len_ne h]
theorem s_Own17 (b:Book) (hb:Z4h b):Zkp b=some b:=by
 have h1:=hb.1
 simp only [Zkp]
 refine Zma b.Sess _ (fun pre=>((pre.length:Int),pre)) b (fun pre x post h=>?_) ?_
 ·have hx:=Zna h
  have hl:=Zoa h
  have hn:=hb.2 x (Zpa h)
  dsimp only [Zjp]
  rw [Zm6 hx,Zh6,Zk6 hx,Option.bind_some,Zl6 _ _ (by omega) (by simp;omega),Option.bind_some,List.nil_append,Zl6 _ _ (by omega) (by simp only [List.length_singleton];omega),Option.bind_some,Zo6 (by omega),Zqa]
 ·dsimp only [Zjp]
  rw [Zn6,Zi6];rfl
theorem Zkq (m:Model) (hm:fewM m):Zpp m=some m:=by
 have h1:=hm.1
 simp only [Zpp]
 refine Zma m.Places _ (fun pre=>((pre.length:Int),pre)) m (fun pre x post h=>?_) ?_
 ·have hx:=Zna h
  have hl:=Zoa h
  have hp:=hm.2 x (Zpa h)
  dsimp only [Zop]
  rw [Zm6 hx,Zh6,Zk6 hx,Option.bind_some,Option.bind_some,s_Own17 x.Book hp.2,Option.bind_some,Zl6 _ _ (by omega) (by simp;omega),Option.bind_some,List.nil_append,Zl6 _ _ (by omega) (by simp only [List.length_singleton];omega),Option.bind_some]
  dsimp only [Znp]
  rw [Zo6 (by omega),Zqa]
 ·dsimp only [Zop]
  rw [Zn6,Zi6];rfl
theorem Zlq {α:Type} (q:α→Bool) (n:Nat) (x:α) (post:List α):((x::post).take (n+1)).all q=(q x&&(post.take n).all q):=by simp
theorem s_r17Few (b:Book):Zbq b=some ((b.Sess.take 13).all (fun s=>decide (s.Need.length≤70))&&decide (b.Sess.length≤12)):=by
 simp only [Zbq]
 have key:=Zla b.Sess (Zaq b) (fun pre=>(pre.length:Int)) (fun pre post=>some ((post.take (13-pre.length)).all (fun s=>decide (s.Need.length≤70))&&decide (b.Sess.length≤12))) (fun pre x post h=>?_) ?_
 ·simpa using key
 ·have hx:=Zna h
  dsimp only [Zaq]
  rw [Zm6 hx,Zh6]
  by_cases h13:pre.length<13
  ·rw [decide_eq_true (by omega)]
   dsimp only [Z9q]
   rw [Zh6,Zk6 hx,Option.bind_some,Zh5,Zqa,show 13-pre.length=(13-(pre.length+1))+1 by omega,Zlq]
   by_cases h70:x.Need.length≤70
   ·left
    exact ⟨by rw [decide_eq_false (by omega),Zi6,Zo6 (by omega)],by rw [decide_eq_true h70,Bool.true_and]⟩
   ·right
    exact ⟨false,by rw [decide_eq_true (by omega),Zh6];rfl,by rw [decide_eq_false h70];rfl⟩
  ·right
   rw [decide_eq_false (by omega),show 13-pre.length=0 by omega]
   dsimp only [Z9q]
   rw [Zi6]
   simp only [Z8q,Zh5]
   refine ⟨decide (b.Sess.length≤12),?_,by simp⟩
   have:decide (((b.Sess.length:Nat):Int)≤12)=decide (b.Sess.length≤12):=by rw [decide_eq_decide];omega
   rw [this];rfl
 ·dsimp only [Zaq]
  rw [Zn6,Zi6]
  dsimp only [Z9q]
  rw [Zi6]
  simp only [Z8q,Zh5]
  have:decide (((b.Sess.length:Nat):Int)≤12)=decide (b.Sess.length≤12):=by rw [decide_eq_decide];omega
  rw [this];simp
def few17 (b:Book):Bool:=(b.Sess.take 13).all (fun s=>decide (s.Need.length≤70))&&decide (b.Sess.length≤12)
theorem few17_few {b:Book} (h:few17 b=true):Z4h b:=by
 simp only [few17,Bool.and_eq_true,decide_eq_true_eq,List.all_eq_true] at h
 refine ⟨by omega,fun s hs=>?_⟩
 have:=h.1 s (by rw [List.take_of_length_le (by omega)];exact hs)
 omega
def few20 (m:Model):Bool:=(m.Places.take 71).all (fun p=>decide (p.Live.length≤70)&&few17 p.Book)&&decide (m.Places.length≤70)
theorem s_r20Few (m:Model):Zhq m=some (few20 m):=by
 simp only [Zhq,few20]
 have key:=Zla m.Places (Zgq m) (fun pre=>(pre.length:Int)) (fun pre post=>some ((post.take (71-pre.length)).all (fun p=>decide (p.Live.length≤70)&&few17 p.Book)&&decide (m.Places.length≤70))) (fun pre x post h=>?_) ?_
 ·simpa using key
 ·have hx:=Zna h
  dsimp only [Zgq]
  rw [Zm6 hx,Zh6]
  by_cases h71:pre.length<71
  ·have e3:∀z,Zeq (pre.length:Int) z=if z then some (.inr false) else some (.inl ((pre.length+1:Nat):Int)):=fun z=>by
    simp only [Zeq,Zo6 (show pre.length≤4000000000000000000 by omega)]
    cases z<;>rfl
   rw [decide_eq_true (by omega)]
   dsimp only [Zfq]
   rw [Zh6,Zk6 hx,Option.bind_some,Option.bind_some,Zh5,Zqa,show 71-pre.length=(71-(pre.length+1))+1 by omega,Zlq,s_r17Few,Option.bind_some]
   simp only [e3]
   show ((ifb _ _ (if (!few17 x.Book)=true then _ else _))=_∧_)∨∃r,(ifb _ _ (if (!few17 x.Book)=true then _ else _))=_∧_
   by_cases h70:x.Live.length≤70
   ·rw [decide_eq_false (by omega),Zi6,decide_eq_true h70,Bool.true_and]
    cases few17 x.Book
    ·right;exact ⟨false,rfl,rfl⟩
    ·left;exact ⟨rfl,by rw [Bool.true_and]⟩
   ·right
    exact ⟨false,by rw [decide_eq_true (by omega),Zh6];rfl,by rw [decide_eq_false h70];rfl⟩
  ·right
   rw [decide_eq_false (by omega),show 71-pre.length=0 by omega]
   dsimp only [Zfq]
   rw [Zi6]
   simp only [Zdq,Zh5]
   refine ⟨decide (m.Places.length≤70),?_,by simp⟩
   have:decide (((m.Places.length:Nat):Int)≤70)=decide (m.Places.length≤70):=by rw [decide_eq_decide];omega
   rw [this];rfl
 ·dsimp only [Zgq]
  rw [Zn6,Zi6]
  dsimp only [Zfq]
  rw [Zi6]
  simp only [Zdq,Zh5]
  have:decide (((m.Places.length:Nat):Int)≤70)=decide (m.Places.length≤70):=by rw [decide_eq_decide];omega
  rw [this];simp
theorem few20_few {m:Model} (h:few20 m=true):fewM m:=by
 simp only [few20,Bool.and_eq_true,decide_eq_true_eq,List.all_eq_true] at h
 refine ⟨by omega,fun p hp=>?_⟩
 have:=h.1 p (by rw [List.take_of_length_le (by omega)];exact hp)
 exact ⟨by omega,few17_few this.2⟩
def fewE (l:List Event):Bool:=(l.take 201).all (fun e=>decide (e.Need.length≤70))&&decide (l.length≤200)
theorem s_few (l:List Event):Zup l=some (fewE l):=by
 simp only [Zup,fewE]
 have key:=Zla l (Ztp l) (fun pre=>(pre.length:Int)) (fun pre post=>some ((post.take (201-pre.length)).all (fun s=>decide (s.Need.length≤70))&&decide (l.length≤200))) (fun pre x post h=>?_) ?_
 ·simpa using key
 ·have hx:=Zna h
  dsimp only [Ztp]
  rw [Zm6 hx,Zh6]
  by_cases h13:pre.length<201
  ·rw [decide_eq_true (by omega)]
   dsimp only [Zsp]
   rw [Zh6,Zk6 hx,Option.bind_some,Zh5,Zqa,show 201-pre.length=(201-(pre.length+1))+1 by omega,Zlq]
   by_cases h70:x.Need.length≤70
   ·left
    exact ⟨by rw [decide_eq_false (by omega),Zi6,Zo6 (by omega)],by rw [decide_eq_true h70,Bool.true_and]⟩
   ·right
    exact ⟨false,by rw [decide_eq_true (by omega),Zh6];rfl,by rw [decide_eq_false h70];rfl⟩
  ·right
   rw [decide_eq_false (by omega),show 201-pre.length=0 by omega]
   dsimp only [Zsp]
   rw [Zi6]
   simp only [Zrp,Zh5]
   refine ⟨decide (l.length≤200),?_,by simp⟩
   have:decide (((l.length:Nat):Int)≤200)=decide (l.length≤200):=by rw [decide_eq_decide];omega
   rw [this];rfl
 ·dsimp only [Ztp]
  rw [Zn6,Zi6]
  dsimp only [Zsp]
  rw [Zi6]
  simp only [Zrp,Zh5]
  have:decide (((l.length:Nat):Int)≤200)=decide (l.length≤200):=by rw [decide_eq_decide];omega
  rw [this];simp
theorem fewE_need {l:List Event} (h:fewE l=true):l.length≤200∧∀e∈l,e.Need.length≤70:=by
 simp only [fewE,Bool.and_eq_true,decide_eq_true_eq,List.all_eq_true] at h
 exact ⟨h.2,fun s hs=>h.1 s (by rw [List.take_of_length_le (by omega)];exact hs)⟩
theorem Zmq {last top:Int} {first:Bool} {s:Sess}:Z1h last top first s=true↔last<s.ID∧s.ID≤top∧Z0h s.Need=true∧s.Need.Pairwise (· < ·)∧0≤s.Age∧((s.State=1∧first=true)∨(s.State=0∧s.Age=0)):=by
 simp only [Z1h,Bool.and_eq_true,Bool.or_eq_true,decide_eq_true_eq]
theorem Znq {last last' top top':Int} {first:Bool} {s:Sess} (h:Z1h last' top first s=true) (h1:last≤last') (h2:top≤top'):Z1h last top' first s=true:=by
 rw [Zmq] at h ⊢
 exact ⟨by omega,by omega,h.2.2⟩
theorem sessB_first {last top:Int} {first:Bool} {s:Sess} (h:Z1h last top false s=true):Z1h last top first s=true:=by
 rw [Zmq] at h ⊢
 refine ⟨h.1,h.2.1,h.2.2.1,h.2.2.2.1,h.2.2.2.2.1,.inr ?_⟩
 rcases h.2.2.2.2.2 with ⟨_,h⟩ | h
 ·simp at h
 ·exact h
theorem Zoq {top top':Int} (ht:top≤top'):∀ {l:List Sess} {last last':Int} {first:Bool},Z2h top last' false l=true→last≤last'→Z2h top' last first l=true
 | [],_,_,_,_,_=>rfl
 | s::l,last,last',first,h,hl=>by
   simp only [Z2h,Bool.and_eq_true] at h ⊢
   exact ⟨sessB_first (Znq h.1 hl ht),Zoq ht h.2 (Int.le_refl _)⟩
theorem sessL_top {top top':Int} (ht:top≤top'):∀ {l:List Sess} {last:Int} {first:Bool},Z2h top last first l=true→Z2h top' last first l=true
 | [],_,_,_=>rfl
 | s::l,last,first,h=>by
   simp only [Z2h,Bool.and_eq_true] at h ⊢
   exact ⟨Znq h.1 (Int.le_refl _) ht,sessL_top ht h.2⟩
theorem Zpq {top:Int}:∀ {l:List Sess} {last:Int} {first:Bool},Z2h top last first l=true→∀s∈l,last<s.ID∧s.ID≤top∧Z0h s.Need=true∧s.Need.Pairwise (· < ·)
 | [],_,_,_,s,hs=>by simp at hs
 | x::l,last,first,h,s,hs=>by
   simp only [Z2h,Bool.and_eq_true] at h
   have hx:=Zmq.1 h.1
   rcases List.mem_cons.1 hs with rfl | hs
   ·exact ⟨hx.1,hx.2.1,hx.2.2.1,hx.2.2.2.1⟩
   ·have:=Zpq h.2 s hs
    exact ⟨by omega,this.2⟩
theorem sessL_ids {top:Int}:∀ {l:List Sess} {last:Int} {first:Bool},Z2h top last first l=true→l.Pairwise fun x y=>x.ID<y.ID
 | [],_,_,_=>.nil
 | x::l,last,first,h=>by
   simp only [Z2h,Bool.and_eq_true] at h
   exact List.pairwise_cons.2 ⟨fun y hy=>(Zpq h.2 y hy).1,sessL_ids h.2⟩
theorem Zqq {top M:Int} {s:Sess} (hs:∀last≤M,∀f,Z1h last top f s=true):∀ {l:List Sess} {last:Int} {first:Bool},Z2h top last first l=true→last≤M→(∀x∈l,x.ID≤M)→Z2h top last first (l++[s])=true
 | [],last,first,_,hl,_=>by simp only [List.nil_append,Z2h,hs last hl first,Bool.true_and]
 | x::l,last,first,h,hl,hM=>by
   simp only [List.cons_append,Z2h,Bool.and_eq_true] at h ⊢
   exact ⟨h.1,Zqq hs h.2 (hM x (by simp)) fun y hy=>hM y (by simp [hy])⟩
theorem sessL_cut {top:Int}:∀ {l:List Sess} {last:Int} {first:Bool} (i:Nat),Z2h top last first l=true→Z2h top last first (l.take i++l.drop (i+1))=true
 | [],_,_,_,_=>by simp [Z2h]
 | x::l,last,first,0,h=>by
   simp only [Z2h,Bool.and_eq_true] at h
   have hx:=Zmq.1 h.1
   simpa using Zoq (Int.le_refl _) h.2 (by omega)
 | x::l,last,first,i+1,h=>by
   simp only [Z2h,Bool.and_eq_true] at h
   simp only [List.take_succ_cons,List.drop_succ_cons,List.cons_append,Z2h,Bool.and_eq_true]
   exact ⟨h.1,sessL_cut i h.2⟩
theorem Zrq {b:Book}:Z3h b=true↔0≤b.Last∧b.Sess.length≤8∧Z2h b.Last 0 true b.Sess=true:=by
 simp only [Z3h,Bool.and_eq_true,decide_eq_true_eq]
theorem okBk_few {b:Book} (h:Z3h b=true):Z4h b:=by
 obtain ⟨_,h2,h3⟩:=Zrq.1 h
 refine ⟨by omega,fun s hs=>?_⟩
 have:=(Zpq h3 s hs).2.2.1
 simp only [Z0h,Bool.and_eq_true,decide_eq_true_eq] at this
 omega
theorem openP_ok {b:Book} {id:Int} {need:List Int} (h:(Zdh b id need).2=0):Z3h b=true∧b.Last<id∧Z0h (Z5b need)=true∧b.Sess.length≠8∧Zdh b id need=(⟨id,b.Sess++[⟨id,Z5b need,0,0⟩]⟩,0):=by
 unfold Zdh at h ⊢
 cases hk:Z3h b
 ·rw [hk] at h;simp at h
 ·rw [hk] at h
  simp only [if_true] at h ⊢
  by_cases h1:id≤b.Last
  ·rw [if_pos h1] at h;simp at h
  ·rw [if_neg h1] at h ⊢
   cases h2:Z0h (Z5b need)
   ·rw [h2] at h;simp at h
   ·rw [h2] at h
    simp only [if_true] at h ⊢
    by_cases h3:b.Sess.length=8
    ·rw [if_pos h3] at h;simp at h
    ·exact ⟨trivial,by omega,trivial,h3,by rw [if_neg h3]⟩
theorem open_okBk {b:Book} {id:Int} {need:List Int} (h:(Zdh b id need).2=0):Z3h (Zdh b id need).1=true:=by
 obtain ⟨hk,h1,h2,h3,he⟩:=openP_ok h
 obtain ⟨k1,k2,k3⟩:=Zrq.1 hk
 rw [he,Zrq]
 dsimp only
 refine ⟨by omega,by simp;omega,Zqq (M:=b.Last) (fun last hl f=>?_) (sessL_top (by omega) k3) k1 fun x hx=>(Zpq k3 x hx).2.1⟩
 rw [Zmq]
 exact ⟨by dsimp only;omega,Int.le_refl _,h2,(Zxd need).1,Int.le_refl _,.inr ⟨rfl,rfl⟩⟩
theorem endP_ok {b:Book} {id want:Int} (h:(endP b id want).2=0):Z3h b=true∧∃i s,findB b id=some i∧b.Sess[i]?=some s∧s.ID=id∧s.State=want∧endP b id want=(⟨b.Last,b.Sess.take i++b.Sess.drop (i+1)⟩,0):=by
 unfold endP at h ⊢
 cases hk:Z3h b
 ·rw [hk] at h;simp at h
 ·rw [hk] at h
  simp only [if_true] at h ⊢
  refine ⟨trivial,?_⟩
  cases hf:findB b id with
  | none=>rw [hf] at h;simp at h
  | some i=>
    rw [hf] at h
    obtain ⟨s,hs,hid⟩:=findB_lt hf
    simp only [hs] at h ⊢
    by_cases h1:s.State=want
    ·exact ⟨i,s,rfl,hs,hid,h1,by rw [if_pos h1]⟩
    ·rw [if_neg h1] at h;simp at h
theorem cut_len {α:Type} {l:List α} {i:Nat} (h:i<l.length):(l.take i++l.drop (i+1)).length+1=l.length:=by simp;omega
theorem end_okBk {b:Book} {id want:Int} (h:(endP b id want).2=0):Z3h (endP b id want).1=true:=by
 obtain ⟨hk,i,s,_,hs,_,_,he⟩:=endP_ok h
 obtain ⟨k1,k2,k3⟩:=Zrq.1 hk
 have hi:=(List.getElem?_eq_some_iff.1 hs).1
 have:=cut_len hi
 rw [he,Zrq]
 exact ⟨k1,by dsimp only;omega,sessL_cut i k3⟩
theorem grant_okBk {b:Book} (h:(Zeh b).2.2=0):Z3h (Zeh b).1=true:=by
 obtain ⟨hk,s,l,hs,_,he⟩:=Zen h
 obtain ⟨k1,k2,k3⟩:=Zrq.1 hk
 rw [he,Zrq]
 rw [hs] at k2 k3
 simp only [Z2h,Bool.and_eq_true] at k3
 refine ⟨k1,by simpa using k2,?_⟩
 simp only [Z2h,Bool.and_eq_true]
 have hx:=Zmq.1 k3.1
 exact ⟨Zmq.2 ⟨hx.1,hx.2.1,hx.2.2.1,hx.2.2.2.1,hx.2.2.2.2.1,.inl ⟨rfl,rfl⟩⟩,k3.2⟩
theorem Zsq {P:List Place} {v:Int} {p:Place} (p':Place) (h:at_ P v=some p):at_ (P.set v.toNat p') v=some p':=by
 obtain ⟨h0,h1,_⟩:=Z4n h
 unfold at_
 rw [if_pos h0,List.getElem?_set_self (by omega)]
theorem at_set_ne {P:List Place} {v a:Int} (p':Place) (hv:0≤v) (h:a≠v):at_ (P.set v.toNat p') a=at_ P a:=by
 unfold at_
 by_cases h0:0≤a
 ·rw [if_pos h0,if_pos h0,List.getElem?_set_ne (by omega)]
 ·rw [if_neg h0,if_neg h0]
theorem Ztq {m:Model} (h:okM m=true):fewM m:=by
 obtain ⟨h64,hp⟩:=(Zan m).1 h
 refine ⟨by omega,fun p hm=>?_⟩
 obtain ⟨k,hk⟩:=List.mem_iff_getElem?.1 hm
 have:=hp k p hk
 simp only [Z9n,Bool.and_eq_true,decide_eq_true_eq,List.all_eq_true] at this
 refine ⟨?_,okBk_few this.1⟩
 rcases pw_len p.Live 0 m.Places.length this.2.1 (fun x hx=>⟨(this.2.2 x hx).1,(this.2.2 x hx).2.1⟩) with e | e
 ·rw [e];simp
 ·omega
theorem Zuq {n i:Nat} {p:Place}:Z9n n i p=true↔Z3h p.Book=true∧p.Live.Pairwise (· < ·)∧∀q∈p.Live,0≤q∧q<(n:Int)∧q≠(i:Int):=by
 simp only [Z9n,Bool.and_eq_true,decide_eq_true_eq,List.all_eq_true,Bool.not_eq_true',decide_eq_false_iff_not,ne_eq]
theorem okM_set {m:Model} (h:okM m=true) {v:Int} {p:Place} (_:at_ m.Places v=some p) {p':Place} (hp:Z9n m.Places.length v.toNat p'=true):okM ⟨m.Places.set v.toNat p'⟩=true:=by
 obtain ⟨h64,hk⟩:=(Zan m).1 h
 rw [Zan]
 dsimp only
 rw [List.length_set]
 refine ⟨h64,fun k q hq=>?_⟩
 rw [List.getElem?_set] at hq
 split at hq
 ·rename_i e
  split at hq
  ·simp at hq;subst hq;subst e;exact hp
  ·simp at hq
 ·exact hk k q hq
theorem okM_at {m:Model} (h:okM m=true) {v:Int} {p:Place} (hv:at_ m.Places v=some p):Z9n m.Places.length v.toNat p=true:=by
 obtain ⟨_,_,h2⟩:=Z4n hv
 exact ((Zan m).1 h).2 _ _ h2
theorem stepP_ok {m:Model} {e:Event} (h:(Zgn m e).2=0):okM m=true∧∃p,at_ m.Places e.Node=some p∧(ofE e=true→(∃q,at_ m.Places e.Peer=some q)∧e.Peer≠e.Node)∧(e.Kind=5∨Z8n p=[])∧0≤e.Kind∧e.Kind≤8∧Zgn m e=doP m p e:=by
 unfold Zgn at h ⊢
 cases hk:okM m
 ·rw [hk] at h;simp at h
 ·rw [hk] at h
  simp only [if_true] at h ⊢
  cases hp:at_ m.Places e.Node with
  | none=>rw [hp] at h;simp at h
  | some p=>
    rw [hp] at h
    dsimp only at h ⊢
    refine ⟨trivial,p,rfl,?_⟩
    by_cases h1:(ofE e&&(!(at_ m.Places e.Peer).isSome||decide (e.Peer=e.Node)))=true
    ·rw [if_pos h1] at h;simp at h
    ·rw [if_neg h1] at h ⊢
     by_cases h2:(!decide (e.Kind=5)&&decide (Z8n p≠ []))=true
     ·rw [if_pos h2] at h;simp at h
     ·rw [if_neg h2] at h ⊢
      by_cases h3:(decide (e.Kind<0)||decide (8<e.Kind))=true
      ·rw [if_pos h3] at h;simp at h
      ·rw [if_neg h3]
       simp only [Bool.and_eq_true,Bool.or_eq_true,decide_eq_true_eq,Bool.not_eq_true',decide_eq_false_iff_not,not_and,not_or,Classical.not_not] at h1 h2 h3
       refine ⟨fun ho=>?_,?_,by omega,by omega,rfl⟩
       ·obtain ⟨a,b⟩:=h1 ho
        refine ⟨?_,b⟩
        cases hq:at_ m.Places e.Peer with
        | none=>rw [hq] at a;simp at a
        | some q=>exact ⟨q,rfl⟩
       ·by_cases h5:e.Kind=5
        ·exact .inl h5
        ·exact .inr (h2 h5)
theorem stepP_bad {m:Model} {e:Event} (h:(Zgn m e).2≠0):(Zgn m e).1=⟨[]⟩:=by
 have:(Zgn m e).2=0∨(Zgn m e).1=⟨[]⟩:=by
  unfold Zgn doP
  repeat' split
  all_goals first | exact .inr rfl | exact .inl rfl
 rcases this with h' | h'
 ·exact absurd h' h
 ·exact h'
theorem edgeP_ok {P:List Place} {p:Place} {e:Event} (h:(Zcn P p e).2=0) (_:p.Live.Pairwise (· < ·)):
  (e.Kind=6∧e.Peer∉p.Live∧(Zcn P p e).1.Pairwise (· < ·)∧∀x,x∈(Zcn P p e).1↔x∈p.Live∨x=e.Peer)∨
  (e.Kind=7∧e.Peer∈p.Live∧(Zcn P p e).1.Pairwise (· < ·)∧∀x,x∈(Zcn P p e).1↔x∈p.Live∧x≠e.Peer)∨(e.Kind=8∧(Zcn P p e).1=p.Live):=by
 unfold Zcn at h ⊢
 by_cases h6:e.Kind=6
 ·left
  rw [if_pos h6] at h ⊢
  split at h
  ·rename_i hc
   rw [if_pos hc]
   simp only [Bool.and_eq_true,Bool.not_eq_true',decide_eq_false_iff_not] at hc
   obtain ⟨a,b⟩:=Zxd (p.Live++[e.Peer])
   exact ⟨h6,hc.1,a,fun x=>by rw [b x];simp⟩
  ·simp at h
 ·rw [if_neg h6] at h ⊢
  by_cases h7:e.Kind=7
  ·right;left
   rw [if_pos h7] at h ⊢
   split at h
   ·rename_i hc
    rw [if_pos hc]
    simp only [Bool.and_eq_true,decide_eq_true_eq] at hc
    obtain ⟨a,b⟩:=Zxd p.Live
    exact ⟨h7,hc.1,a.filter _,fun x=>by rw [List.mem_filter,b x];simp⟩
   ·simp at h
  ·rw [if_neg h7] at h ⊢
   by_cases h8:e.Kind=8
   ·right;right
    rw [if_pos h8] at h ⊢
    split at h
    ·rename_i hc
     rw [if_pos hc]
     exact ⟨h8,rfl⟩
    ·simp at h
   ·rw [if_neg h8] at h;simp at h
theorem Zvq {P:List Place} {p:Place} {e:Event} (h:(Zdn P p e).2=0):∃s l,Z3h p.Book=true∧p.Book.Sess=s::l∧s.State≠1∧(∀q∈s.Need,Z7n P q e.Node=false)∧(Zdn P p e).1=⟨p.Book.Last,⟨s.ID,s.Need,1,s.Age⟩::l⟩∧Z3h (Zdn P p e).1=true:=by
 unfold Zdn at h ⊢
 by_cases h1:(Zeh p.Book).2.2=0
 ·rw [if_pos h1] at h ⊢
  by_cases h2:(Zeh p.Book).2.1=e.ID
  ·rw [if_pos h2] at h ⊢
   have hok:=grant_okBk h1
   obtain ⟨hk,s,l,hs,hst,hg⟩:=Zen h1
   rw [hg] at h hok ⊢
   dsimp only at h hok ⊢
   by_cases h3:(s.Need.any fun q=>Z7n P q e.Node)=true
   ·rw [if_pos h3] at h;simp at h
   ·rw [if_neg h3]
    rw [Bool.not_eq_true,List.any_eq_false] at h3
    exact ⟨s,l,hk,hs,hst,fun q hq=>by simpa using h3 q hq,rfl,hok⟩
  ·rw [if_neg h2] at h;simp at h
 ·rw [if_neg h1] at h;simp at h
theorem endR_ok {r:Book×Int} (h:(endR r).2=0):r.2=0∧(endR r).1=r.1:=by
 unfold endR at h ⊢
 by_cases h1:r.2=0
 ·rw [if_pos h1];exact ⟨h1,rfl⟩
 ·rw [if_neg h1] at h;simp at h
theorem Zwq {P:List Place} {p:Place} {e:Event} (h:(Zfn P p e).2=0) (hk0:0≤e.Kind) (hk8:e.Kind≤8) (ho:ofE e=false):
  (e.Kind=0∧(Zdh p.Book e.ID e.Need).2=0∧(Zfn P p e).1=(Zdh p.Book e.ID e.Need).1)∨
  (e.Kind=1∧(Zdn P p e).2=0∧(Zfn P p e).1=(Zdn P p e).1)∨
  (∃want,(e.Kind=2∨e.Kind=3∨e.Kind=4∨e.Kind=5)∧(endP p.Book e.ID want).2=0∧(Zfn P p e).1=(endP p.Book e.ID want).1):=by
 have hne:e.Kind≠6∧e.Kind≠7∧e.Kind≠8:=by simpa [ofE,not_or] using ho
 unfold Zfn at h ⊢
 by_cases h0:e.Kind=0
 ·left
  rw [if_pos h0] at h ⊢
  by_cases h1:(Zdh p.Book e.ID e.Need).2=0
  ·rw [if_pos h1] at h ⊢
   split at h
   ·rename_i hc;rw [if_pos hc];exact ⟨h0,h1,rfl⟩
   ·simp at h
  ·rw [if_neg h1] at h;exact absurd h h1
 rw [if_neg h0] at h ⊢
 by_cases h1:e.Kind=1
 ·right;left
  rw [if_pos h1] at h ⊢
  exact ⟨h1,h,rfl⟩
 rw [if_neg h1] at h ⊢
 right;right
 by_cases h2:e.Kind=2
 ·rw [if_pos h2] at h ⊢
  obtain ⟨a,b⟩:=endR_ok h
  exact ⟨1,.inl h2,a,b⟩
 rw [if_neg h2] at h ⊢
 by_cases h4:e.Kind=4
 ·rw [if_pos h4] at h ⊢
  obtain ⟨a,b⟩:=endR_ok h
  exact ⟨1,.inr (.inr (.inl h4)),a,b⟩
 rw [if_neg h4] at h ⊢
 by_cases h5:e.Kind=5
 ·rw [if_pos h5] at h ⊢
  split at h
  ·rename_i hc
   rw [if_pos hc]
   obtain ⟨a,b⟩:=endR_ok h
   exact ⟨0,.inr (.inr (.inr h5)),a,b⟩
  ·simp at h
 rw [if_neg h5] at h ⊢
 by_cases h3:e.Kind=3
 ·rw [if_pos h3] at h ⊢
  obtain ⟨a,b⟩:=endR_ok h
  exact ⟨0,.inr (.inl h3),a,b⟩
 omega
theorem session_okBk {P:List Place} {p:Place} {e:Event} (h:(Zfn P p e).2=0) (hk0:0≤e.Kind) (hk8:e.Kind≤8) (ho:ofE e=false):Z3h (Zfn P p e).1=true:=by
 rcases Zwq h hk0 hk8 ho with ⟨_,h1,h2⟩ | ⟨_,h1,h2⟩ | ⟨w,_,h1,h2⟩
 ·rw [h2];exact open_okBk h1
 ·rw [h2]
  obtain ⟨s,l,_,_,_,_,_,h⟩:=Zvq h1
  exact h
 ·rw [h2];exact end_okBk h1
theorem Zxq {m:Model} {e:Event} (h:(Zgn m e).2=0):∃p p',okM m=true∧at_ m.Places e.Node=some p∧(Zgn m e).1=⟨m.Places.set e.Node.toNat p'⟩∧Z9n m.Places.length e.Node.toNat p'=true∧(e.Kind=5∨Z8n p=[])∧
  ((ofE e=true∧p'.Book=p.Book∧(Zcn m.Places p e).2=0∧p'.Live=(Zcn m.Places p e).1)∨(ofE e=false∧0≤e.Kind∧e.Kind≤8∧p'.Live=p.Live∧(Zfn m.Places p e).2=0∧p'.Book=(Zfn m.Places p e).1)):=by
 obtain ⟨hk,p,hp,hpe,hd,hk0,hk8,he⟩:=stepP_ok h
 have hB:=Zuq.1 (okM_at hk hp)
 rw [he] at h ⊢
 unfold doP at h ⊢
 cases ho:ofE e
 ·rw [ho] at h
  simp only [Bool.false_eq_true,if_false] at h ⊢
  by_cases h1:(Zfn m.Places p e).2=0
  ·rw [if_pos h1]
   refine ⟨p,⟨(Zfn m.Places p e).1,p.Live⟩,hk,hp,rfl,?_,hd,.inr ⟨by first | trivial | rfl,hk0,hk8,rfl,h1,rfl⟩⟩
   exact Zuq.2 ⟨session_okBk h1 hk0 hk8 ho,hB.2⟩
  ·rw [if_neg h1] at h;exact absurd h h1
 ·rw [ho] at h
  simp only [if_true] at h ⊢
  by_cases h1:(Zcn m.Places p e).2=0
  ·rw [if_pos h1]
   obtain ⟨⟨q,hq⟩,hne⟩:=hpe ho
   obtain ⟨q0,q1,_⟩:=Z4n hq
   obtain ⟨n0,n1,_⟩:=Z4n hp
   refine ⟨p,⟨p.Book,(Zcn m.Places p e).1⟩,hk,hp,rfl,?_,hd,.inl ⟨by first | trivial | rfl,rfl,h1,rfl⟩⟩
   rw [Zuq]
   dsimp only
   refine ⟨hB.1,?_⟩
   rcases edgeP_ok h1 hB.2.1 with ⟨_,_,a,b⟩ | ⟨_,_,a,b⟩ | ⟨_,a⟩
   ·refine ⟨a,fun x hx=>?_⟩
    rcases (b x).1 hx with hx | rfl
    ·exact hB.2.2 x hx
    ·exact ⟨q0,q1,by omega⟩
   ·exact ⟨a,fun x hx=>hB.2.2 x ((b x).1 hx).1⟩
   ·rw [a];exact hB.2
  ·rw [if_neg h1] at h;exact absurd h h1
theorem Zyq {m:Model} {e:Event} (h:(Zgn m e).2=0):okM (Zgn m e).1=true:=by
 obtain ⟨p,p',hk,hp,he,hB,_⟩:=Zxq h
 rw [he]
 exact okM_set hk hp hB
def usesP (p:Place) (b:Int):Bool:=p.Book.Sess.any fun s=>decide (s.State=1)&&decide (b∈s.Need)
theorem usesB_at {P:List Place} {a b:Int} {p:Place} (h:at_ P a=some p):Z7n P a b=usesP p b:=by unfold Z7n;rw [h];rfl
theorem Zzq {P:List Place} {a b:Int} (h:at_ P a=none):Z7n P a b=false:=by unfold Z7n;rw [h]
theorem Z0r (P:List Place):Zbn P=true↔∀a b:Int,a≠b→Z7n P a b=true→Z7n P b a=true→False:=by
 simp only [Zbn,List.all_eq_true,List.mem_range,Bool.not_eq_true',Bool.and_eq_false_iff]
 constructor
 ·intro h a b hab h1 h2
  have ia:0≤a∧a<P.length:=by
   cases ha:at_ P a with
   | none=>rw [Zzq ha] at h1;simp at h1
   | some p=>exact ⟨(Z4n ha).1,(Z4n ha).2.1⟩
  have ib:0≤b∧b<P.length:=by
   cases hb:at_ P b with
   | none=>rw [Zzq hb] at h2;simp at h2
   | some p=>exact ⟨(Z4n hb).1,(Z4n hb).2.1⟩
  obtain ⟨a,rfl⟩:=Int.eq_ofNat_of_zero_le ia.1
  obtain ⟨b,rfl⟩:=Int.eq_ofNat_of_zero_le ib.1
  rcases Nat.lt_or_gt_of_ne (show a≠b by omega) with hlt | hlt
  ·rcases h b (by omega) a hlt with h | h
   ·rw [h] at h2;simp at h2
   ·rw [h] at h1;simp at h1
  ·rcases h a (by omega) b hlt with h | h
   ·rw [h] at h1;simp at h1
   ·rw [h] at h2;simp at h2
 ·intro h a ha b hb
  cases h1:Z7n P a b
  ·exact .inl rfl
  ·cases h2:Z7n P b a
   ·exact .inr rfl
   ·exact (h a b (by omega) h1 h2).elim
theorem cut_mem {α:Type} {l:List α} {i:Nat} {x:α} (h:x∈l.take i++l.drop (i+1)):x∈l:=by
 rcases List.mem_append.1 h with h | h
 ·exact List.mem_of_mem_take h
 ·exact List.mem_of_mem_drop h
theorem Z1r {p:Place} {b:Int}:usesP p b=true↔∃s∈p.Book.Sess,s.State=1∧b∈s.Need:=by
 simp only [usesP,List.any_eq_true,Bool.and_eq_true,decide_eq_true_eq]
theorem step_apart {m:Model} {e:Event} (h:(Zgn m e).2=0) (ha:Zbn m.Places=true):Zbn (Zgn m e).1.Places=true:=by
 obtain ⟨p,p',hk,hp,he,hB,_,hc⟩:=Zxq h
 rw [Z0r] at ha ⊢
 have key:∀b,usesP p' b=true→usesP p b=true∨Z7n m.Places b e.Node=false:=by
  intro b hb
  rcases hc with ⟨_,h1,_⟩ | ⟨ho,k0,k8,_,h1,h2⟩
  ·left;rw [Z1r] at hb ⊢;rw [←h1];exact hb
  ·rw [Z1r,h2] at hb
   obtain ⟨s,hs,st,hn⟩:=hb
   rcases Zwq h1 k0 k8 ho with ⟨_,g1,g2⟩ | ⟨_,g1,g2⟩ | ⟨w,_,g1,g2⟩
   ·obtain ⟨_,_,_,_,g⟩:=openP_ok g1
    rw [g2,g] at hs
    dsimp only at hs
    rcases List.mem_append.1 hs with hs | hs
    ·left;exact Z1r.2 ⟨s,hs,st,hn⟩
    ·simp at hs;subst hs;simp at st
   ·obtain ⟨s',l,_,q1,_,q2,q3,_⟩:=Zvq g1
    rw [g2,q3] at hs
    dsimp only at hs
    rcases List.mem_cons.1 hs with rfl | hs
    ·right;exact q2 b hn
    ·left;exact Z1r.2 ⟨s,by rw [q1];simp [hs],st,hn⟩
   ·obtain ⟨_,i,_,_,_,_,_,g⟩:=endP_ok g1
    rw [g2,g] at hs
    left;exact Z1r.2 ⟨s,cut_mem hs,st,hn⟩
 obtain ⟨v0,_,_⟩:=Z4n hp
 rw [he]
 dsimp only
 have u1:∀b,Z7n (m.Places.set e.Node.toNat p') e.Node b=usesP p' b:=fun b=>usesB_at (Zsq p' hp)
 have u2:∀a b,a≠e.Node→Z7n (m.Places.set e.Node.toNat p') a b=Z7n m.Places a b:=fun a b hne=>by unfold Z7n;rw [at_set_ne p' v0 hne]
 have u3:∀b,Z7n m.Places e.Node b=usesP p b:=fun b=>usesB_at hp
 intro a b hab h1 h2
 by_cases e1:a=e.Node
 ·subst e1
  rw [u1] at h1
  rw [u2 b _ (fun e=>hab e.symm)] at h2
  rcases key b h1 with k | k
  ·exact ha e.Node b hab (by rw [u3];exact k) h2
  ·rw [k] at h2;simp at h2
 ·rw [u2 a _ e1] at h1
  by_cases e2:b=e.Node
  ·subst e2
   rw [u1] at h2
   rcases key a h2 with k | k
   ·exact ha a e.Node hab h1 (by rw [u3];exact k)
   ·rw [k] at h1;simp at h1
  ·rw [u2 b _ e2] at h2
   exact ha a b hab h1 h2
theorem newM_ok {g:Graph} (hg:okG g=true):okM (newM g)=true:=by
 obtain ⟨h0,h64,_⟩:=Z0b hg
 rw [Zan]
 simp only [newM,List.length_map,List.length_range]
 refine ⟨by omega,fun k p hk=>?_⟩
 rw [List.getElem?_map] at hk
 cases hr:(List.range g.N.toNat)[k]? with
 | none=>rw [hr] at hk;simp at hk
 | some a=>
   rw [hr] at hk
   simp only [Option.map_some,Option.some.injEq] at hk
   obtain ⟨hlt,hak⟩:=List.getElem?_eq_some_iff.1 hr
   simp at hak
   subst hak;subst hk
   rw [Zuq]
   refine ⟨rfl,nearL_pw hg _,fun q hq=>?_⟩
   have:=near_range hg hq
   omega
theorem newM_apart (g:Graph):Zbn (newM g).Places=true:=by
 rw [Z0r]
 intro a b _ h1 _
 cases ha:at_ (newM g).Places a with
 | none=>rw [Zzq ha] at h1;simp at h1
 | some p=>
   rw [usesB_at ha] at h1
   have:=Z5n ha
   simp only [newM,List.mem_map] at this
   obtain ⟨_,_,rfl⟩:=this
   simp [usesP,Zzg] at h1
set_option maxRecDepth 100000
set_option maxHeartbeats 4000000
@[go_sem] def e3_L0:EC:=.seq (.seq (.reg [(Qm 40 7),(Qm 41 1),(Qa 42 (.len (.t 41))),(Qa 43 (.bin .lss (.t 40) (.t 42)))]) (.ite (.t 43) (.skip) (.exit 0))) (.seq (.blk 1 (.seq (.drw [(Qe 47 1 5),(Qa 48 (.call 12 [(.t 47)])),(Qm 49 1),(Qm 50 7),(Qk 51 5 49 50),(Qe 52 5 51),(Qa 53 (.call 11 [(.t 48),(.t 52)])),(Qm 46 53),(Qa 54 (.ext (.t 46) 0)),(Qa 55 (.ext (.t 46) 1)),(Qa 8 (.alloc 30 [.nl])),(Qs 1 8 54),(Qm 9 55)] [[],[0],[],[],[2,3],[4],[1,5,1],[6],[7],[7],[],[10,8,6,0,1,2,3,4,5,6,7,8,10],[9,11,0,1,2,3,4,5,6,7,8,9,10,11]] [[1],[0,6],[4],[4],[2,3,5],[4,6],[1,5,7],[6,8,9],[7,11],[7,12],[11],[8,10],[9]]) (.seq (.seq (.reg [(Qm 56 9),(Qa 57 (.bin .eql (.t 56) (.c (.iv 0))))]) (.ite (.t 57) (.reg [(Qe 58 1 8),(Qs 1 5 58)]) (.skip))) (.seq (.reg [(Qe 59 1 5),(Qa 60 (.call 13 [(.t 59)])),(Qa 61 (.not (.t 60))),(Qm 62 61),(Qg 63 62 false (.loadA 1 (.t 5))),(Qg 64 62 false (.call 14 [(.t 63)])),(Qg 65 62 false (.bin .neq (.t 64) (.c (.iv 0)))),(Qq 66 62 65)]) (.ite (.t 66) (.seq (.reg [(Qa 4 (.mv (.c .ff)))]) (.ret)) (.skip)))))) (.reg [(Qm 44 7),(Qv 45 44 1),(Qm 7 45)]))
@[go_sem] def e3:EC:=.seq (.reg [(Qx 2 24 2 0),(Qa 4 (.mv (.c .ff)))]) (.seq (.seq (.reg [(Qa 10 (.call 6 [])),(Qa 11 (.not (.t 10))),(Qm 12 11),(Qg 13 12 false (.mv (.t 1))),(Qg 14 12 false (.call 7 [(.t 13)])),(Qg 15 12 false (.not (.t 14))),(Qq 16 12 15),(Qm 17 16),(Qh 18 17 false 1 2),(Qn 19 17 false 18),(Qg 20 17 false (.len (.t 19))),(Qg 21 17 false (.bin .gtr (.t 20) (.c (.iv 60)))),(Qq 22 17 21),(Qm 23 22),(Qh 24 23 false 0 2),(Qn 25 23 false 24),(Qg 26 23 false (.bin .gtr (.t 25) (.c (.iv 12)))),(Qq 27 23 26)]) (.ite (.t 27) (.seq (.reg [(Qa 28 (.call 6 [])),(Qm 4 28)]) (.ret)) (.skip))) (.seq (.reg [(Qe 30 2 2),(Qa 31 (.call 9 [(.t 30)])),(Qa 32 (.call 8 [(.t 31)])),(Qm 29 32),(Qa 33 (.ext (.t 29) 0)),(Qa 34 (.ext (.t 29) 1)),(Qa 5 (.alloc 30 [.nl])),(Qs 1 5 33),(Qm 6 34)]) (.seq (.seq (.reg [(Qm 35 6),(Qa 36 (.bin .neq (.t 35) (.c (.iv 0))))]) (.ite (.t 36) (.seq (.reg [(Qe 37 1 5),(Qa 38 (.build [.nl] [])),(Qa 39 (.call 10 [(.t 37),(.t 38)])),(Qm 4 39)]) (.ret)) (.skip))) (.seq (.seq (.reg [(Qi 7 0)]) (.blk 0 (.loop e3_L0))) (.seq (.reg [(Qa 4 (.mv (.c .tt)))]) (.ret))))))
theorem ok3:FnOK Try.prog 3 Try.f3 e3 [.t 4] 2 65:=⟨by kernel_rfl,⟨_,rfl,by kernel_rfl⟩,by kernel_rfl,by kernel_rfl⟩
noncomputable def Z2r:Unit→Option Bool
| ()=>
 some true
noncomputable def Z3r (x23:Int) (x32:(List Place)):Bool→Option ((Int×(List Place)) ⊕ Bool)
| x35=>
 ifb x35 (
 Option.map Sum.inr (some false)) (
 some (.inl (wr (x23+1),x32)))
noncomputable def Z4r (x23:Int):(List Place)→Option ((Int×(List Place)) ⊕ Bool)
| x32=>
 (Zqm ((Model.mk x32))).bind fun x33=>
 ifb (!x33) (
 (Z3r x23 x32) true) (
 (Zwh ((Model.mk x32))).bind fun x34=>
 (Z3r x23 x32) (!decide (x34=0)))
noncomputable def Z5r (x23:Int) (x24:(List Place)):(Int×(List Place))→Option ((Int×(List Place)) ⊕ Bool)
| (x30,x31)=>
 ifb (decide (x30=0)) (
 (Z4r x23) x31) (
 (Z4r x23) x24)
noncomputable def Z6r (x2:(List Event)):(Int×(List Place))→Option ((Int×(List Place)) ⊕ Bool)
| (x23,x24)=>
 ifb (decide (x23<(ln Event.row x2))) (
 (at_ x2 x23).bind fun x25=>
 (Zpp ((Model.mk x24))).bind fun x26=>
 (Zvl x26 x25).bind fun x28=>
 (Z5r x23 x24) (x28.2,x28.1.Places)) (
 Option.map Sum.inr (Z2r ()))
noncomputable def Z7r (x1:Graph) (x2:(List Event)):Bool→Option Bool
| x5=>
 ifb x5 (
 (Z9p).bind fun x6=>
 some x6) (
 (Z5a x1).bind fun x7=>
 (Zdm x7).bind fun x8=>
 ifb (!decide (x8.2=0)) (
 (Z6q x8.1 ((Model.mk (([]:(List Place)))))).bind fun x9=>
 some x9) (
 loop (Z6r x2) (0,x8.1.Places)))
noncomputable def Z8r (x1:Graph) (x2:(List Event)):Option Bool:=
 (Z9p).bind fun x3=>
 ifb (!x3) (
 (Z7r x1 x2) true) (
 (Zup x2).bind fun x4=>
 ifb (!x4) (
 (Z7r x1 x2) true) (
 ifb (decide (60<(ln Edge.row x1.Edges))) (
 (Z7r x1 x2) true) (
 (Z7r x1 x2) (decide (12<x1.N)))))
theorem Z9r (x1:Graph) (x2:(List Event)) (r:Bool) (h:Z8r x1 x2=some r):Zz2 Try.prog 3 [.agg (Graph.row x1),.sl 5 (List.map Event.row x2)] (.bv r):=by
 refine Z33 ok3 rfl rfl fun w0 H0=>?_
 rw [Z8r] at h
 refine Zu2 8 ?_;dsimp only [go_sem];refine An ?_;obtain ⟨x3,ex3,h⟩:=Bs h;refine Z83 trivial (Zap _ ex3) (h:=?_);refine Zu2 2 ?_;dsimp only [go_sem];refine An ?_;refine Zy4 (fun (x5:Bool)=>(⟨(.any :: .sl 5 (List.map Event.row x2) :: .ptr 0 0::an 24 (.bv x5::an 39 [])),[some ⟨24,[.iv x1.N,.sl 2 (List.map Edge.row x1.Edges)]⟩],[]⟩:St)) (Z7r x1 x2) r ?_ fun J1=>?_
 ·intro x5 h;rw [Z7r] at h;(try dsimp only);refine Z05 h rfl (fun _ h=>?_) fun _ h=>?_
  ·refine Zu2 2 ?_;dsimp only [go_sem];refine An ?_;obtain ⟨x6,ex6,h⟩:=Bs h;refine Z83 trivial (Zap _ ex6) (h:=?_);refine Zu2 2 ?_;dsimp only [go_sem];refine An ?_;exact Z85 (res:=fun (r:Bool)=>.bv r) ok3 h
  ·refine Zu2 4 ?_;dsimp only [go_sem];refine An ?_;obtain ⟨x7,ex7,h⟩:=Bs h;refine Z83 trivial (Z6a x1 _ ex7) (h:=?_);obtain ⟨x8,ex8,h⟩:=Bs h;refine Z83 trivial (Zem x7 _ ex8) (h:=?_);refine Zu2 13 ?_;dsimp only [go_sem];refine An ?_;refine Z05 h rfl (fun _ h=>?_) fun _ h=>?_
   ·refine Zu2 4 ?_;dsimp only [go_sem];refine An ?_;obtain ⟨x9,ex9,h⟩:=Bs h;refine Z83 trivial (Z7q x8.1 ((Model.mk (([]:(List Place))))) _ ex9) (h:=?_);refine Zu2 2 ?_;dsimp only [go_sem];refine An ?_;exact Z85 (res:=fun (r:Bool)=>.bv r) ok3 h
   ·refine Zu2 6 ?_;dsimp only [go_sem];refine An ?_;refine Zy4 (fun (_:Unit)=>(⟨(an 67 []),[],[]⟩:St)) Z2r r ?_ fun J2=>?_
    ·rintro ⟨⟩ h;rw [Z2r] at h;(try dsimp only);refine Zu2 4 ?_;dsimp only [go_sem];refine An ?_;exact Z85 (res:=fun (r:Bool)=>.bv r) ok3 h
    ·refine Zu2 1 ?_;dsimp only [go_sem];refine An ?_;refine Zz4 h (fun ((x23,x24):(Int×(List Place)))=>(⟨(.any :: .sl 5 (List.map Event.row x2)::an 3 (.ptr 1 0 :: .any :: .iv x23::an 59 [])),[none,some ⟨30,[.sl 3 (List.map Place.row x24)]⟩],[]⟩:St)) (by simp [go_sem]) (by rintro ⟨x23,x24⟩;first | rfl | simp [go_sem]) ?_;rintro n1 ⟨x23,x24⟩ y1 h hin1 hout1;rw [Z6r] at h;(try dsimp only);refine Zu2 8 ?_;dsimp only [go_sem];refine An ?_;refine Z05 h rfl (fun _ h=>?_) fun _ h=>?_
     ·refine Zu2 4 ?_;dsimp only [go_sem];refine An ?_;refine Zy4 (fun ((x30,x31):(Int×(List Place)))=>(⟨(.any :: .sl 5 (List.map Event.row x2)::an 3 (.ptr 1 0 :: .any :: .iv x23 :: .ptr 2 0 :: .iv x30::an 57 [])),[none,some ⟨30,[.sl 3 (List.map Place.row x24)]⟩,some ⟨30,[.sl 3 (List.map Place.row x31)]⟩],[]⟩:St)) (Z5r x23 x24) y1 ?_ fun J3=>?_
      ·rintro ⟨x30,x31⟩ h;rw [Z5r] at h;(try dsimp only);refine Zu2 6 ?_;dsimp only [go_sem];refine An ?_;refine Zy4 (fun (x32:(List Place))=>(⟨(.any :: .sl 5 (List.map Event.row x2)::an 3 (.ptr 1 0 :: .any :: .iv x23::an 59 [])),[none,some ⟨30,[.sl 3 (List.map Place.row x32)]⟩],[]⟩:St)) (Z4r x23) y1 ?_ fun J4=>?_
       ·intro x32 h;rw [Z4r] at h;(try dsimp only);refine Zu2 3 ?_;dsimp only [go_sem];refine An ?_;obtain ⟨x33,ex33,h⟩:=Bs h;refine Z83 trivial (Zrm ((Model.mk x32)) _ ex33) (h:=?_);refine Zu2 2 ?_;dsimp only [go_sem];refine An ?_;refine Zy4 (fun (x35:Bool)=>(⟨(.any :: .sl 5 (List.map Event.row x2)::an 3 (.ptr 1 0 :: .any :: .iv x23::an 58 [.bv x35])),[none,some ⟨30,[.sl 3 (List.map Place.row x32)]⟩],[]⟩:St)) (Z3r x23 x32) y1 ?_ fun J5=>?_
        ·intro x35 h;rw [Z3r] at h;(try dsimp only);refine Z05 h rfl (fun _ h=>?_) fun _ h=>?_
         ·refine Zu2 4 ?_;dsimp only [go_sem];refine An ?_;exact Z85 (res:=fun (r:Bool)=>.bv r) ok3 (Zx4 h hout1)
         ·refine Zu2 7 ?_;dsimp only [go_sem];refine An ?_;exact Z95 h hin1
        ·refine Z75 62 h rfl (fun _ h=>?_) fun _ h=>?_
         ·dsimp only [go_sem];refine Zu2 5 ?_;dsimp only [go_sem];refine An ?_;exact Za5 J5 (s:=true) h
         ·dsimp only [go_sem];refine Zu2 1 ?_;dsimp only [go_sem];refine An ?_;obtain ⟨x34,ex34,h⟩:=Bs h;refine Z83 trivial (Zxh ((Model.mk x32)) _ ex34) (h:=?_);refine Zu2 3 ?_;dsimp only [go_sem];refine An ?_;exact Za5 J5 (s:=!decide (x34=0)) h
       ·refine Z05 h rfl (fun _ h=>?_) fun _ h=>?_
        ·refine Zu2 4 ?_;dsimp only [go_sem];refine An ?_;exact Za5 J4 (s:=x31) h
        ·refine Zu2 1 ?_;dsimp only [go_sem];refine An ?_;exact Za5 J4 (s:=x24) h
      ·refine Zu3 (by kernel_rfl) fun all hall hs hnap haf=>?_;dsimp only [go_sem];refine Zt5 hall hs haf hnap 3 10 ?_;dsimp only [go_sem];refine An ?_;obtain ⟨x25,ex25,h⟩:=Bs h;refine Z45 hall hs haf hnap 4 Event.row ex25 rfl rfl trivial rfl rfl rfl rfl ?_;refine Zt5 hall hs haf hnap 1 8 ?_;dsimp only [go_sem];refine An ?_;obtain ⟨x26,ex26,h⟩:=Bs h;refine Z64 1 10 rfl ?_ ?_
       ·refine Zb4 hall rfl trivial (Zqp ((Model.mk x24)) _ ex26) (h:=?_);dsimp only [go_sem];obtain ⟨x28,ex28,h⟩:=Bs h;refine Z64 6 10 rfl ?_ ?_
        ·refine Zb4 hall rfl trivial (Zwl x26 x25 _ ex28) (h:=?_);dsimp only [go_sem];refine Zt5 hall hs haf hnap 3 3 ?_;dsimp only [go_sem];refine An ?_;refine Z54 10 rfl ?_;refine Za4 hall rfl trivial ?_;dsimp only [go_sem];refine Z54 11 rfl ?_;refine Za4 hall rfl trivial ?_;dsimp only [go_sem];refine Zt5 hall hs haf hnap 1 0 ?_;dsimp only [go_sem];refine An ?_;refine Z44 rfl ?_ _;exact Za5 J3 (s:=(x28.2,x28.1.Places)) h
        ·refine Za4 hall rfl trivial ?_;dsimp only [go_sem];refine Z54 6 rfl ?_;refine Zb4 hall rfl trivial (Zwl x26 x25 _ ex28) (h:=?_);dsimp only [go_sem];refine Zt5 hall hs haf hnap 3 2 ?_;dsimp only [go_sem];refine An ?_;refine Z54 11 rfl ?_;refine Za4 hall rfl trivial ?_;dsimp only [go_sem];refine Zt5 hall hs haf hnap 1 0 ?_;dsimp only [go_sem];refine An ?_;refine Z44 rfl ?_ _;exact Za5 J3 (s:=(x28.2,x28.1.Places)) h
       ·refine Za4 hall rfl trivial ?_;dsimp only [go_sem];refine Z54 1 rfl ?_;refine Zb4 hall rfl trivial (Zqp ((Model.mk x24)) _ ex26) (h:=?_);dsimp only [go_sem];refine Z54 6 rfl ?_;obtain ⟨x28,ex28,h⟩:=Bs h;refine Zb4 hall rfl trivial (Zwl x26 x25 _ ex28) (h:=?_);dsimp only [go_sem];refine Zt5 hall hs haf hnap 3 2 ?_;dsimp only [go_sem];refine An ?_;refine Z54 11 rfl ?_;refine Za4 hall rfl trivial ?_;dsimp only [go_sem];refine Zt5 hall hs haf hnap 1 0 ?_;dsimp only [go_sem];refine An ?_;refine Z44 rfl ?_ _
        exact Za5 J3 (s:=(x28.2,x28.1.Places)) h
     ·refine Zu2 1 ?_;dsimp only [go_sem];refine An ?_;exact Za5 J2 (s:=()) (Zx4 h hout1)
 ·refine Z75 12 h rfl (fun _ h=>?_) fun _ h=>?_
  ·dsimp only [go_sem];refine Zu2 16 ?_;dsimp only [go_sem];refine An ?_;exact Za5 J1 (s:=true) h
  ·dsimp only [go_sem];refine Zu2 1 ?_;dsimp only [go_sem];refine An ?_;obtain ⟨x4,ex4,h⟩:=Bs h;refine Z83 trivial (Zvp x2 _ ex4) (h:=?_);refine Zu2 3 ?_;dsimp only [go_sem];refine An ?_;refine Z75 17 h rfl (fun _ h=>?_) fun _ h=>?_
   ·dsimp only [go_sem];refine Zu2 11 ?_;dsimp only [go_sem];refine An ?_;exact Za5 J1 (s:=true) h
   ·dsimp only [go_sem];refine Zu2 6 ?_;dsimp only [go_sem];refine An ?_;refine Z75 23 h rfl (fun _ h=>?_) fun _ h=>?_
    ·dsimp only [go_sem];refine Zu2 5 ?_;dsimp only [go_sem];refine An ?_;exact Za5 J1 (s:=true) h
    ·dsimp only [go_sem];refine Zu2 5 ?_;dsimp only [go_sem];refine An ?_;exact Za5 J1 (s:=decide (12<x1.N)) h
set_option maxRecDepth 100000
set_option maxHeartbeats 4000000
@[go_sem] def e4_L0:EC:=.seq (.seq (.reg [(Qm 38 10),(Qm 39 9),(Qa 40 (.len (.t 39))),(Qa 41 (.bin .lss (.t 38) (.t 40)))]) (.ite (.t 41) (.skip) (.exit 0))) (.seq (.blk 1 (.seq (.drw [(Qe 45 1 7),(Qa 46 (.call 12 [(.t 45)])),(Qm 47 1),(Qm 48 9),(Qm 49 10),(Qk 50 1 48 49),(Ql 51 50),(Qa 52 (.build [.iv 0,.iv 0,.iv 0,.iv 0,.nl] [(0,1,(.c (.iv 3))),(1,1,(.t 47)),(2,1,(.t 51))])),(Qa 53 (.call 11 [(.t 46),(.t 52)])),(Qm 44 53),(Qa 54 (.ext (.t 44) 0)),(Qa 55 (.ext (.t 44) 1)),(Qa 11 (.alloc 30 [.nl])),(Qs 1 11 54),(Qm 12 55)] [[],[0],[],[],[],[3,4],[5],[2,6],[1,7,1],[8],[9],[9],[],[12,10,8,0,1,2,3,4,5,6,7,8,9,10,12],[11,13,0,1,2,3,4,5,6,7,8,9,10,11,12,13]] [[1],[0,8],[7],[5],[5],[3,4,6],[5,7],[2,6,8],[1,7,9],[8,10,11],[9,13],[9,14],[13],[10,12],[11]]) (.seq (.drw [(Qe 57 1 7),(Qa 58 (.call 12 [(.t 57)])),(Qm 59 1),(Qm 60 9),(Qm 61 10),(Qk 62 1 60 61),(Ql 63 62),(Qa 64 (.build [.iv 0,.iv 0,.iv 0,.iv 0,.nl] [(0,1,(.c (.iv 5))),(1,1,(.t 59)),(2,1,(.t 63))])),(Qa 65 (.call 11 [(.t 58),(.t 64)])),(Qm 56 65),(Qa 66 (.ext (.t 56) 0)),(Qa 67 (.ext (.t 56) 1)),(Qa 13 (.alloc 30 [.nl])),(Qs 1 13 66),(Qm 14 67)] [[],[0],[],[],[],[3,4],[5],[2,6],[1,7,1],[8],[9],[9],[],[12,10,8,0,1,2,3,4,5,6,7,8,9,10,12],[11,13,0,1,2,3,4,5,6,7,8,9,10,11,12,13]] [[1],[0,8],[7],[5],[5],[3,4,6],[5,7],[2,6,8],[1,7,9],[8,10,11],[9,13],[9,14],[13],[10,12],[11]]) (.seq (.seq (.reg [(Qm 68 12),(Qa 69 (.bin .neq (.t 68) (.c (.iv 205)))),(Qm 70 69),(Qg 71 70 false (.mv (.t 14))),(Qg 72 70 false (.bin .neq (.t 71) (.c (.iv 0)))),(Qq 73 70 72)]) (.ite (.t 73) (.seq (.reg [(Qa 6 (.mv (.c .ff)))]) (.ret)) (.skip))) (.reg [(Qe 74 1 13),(Qs 1 7 74)]))))) (.reg [(Qm 42 10),(Qv 43 42 1),(Qm 10 43)]))
@[go_sem] def e4:EC:=.seq (.reg [(Qx 3 30 1 0),(Qa 6 (.mv (.c .ff)))]) (.seq (.seq (.reg [(Qa 15 (.call 6 [])),(Qa 16 (.not (.t 15))),(Qm 17 16),(Qg 18 17 false (.loadA 1 (.t 3))),(Qg 19 17 false (.call 15 [(.t 18)])),(Qg 20 17 false (.not (.t 19))),(Qq 21 17 20)]) (.ite (.t 21) (.seq (.reg [(Qa 22 (.call 6 [])),(Qm 6 22)]) (.ret)) (.skip))) (.seq (.reg [(Qe 24 1 3),(Qa 25 (.call 12 [(.t 24)])),(Qm 26 1),(Qm 27 2),(Qa 28 (.build [.iv 0,.iv 0,.iv 0,.iv 0,.nl] [(0,1,(.c (.iv 7))),(1,1,(.t 26)),(3,1,(.t 27))])),(Qa 29 (.call 11 [(.t 25),(.t 28)])),(Qm 23 29),(Qa 30 (.ext (.t 23) 0)),(Qa 31 (.ext (.t 23) 1)),(Qa 7 (.alloc 30 [.nl])),(Qs 1 7 30),(Qm 8 31)]) (.seq (.seq (.reg [(Qm 32 8),(Qa 33 (.bin .neq (.t 32) (.c (.iv 0))))]) (.ite (.t 33) (.seq (.reg [(Qa 6 (.mv (.c .tt)))]) (.ret)) (.skip))) (.seq (.reg [(Qe 34 1 7),(Qa 35 (.call 12 [(.t 34)])),(Qm 36 1),(Qa 37 (.call 16 [(.t 35),(.t 36)])),(Qm 9 37)]) (.seq (.seq (.reg [(Qi 10 0)]) (.blk 0 (.loop e4_L0))) (.seq (.reg [(Qe 75 1 7),(Qa 76 (.call 12 [(.t 75)])),(Qm 77 1),(Qa 78 (.call 16 [(.t 76),(.t 77)])),(Qa 79 (.len (.t 78))),(Qa 80 (.bin .eql (.t 79) (.c (.iv 0)))),(Qm 81 80),(Qh 82 81 true 0 7),(Qn 83 81 true 82),(Qg 84 81 true (.mv (.t 1))),(Qg 85 81 true (.idx 3 (.t 83) (.t 84))),(Qh 86 81 true 2 85),(Qn 87 81 true 86),(Qg 88 81 true (.mv (.t 2))),(Qg 89 81 true (.call 17 [(.t 87),(.t 88)])),(Qg 90 81 true (.not (.t 89))),(Qp 91 81 90),(Qm 6 91)]) (.ret)))))))
theorem ok4:FnOK Try.prog 4 Try.f4 e4 [.t 6] 3 89:=⟨by kernel_rfl,⟨_,rfl,by kernel_rfl⟩,by kernel_rfl,by kernel_rfl⟩
noncomputable def Zar:Bool→Option Bool
| x56=>
 some x56
noncomputable def Zbr (x2:Int) (x3:Int):(List Place)→Option Bool
| x51=>
 (Zpp ((Model.mk x51))).bind fun x52=>
 (Zai x52 x2).bind fun x53=>
 ifb (decide ((ln Zf5 x53)=0)) (
 (at_ x51 x2).bind fun x54=>
 (Z9a x54.Live x3).bind fun x55=>
 Zar (!x55)) (
 Zar false)
noncomputable def Zcr (x28:Int) (x42:(List Place)):Bool→Option ((Int×(List Place)) ⊕ Bool)
| x43=>
 ifb x43 (
 Option.map Sum.inr (some false)) (
 some (.inl (wr (x28+1),x42)))
noncomputable def Zdr (x28:Int) (x35:Int):(Int×(List Place))→Option ((Int×(List Place)) ⊕ Bool)
| (x41,x42)=>
 ifb (!decide (x35=205)) (
 (Zcr x28 x42) true) (
 (Zcr x28 x42) (!decide (x41=0)))
noncomputable def Zer (x2:Int) (x11:(List Int)) (x28:Int) (x29:(List Place)):Int→Option ((Int×(List Place)) ⊕ Bool)
| x35=>
 (at_ x11 x28).bind fun x36=>
 (Zpp ((Model.mk x29))).bind fun x37=>
 (Zvl x37 ((Event.mk 5 x2 x36 0 (([]:(List Int)))))).bind fun x39=>
 (Zdr x28 x35) (x39.2,x39.1.Places)
noncomputable def Zfr (x2:Int) (x3:Int) (x11:(List Int)):(Int×(List Place))→Option ((Int×(List Place)) ⊕ Bool)
| (x28,x29)=>
 ifb (decide (x28<(ln Zf5 x11))) (
 (at_ x11 x28).bind fun x30=>
 (Zpp ((Model.mk x29))).bind fun x31=>
 (Zvl x31 ((Event.mk 3 x2 x30 0 (([]:(List Int)))))).bind fun x33=>
 (Zer x2 x11 x28 x29) x33.2) (
 Option.map Sum.inr ((Zbr x2 x3) x29))
noncomputable def Zgr (x1:Model) (x2:Int) (x3:Int):Bool→Option Bool
| x6=>
 ifb x6 (
 (Z9p).bind fun x7=>
 some x7) (
 (Zpp x1).bind fun x8=>
 (Zvl x8 ((Event.mk 7 x2 0 x3 (([]:(List Int)))))).bind fun x9=>
 ifb (!decide (x9.2=0)) (
 some true) (
 (Zpp x9.1).bind fun x10=>
 (Zai x10 x2).bind fun x11=>
 loop (Zfr x2 x3 x11) (0,x9.1.Places)))
noncomputable def Zhr (x1:Model) (x2:Int) (x3:Int):Option Bool:=
 (Z9p).bind fun x4=>
 ifb (!x4) (
 (Zgr x1 x2 x3) true) (
 (Zhq x1).bind fun x5=>
 (Zgr x1 x2 x3) (!x5))
theorem Zir (x1:Model) (x2:Int) (x3:Int) (r:Bool) (h:Zhr x1 x2 x3=some r):Zz2 Try.prog 4 [.agg (Model.row x1),.iv x2,.iv x3] (.bv r):=by
 refine Z33 ok4 rfl rfl fun w0 H0=>?_
 rw [Zhr] at h
 refine Zu2 8 ?_;dsimp only [go_sem];refine An ?_;obtain ⟨x4,ex4,h⟩:=Bs h;refine Z83 trivial (Zap _ ex4) (h:=?_);refine Zu2 2 ?_;dsimp only [go_sem];refine An ?_;refine Zy4 (fun (x6:Bool)=>(⟨(.any :: .iv x2 :: .iv x3 :: .ptr 0 0::an 17 (.bv x6::an 70 [])),[some ⟨30,[.sl 3 (List.map Place.row x1.Places)]⟩],[]⟩:St)) (Zgr x1 x2 x3) r ?_ fun J1=>?_
 ·intro x6 h;rw [Zgr] at h;(try dsimp only);refine Z05 h rfl (fun _ h=>?_) fun _ h=>?_
  ·refine Zu2 2 ?_;dsimp only [go_sem];refine An ?_;obtain ⟨x7,ex7,h⟩:=Bs h;refine Z83 trivial (Zap _ ex7) (h:=?_);refine Zu2 2 ?_;dsimp only [go_sem];refine An ?_;exact Z85 (res:=fun (r:Bool)=>.bv r) ok4 h
  ·refine Zu2 4 ?_;dsimp only [go_sem];refine An ?_;obtain ⟨x8,ex8,h⟩:=Bs h;refine Z83 trivial (Zqp x1 _ ex8) (h:=?_);refine Zu2 3 ?_;dsimp only [go_sem];refine An ?_;obtain ⟨x9,ex9,h⟩:=Bs h;refine Z83 trivial (Zwl x8 ((Event.mk 7 x2 0 x3 (([]:(List Int))))) _ ex9) (h:=?_);refine Zu2 13 ?_;dsimp only [go_sem];refine An ?_;refine Z05 h rfl (fun _ h=>?_) fun _ h=>?_
   ·refine Zu2 4 ?_;dsimp only [go_sem];refine An ?_;exact Z85 (res:=fun (r:Bool)=>.bv r) ok4 h
   ·refine Zu2 4 ?_;dsimp only [go_sem];refine An ?_;obtain ⟨x10,ex10,h⟩:=Bs h;refine Z83 trivial (Zqp x9.1 _ ex10) (h:=?_);refine Zu2 1 ?_;dsimp only [go_sem];refine An ?_;obtain ⟨x11,ex11,h⟩:=Bs h;refine Z83 trivial (Zbi x10 x2 _ ex11) (h:=?_);refine Zu2 7 ?_;dsimp only [go_sem];refine An ?_;refine Zy4 (fun (x51:(List Place))=>(⟨(.any :: .iv x2 :: .iv x3::an 4 (.ptr 1 0::an 84 [])),[none,some ⟨30,[.sl 3 (List.map Place.row x51)]⟩],[]⟩:St)) (Zbr x2 x3) r ?_ fun J2=>?_
    ·intro x51 h;rw [Zbr] at h;(try dsimp only);refine Zu2 3 ?_;dsimp only [go_sem];refine An ?_;obtain ⟨x52,ex52,h⟩:=Bs h;refine Z83 trivial (Zqp ((Model.mk x51)) _ ex52) (h:=?_);refine Zu2 1 ?_;dsimp only [go_sem];refine An ?_;obtain ⟨x53,ex53,h⟩:=Bs h;refine Z83 trivial (Zbi x52 x2 _ ex53) (h:=?_);refine Zu2 3 ?_;dsimp only [go_sem];refine An ?_;refine Zy4 (fun (x56:Bool)=>(⟨(an 6 (.bv x56::an 85 [])),[],[]⟩:St)) Zar r ?_ fun J6=>?_
     ·intro x56 h;rw [Zar] at h;(try dsimp only);exact Z85 (res:=fun (r:Bool)=>.bv r) ok4 h
     ·refine Z75 81 h rfl (fun _ h=>?_) fun _ h=>?_
      ·dsimp only [go_sem];refine Zu2 3 ?_;dsimp only [go_sem];refine An ?_;obtain ⟨x54,ex54,h⟩:=Bs h;refine Z35 Place.row ex54 trivial rfl rfl rfl ?_;refine Zu2 3 ?_;dsimp only [go_sem];refine An ?_;obtain ⟨x55,ex55,h⟩:=Bs h;refine Z83 trivial (Zaa x54.Live x3 _ ex55) (h:=?_);refine Zu2 4 ?_;dsimp only [go_sem];refine An ?_;exact Za5 J6 (s:=!x55) h
      ·dsimp only [go_sem];refine Zu2 12 ?_;dsimp only [go_sem];refine An ?_;exact Za5 J6 (s:=false) h
    ·refine Zu2 1 ?_;dsimp only [go_sem];refine An ?_;refine Zz4 h (fun ((x28,x29):(Int×(List Place)))=>(⟨(.any :: .iv x2 :: .iv x3::an 4 (.ptr 1 0 :: .any :: .sl 1 (List.map Zf5 x11) :: .iv x28::an 81 [])),[none,some ⟨30,[.sl 3 (List.map Place.row x29)]⟩],[]⟩:St)) (by simp [go_sem]) (by rintro ⟨x28,x29⟩;first | rfl | simp [go_sem]) ?_;rintro n1 ⟨x28,x29⟩ y1 h hin1 hout1;rw [Zfr] at h;(try dsimp only);refine Zu2 8 ?_;dsimp only [go_sem];refine An ?_;refine Z05 h rfl (fun _ h=>?_) fun _ h=>?_
     ·refine Zu2 4 ?_;dsimp only [go_sem];refine An ?_;refine Zy4 (fun (x35:Int)=>(⟨(.any :: .iv x2 :: .iv x3::an 4 (.ptr 1 0 :: .any :: .sl 1 (List.map Zf5 x11) :: .iv x28 :: .any :: .iv x35::an 79 [])),[none,some ⟨30,[.sl 3 (List.map Place.row x29)]⟩],[]⟩:St)) (Zer x2 x11 x28 x29) y1 ?_ fun J3=>?_
      ·intro x35 h;rw [Zer] at h;(try dsimp only);refine Zu2 1 ?_;dsimp only [go_sem];refine An ?_;refine Zy4 (fun ((x41,x42):(Int×(List Place)))=>(⟨(.any :: .iv x2 :: .iv x3::an 4 (.ptr 1 0 :: .any :: .sl 1 (List.map Zf5 x11) :: .iv x28 :: .any :: .iv x35 :: .ptr 2 0 :: .iv x41::an 77 [])),[none,some ⟨30,[.sl 3 (List.map Place.row x29)]⟩,some ⟨30,[.sl 3 (List.map Place.row x42)]⟩],[]⟩:St)) (Zdr x28 x35) y1 ?_ fun J4=>?_
       ·rintro ⟨x41,x42⟩ h;rw [Zdr] at h;(try dsimp only);refine Zu2 6 ?_;dsimp only [go_sem];refine An ?_;refine Zy4 (fun (x43:Bool)=>(⟨(.any :: .iv x2 :: .iv x3::an 4 (.ptr 1 0 :: .any :: .sl 1 (List.map Zf5 x11) :: .iv x28 :: .any :: .any :: .ptr 2 0::an 59 (.bv x43::an 18 []))),[none,some ⟨30,[.sl 3 (List.map Place.row x29)]⟩,some ⟨30,[.sl 3 (List.map Place.row x42)]⟩],[]⟩:St)) (Zcr x28 x42) y1 ?_ fun J5=>?_
        ·intro x43 h;rw [Zcr] at h;(try dsimp only);refine Z05 h rfl (fun _ h=>?_) fun _ h=>?_
         ·refine Zu2 4 ?_;dsimp only [go_sem];refine An ?_;exact Z85 (res:=fun (r:Bool)=>.bv r) ok4 (Zx4 h hout1)
         ·refine Zu2 11 ?_;dsimp only [go_sem];refine An ?_;exact Z95 h hin1
        ·refine Z75 70 h rfl (fun _ h=>?_) fun _ h=>?_
         ·dsimp only [go_sem];refine Zu2 4 ?_;dsimp only [go_sem];refine An ?_;exact Za5 J5 (s:=true) h
         ·dsimp only [go_sem];refine Zu2 4 ?_;dsimp only [go_sem];refine An ?_;exact Za5 J5 (s:=!decide (x41=0)) h
       ·refine Zu3 (by kernel_rfl) fun all hall hs hnap haf=>?_;dsimp only [go_sem];refine Zt5 hall hs haf hnap 4 11 ?_;dsimp only [go_sem];refine An ?_;obtain ⟨x36,ex36,h⟩:=Bs h;refine Z45 hall hs haf hnap 5 Zf5 ex36 rfl rfl trivial rfl rfl rfl rfl ?_;refine Zt5 hall hs haf hnap 2 8 ?_;dsimp only [go_sem];refine An ?_;obtain ⟨x37,ex37,h⟩:=Bs h;refine Z64 1 12 rfl ?_ ?_
        ·refine Zb4 hall rfl trivial (Zqp ((Model.mk x29)) _ ex37) (h:=?_);dsimp only [go_sem];obtain ⟨x39,ex39,h⟩:=Bs h;refine Z64 8 12 rfl ?_ ?_
         ·refine Zb4 hall rfl trivial (Zwl x37 ((Event.mk 5 x2 x36 0 (([]:(List Int))))) _ ex39) (h:=?_);dsimp only [go_sem];refine Zt5 hall hs haf hnap 3 3 ?_;dsimp only [go_sem];refine An ?_;refine Z54 12 rfl ?_;refine Za4 hall rfl trivial ?_;dsimp only [go_sem];refine Z54 13 rfl ?_;refine Za4 hall rfl trivial ?_;dsimp only [go_sem];refine Zt5 hall hs haf hnap 1 0 ?_;dsimp only [go_sem];refine An ?_;refine Z44 rfl ?_ _;exact Za5 J4 (s:=(x39.2,x39.1.Places)) h
         ·refine Za4 hall rfl trivial ?_;dsimp only [go_sem];refine Z54 8 rfl ?_;refine Zb4 hall rfl trivial (Zwl x37 ((Event.mk 5 x2 x36 0 (([]:(List Int))))) _ ex39) (h:=?_);dsimp only [go_sem];refine Zt5 hall hs haf hnap 3 2 ?_;dsimp only [go_sem];refine An ?_;refine Z54 13 rfl ?_;refine Za4 hall rfl trivial ?_;dsimp only [go_sem];refine Zt5 hall hs haf hnap 1 0 ?_;dsimp only [go_sem];refine An ?_;refine Z44 rfl ?_ _;exact Za5 J4 (s:=(x39.2,x39.1.Places)) h
        ·refine Za4 hall rfl trivial ?_;dsimp only [go_sem];refine Z54 1 rfl ?_;refine Zb4 hall rfl trivial (Zqp ((Model.mk x29)) _ ex37) (h:=?_);dsimp only [go_sem];refine Z54 8 rfl ?_;obtain ⟨x39,ex39,h⟩:=Bs h;refine Zb4 hall rfl trivial (Zwl x37 ((Event.mk 5 x2 x36 0 (([]:(List Int))))) _ ex39) (h:=?_);dsimp only [go_sem];refine Zt5 hall hs haf hnap 3 2 ?_;dsimp only [go_sem];refine An ?_;refine Z54 13 rfl ?_;refine Za4 hall rfl trivial ?_;dsimp only [go_sem];refine Zt5 hall hs haf hnap 1 0 ?_;dsimp only [go_sem]
         refine An ?_;refine Z44 rfl ?_ _;exact Za5 J4 (s:=(x39.2,x39.1.Places)) h
      ·refine Zu3 (by kernel_rfl) fun all hall hs hnap haf=>?_;dsimp only [go_sem];refine Zt5 hall hs haf hnap 4 11 ?_;dsimp only [go_sem];refine An ?_;obtain ⟨x30,ex30,h⟩:=Bs h;refine Z45 hall hs haf hnap 5 Zf5 ex30 rfl rfl trivial rfl rfl rfl rfl ?_;refine Zt5 hall hs haf hnap 2 8 ?_;dsimp only [go_sem];refine An ?_;obtain ⟨x31,ex31,h⟩:=Bs h;refine Z64 1 12 rfl ?_ ?_
       ·refine Zb4 hall rfl trivial (Zqp ((Model.mk x29)) _ ex31) (h:=?_);dsimp only [go_sem];obtain ⟨x33,ex33,h⟩:=Bs h;refine Z64 8 12 rfl ?_ ?_
        ·refine Zb4 hall rfl trivial (Zwl x31 ((Event.mk 3 x2 x30 0 (([]:(List Int))))) _ ex33) (h:=?_);dsimp only [go_sem];refine Zt5 hall hs haf hnap 3 3 ?_;dsimp only [go_sem];refine An ?_;refine Z54 12 rfl ?_;refine Za4 hall rfl trivial ?_;dsimp only [go_sem];refine Z54 13 rfl ?_;refine Za4 hall rfl trivial ?_;dsimp only [go_sem];refine Zt5 hall hs haf hnap 1 0 ?_;dsimp only [go_sem];refine An ?_;refine Z44 rfl ?_ _;exact Za5 J3 (s:=x33.2) h
        ·refine Za4 hall rfl trivial ?_;dsimp only [go_sem];refine Z54 8 rfl ?_;refine Zb4 hall rfl trivial (Zwl x31 ((Event.mk 3 x2 x30 0 (([]:(List Int))))) _ ex33) (h:=?_);dsimp only [go_sem];refine Zt5 hall hs haf hnap 3 2 ?_;dsimp only [go_sem];refine An ?_;refine Z54 13 rfl ?_;refine Za4 hall rfl trivial ?_;dsimp only [go_sem];refine Zt5 hall hs haf hnap 1 0 ?_;dsimp only [go_sem];refine An ?_;refine Z44 rfl ?_ _;exact Za5 J3 (s:=x33.2) h
       ·refine Za4 hall rfl trivial ?_;dsimp only [go_sem];refine Z54 1 rfl ?_;refine Zb4 hall rfl trivial (Zqp ((Model.mk x29)) _ ex31) (h:=?_);dsimp only [go_sem];refine Z54 8 rfl ?_;obtain ⟨x33,ex33,h⟩:=Bs h;refine Zb4 hall rfl trivial (Zwl x31 ((Event.mk 3 x2 x30 0 (([]:(List Int))))) _ ex33) (h:=?_);dsimp only [go_sem];refine Zt5 hall hs haf hnap 3 2 ?_;dsimp only [go_sem];refine An ?_;refine Z54 13 rfl ?_;refine Za4 hall rfl trivial ?_;dsimp only [go_sem];refine Zt5 hall hs haf hnap 1 0 ?_;dsimp only [go_sem]
        refine An ?_;refine Z44 rfl ?_ _;exact Za5 J3 (s:=x33.2) h
     ·refine Zu2 1 ?_;dsimp only [go_sem];refine An ?_;exact Za5 J2 (s:=x29) (Zx4 h hout1)
 ·refine Z75 17 h rfl (fun _ h=>?_) fun _ h=>?_
  ·dsimp only [go_sem];refine Zu2 5 ?_;dsimp only [go_sem];refine An ?_;exact Za5 J1 (s:=true) h
  ·dsimp only [go_sem];refine Zu2 1 ?_;dsimp only [go_sem];refine An ?_;obtain ⟨x5,ex5,h⟩:=Bs h;refine Z83 trivial (Ziq x1 _ ex5) (h:=?_);refine Zu2 3 ?_;dsimp only [go_sem];refine An ?_;exact Za5 J1 (s:=!x5) h
set_option maxRecDepth 100000
set_option maxHeartbeats 4000000
@[go_sem] def e5_L0:EC:=.seq (.seq (.reg [(Qm 35 7),(Qf 36 0 2),(Ql 37 36),(Qa 38 (.len (.t 37))),(Qa 39 (.bin .lss (.t 35) (.t 38))),(Qm 40 39),(Qg 41 40 true (.mv (.t 7))),(Qh 42 40 true 0 5),(Qn 43 40 true 42),(Qg 44 40 true (.len (.t 43))),(Qg 45 40 true (.bin .lss (.t 41) (.t 44))),(Qp 46 40 45)]) (.ite (.t 46) (.skip) (.exit 0))) (.seq (.blk 1 (.seq (.drw [(Qf 49 0 2),(Ql 50 49),(Qm 51 7),(Qm 52 7),(Qv 53 52 1),(Qa 54 (.slice 3 (.t 50) (some (.t 51)) (some (.t 53)))),(Qa 55 (.build [.nl] [(0,1,(.t 54))])),(Qf 56 0 5),(Ql 57 56),(Qm 58 7),(Qm 59 7),(Qv 60 59 1),(Qa 61 (.slice 3 (.t 57) (some (.t 58)) (some (.t 60)))),(Qa 62 (.build [.nl] [(0,1,(.t 61))])),(Qa 63 (.call 10 [(.t 55),(.t 62)])),(Qm 8 63)] [[],[0],[],[],[3],[1,2,4],[5],[],[7],[],[],[10],[8,9,11],[12],[6,13],[14,14,0,1,2,3,4,5,6,7,8,9,10,11,12,13,14]] [[1],[0,5],[5],[4],[3,5],[1,2,4,6],[5,14],[8],[7,12],[12],[11],[10,12],[8,9,11,13],[12,14],[6,13,15],[14]]) (.seq (.reg [(Qm 64 7),(Qf 65 1 3),(Ql 66 65),(Qa 67 (.bin .neq (.t 64) (.t 66))),(Qm 68 67),(Qg 69 68 true (.mv (.t 8))),(Qg 70 68 true (.not (.t 69))),(Qp 71 68 70),(Qm 72 71),(Qg 73 72 false (.mv (.t 7))),(Qh 74 72 false 1 3),(Qn 75 72 false 74),(Qg 76 72 false (.bin .eql (.t 73) (.t 75))),(Qg 77 72 false (.mv (.t 76))),(Qg 78 77 true (.mv (.t 8))),(Qh 79 77 true 0 3),(Qn 80 77 true 79),(Qg 81 77 true (.bin .eql (.t 80) (.c (.iv 8)))),(Qg 82 77 true (.bq true (.t 78) (.t 81))),(Qg 83 72 false (.pick (.t 77) (.t 82) (.c .ff))),(Qq 84 72 83)]) (.ite (.t 84) (.seq (.reg [(Qa 4 (.mv (.c .ff)))]) (.ret)) (.skip))))) (.reg [(Qm 47 7),(Qv 48 47 1),(Qm 7 48)]))
@[go_sem] def e5:EC:=.seq (.reg [(Qx 2 30 1 0),(Qx 3 41 5 1),(Qa 4 (.mv (.c .ff)))]) (.seq (.seq (.reg [(Qa 9 (.call 6 [])),(Qa 10 (.not (.t 9))),(Qm 11 10),(Qg 12 11 false (.loadA 1 (.t 2))),(Qg 13 11 false (.call 15 [(.t 12)])),(Qg 14 11 false (.not (.t 13))),(Qq 15 11 14),(Qm 16 15),(Qg 17 16 false (.loadA 5 (.t 3))),(Qg 18 16 false (.bsl 41 5 1 [.iv 0,.iv 0,.iv 0,.iv 0,.nl] [(0,(.t 17))])),(Qg 19 16 false (.call 7 [(.t 18)])),(Qg 20 16 false (.not (.t 19))),(Qq 21 16 20)]) (.ite (.t 21) (.seq (.reg [(Qa 22 (.call 6 [])),(Qm 4 22)]) (.ret)) (.skip))) (.seq (.drw [(Qe 24 1 2),(Qa 25 (.call 12 [(.t 24)])),(Qe 26 5 3),(Qa 27 (.call 11 [(.t 25),(.t 26)])),(Qm 23 27),(Qa 28 (.ext (.t 23) 0)),(Qa 29 (.ext (.t 23) 1)),(Qa 5 (.alloc 30 [.nl])),(Qs 1 5 28),(Qm 6 29)] [[],[0],[],[1,2,1],[3],[4],[4],[],[7,5,3,0,1,2,3,4,5,7],[6,8,0,1,2,3,4,5,6,7,8]] [[1],[0,3],[3],[1,2,4],[3,5,6],[4,8],[4,9],[8],[5,7],[6]]) (.seq (.seq (.reg [(Qm 30 6),(Qa 31 (.bin .neq (.t 30) (.c (.iv 0))))]) (.ite (.t 31) (.seq (.reg [(Qe 32 1 5),(Qa 33 (.build [.nl] [])),(Qa 34 (.call 10 [(.t 32),(.t 33)])),(Qm 4 34)]) (.ret)) (.skip))) (.seq (.seq (.reg [(Qi 7 0)]) (.blk 0 (.loop e5_L0))) (.seq (.reg [(Qf 85 0 2),(Ql 86 85),(Qa 87 (.len (.t 86))),(Qf 88 0 5),(Ql 89 88),(Qa 90 (.len (.t 89))),(Qa 91 (.bin .eql (.t 87) (.t 90))),(Qm 92 91),(Qg 93 92 true (.loadA 1 (.t 5))),(Qg 94 92 true (.call 12 [(.t 93)])),(Qg 95 92 true (.call 14 [(.t 94)])),(Qg 96 92 true (.bin .eql (.t 95) (.c (.iv 0)))),(Qp 97 92 96),(Qm 4 97)]) (.ret))))))
theorem ok5:FnOK Try.prog 5 Try.f5 e5 [.t 4] 2 96:=⟨by kernel_rfl,⟨_,rfl,by kernel_rfl⟩,by kernel_rfl,by kernel_rfl⟩
noncomputable def Zjr:Bool→Option Bool
| x36=>
 some x36
noncomputable def Zkr (x1:Model) (x13:(List Place)):Unit→Option Bool
| ()=>
 ifb (decide ((ln Place.row x1.Places)=(ln Place.row x13))) (
 (Zpp ((Model.mk x13))).bind fun x34=>
 (Zwh x34).bind fun x35=>
 Zjr (decide (x35=0))) (
 Zjr false)
noncomputable def Zlr (x22:Int):Bool→Option (Int ⊕ Bool)
| x28=>
 ifb x28 (
 Option.map Sum.inr (some false)) (
 some (.inl (wr (x22+1))))
noncomputable def Zmr (x2:Event) (x22:Int):Bool→Option (Int ⊕ Bool)
| x27=>
 ifb (!decide (x22=x2.Node)) (
 ifb (!x27) (
 (Zlr x22) true) (
 ifb (decide (x22=x2.Node)) (
 (Zlr x22) (!(x27==(decide (x2.Kind=8))))) (
 (Zlr x22) false))) (
 ifb (decide (x22=x2.Node)) (
 (Zlr x22) (!(x27==(decide (x2.Kind=8))))) (
 (Zlr x22) false))
noncomputable def Znr (x1:Model) (x2:Event) (x13:(List Place)) (x22:Int):Bool→Option (Int ⊕ Bool)
| x23=>
 ifb x23 (
 (sub_ x1.Places x22 (wr (x22+1))).bind fun x24=>
 (sub_ x13 x22 (wr (x22+1))).bind fun x25=>
 (Z6q ((Model.mk x24)) ((Model.mk x25))).bind fun x26=>
 (Zmr x2 x22) x26) (
 Option.map Sum.inr ((Zkr x1 x13) ()))
noncomputable def Zor (x1:Model) (x2:Event) (x13:(List Place)):Int→Option (Int ⊕ Bool)
| x22=>
 ifb (decide (x22<(ln Place.row x1.Places))) (
 (Znr x1 x2 x13 x22) (decide (x22<(ln Place.row x13)))) (
 (Znr x1 x2 x13 x22) false)
noncomputable def Zpr (x1:Model) (x2:Event):(Int×(List Place))→Option Bool
| (x12,x13)=>
 ifb (!decide (x12=0)) (
 (Z6q ((Model.mk x13)) ((Model.mk (([]:(List Place)))))).bind fun x14=>
 some x14) (
 loop (Zor x1 x2 x13) 0)
noncomputable def Zqr (x1:Model) (x2:Event):Bool→Option Bool
| x6=>
 ifb x6 (
 (Z9p).bind fun x7=>
 some x7) (
 (Zpp x1).bind fun x8=>
 (Zvl x8 x2).bind fun x10=>
 (Zpr x1 x2) (x10.2,x10.1.Places))
noncomputable def Zrr (x1:Model) (x2:Event):Option Bool:=
 (Z9p).bind fun x3=>
 ifb (!x3) (
 (Zqr x1 x2) true) (
 (Zhq x1).bind fun x4=>
 ifb (!x4) (
 (Zqr x1 x2) true) (
 (Zup ([x2])).bind fun x5=>
 (Zqr x1 x2) (!x5)))
theorem Zsr (x1:Model) (x2:Event) (r:Bool) (h:Zrr x1 x2=some r):Zz2 Try.prog 5 [.agg (Model.row x1),.agg (Event.row x2)] (.bv r):=by
 refine Z33 ok5 rfl rfl fun w0 H0=>?_
 rw [Zrr] at h
 refine Zu2 9 ?_;dsimp only [go_sem];refine An ?_;obtain ⟨x3,ex3,h⟩:=Bs h;refine Z83 trivial (Zap _ ex3) (h:=?_);refine Zu2 2 ?_;dsimp only [go_sem];refine An ?_;refine Zy4 (fun (x6:Bool)=>(⟨(.any :: .any :: .ptr 0 0 :: .ptr 1 0::an 17 (.bv x6::an 76 [])),[some ⟨30,[.sl 3 (List.map Place.row x1.Places)]⟩,some ⟨41,[.iv x2.Kind,.iv x2.Node,.iv x2.ID,.iv x2.Peer,.sl 1 (List.map Zf5 x2.Need)]⟩],[]⟩:St)) (Zqr x1 x2) r ?_ fun J1=>?_
 ·intro x6 h;rw [Zqr] at h;(try dsimp only);refine Z05 h rfl (fun _ h=>?_) fun _ h=>?_
  ·refine Zu2 2 ?_;dsimp only [go_sem];refine An ?_;obtain ⟨x7,ex7,h⟩:=Bs h;refine Z83 trivial (Zap _ ex7) (h:=?_);refine Zu2 2 ?_;dsimp only [go_sem];refine An ?_;exact Z85 (res:=fun (r:Bool)=>.bv r) ok5 h
  ·refine Zu2 2 ?_;dsimp only [go_sem];refine An ?_;refine Zy4 (fun ((x12,x13):(Int×(List Place)))=>(⟨(.any :: .any :: .ptr 0 0 :: .ptr 1 0 :: .any :: .ptr 2 0 :: .iv x12::an 91 []),[some ⟨30,[.sl 3 (List.map Place.row x1.Places)]⟩,some ⟨41,[.iv x2.Kind,.iv x2.Node,.iv x2.ID,.iv x2.Peer,.sl 1 (List.map Zf5 x2.Need)]⟩,some ⟨30,[.sl 3 (List.map Place.row x13)]⟩],[]⟩:St)) (Zpr x1 x2) r ?_ fun J2=>?_
   ·rintro ⟨x12,x13⟩ h;rw [Zpr] at h;(try dsimp only);refine Zu2 6 ?_;dsimp only [go_sem];refine An ?_;refine Z05 h rfl (fun _ h=>?_) fun _ h=>?_
    ·refine Zu2 4 ?_;dsimp only [go_sem];refine An ?_;obtain ⟨x14,ex14,h⟩:=Bs h;refine Z83 trivial (Z7q ((Model.mk x13)) ((Model.mk (([]:(List Place))))) _ ex14) (h:=?_);refine Zu2 2 ?_;dsimp only [go_sem];refine An ?_;exact Z85 (res:=fun (r:Bool)=>.bv r) ok5 h
    ·refine Zu2 6 ?_;dsimp only [go_sem];refine An ?_;refine Zy4 (fun (_:Unit)=>(⟨(.any :: .any :: .ptr 0 0 :: .any :: .any :: .ptr 2 0::an 92 []),[some ⟨30,[.sl 3 (List.map Place.row x1.Places)]⟩,none,some ⟨30,[.sl 3 (List.map Place.row x13)]⟩],[]⟩:St)) (Zkr x1 x13) r ?_ fun J3=>?_
     ·rintro ⟨⟩ h;rw [Zkr] at h;(try dsimp only);refine Zu2 10 ?_;dsimp only [go_sem];refine An ?_;refine Zy4 (fun (x36:Bool)=>(⟨(an 4 (.bv x36::an 93 [])),[],[]⟩:St)) Zjr r ?_ fun J7=>?_
      ·intro x36 h;rw [Zjr] at h;(try dsimp only);exact Z85 (res:=fun (r:Bool)=>.bv r) ok5 h
      ·refine Z75 92 h rfl (fun _ h=>?_) fun _ h=>?_
       ·dsimp only [go_sem];refine Zu2 1 ?_;dsimp only [go_sem];refine An ?_;obtain ⟨x34,ex34,h⟩:=Bs h;refine Z83 trivial (Zqp ((Model.mk x13)) _ ex34) (h:=?_);obtain ⟨x35,ex35,h⟩:=Bs h;refine Z83 trivial (Zxh x34 _ ex35) (h:=?_);refine Zu2 4 ?_;dsimp only [go_sem];refine An ?_;exact Za5 J7 (s:=decide (x35=0)) h
       ·dsimp only [go_sem];refine Zu2 7 ?_;dsimp only [go_sem];refine An ?_;exact Za5 J7 (s:=false) h
     ·refine Zu2 1 ?_;dsimp only [go_sem];refine An ?_;refine Zz4 h (fun (x22:Int)=>(⟨(.any :: .any :: .ptr 0 0 :: .ptr 1 0 :: .any :: .ptr 2 0 :: .any :: .iv x22::an 90 []),[some ⟨30,[.sl 3 (List.map Place.row x1.Places)]⟩,some ⟨41,[.iv x2.Kind,.iv x2.Node,.iv x2.ID,.iv x2.Peer,.sl 1 (List.map Zf5 x2.Need)]⟩,some ⟨30,[.sl 3 (List.map Place.row x13)]⟩],[]⟩:St)) (by simp [go_sem]) (by intro x22;first | rfl | simp [go_sem]) ?_;rintro n1 x22 y1 h hin1 hout1;rw [Zor] at h;(try dsimp only);refine Zu2 9 ?_;dsimp only [go_sem]
      refine An ?_;refine Zy4 (fun (x23:Bool)=>(⟨(.any :: .any :: .ptr 0 0 :: .ptr 1 0 :: .any :: .ptr 2 0 :: .any :: .iv x22::an 38 (.bv x23::an 51 [])),[some ⟨30,[.sl 3 (List.map Place.row x1.Places)]⟩,some ⟨41,[.iv x2.Kind,.iv x2.Node,.iv x2.ID,.iv x2.Peer,.sl 1 (List.map Zf5 x2.Need)]⟩,some ⟨30,[.sl 3 (List.map Place.row x13)]⟩],[]⟩:St)) (Znr x1 x2 x13 x22) y1 ?_ fun J4=>?_
      ·intro x23 h;rw [Znr] at h;(try dsimp only);refine Z05 h rfl (fun _ h=>?_) fun _ h=>?_
       ·refine Zu2 4 ?_;dsimp only [go_sem];refine An ?_;refine Zy4 (fun (x27:Bool)=>(⟨(.any :: .any :: .ptr 0 0 :: .ptr 1 0 :: .any :: .ptr 2 0 :: .any :: .iv x22 :: .bv x27::an 89 []),[some ⟨30,[.sl 3 (List.map Place.row x1.Places)]⟩,some ⟨41,[.iv x2.Kind,.iv x2.Node,.iv x2.ID,.iv x2.Peer,.sl 1 (List.map Zf5 x2.Need)]⟩,some ⟨30,[.sl 3 (List.map Place.row x13)]⟩],[]⟩:St)) (Zmr x2 x22) y1 ?_ fun J5=>?_
        ·intro x27 h;rw [Zmr] at h;(try dsimp only);refine Zu2 7 ?_;dsimp only [go_sem];refine An ?_;refine Zy4 (fun (x28:Bool)=>(⟨(.any :: .any :: .ptr 0 0 :: .ptr 1 0 :: .any :: .ptr 2 0 :: .any :: .iv x22::an 76 (.bv x28::an 13 [])),[some ⟨30,[.sl 3 (List.map Place.row x1.Places)]⟩,some ⟨41,[.iv x2.Kind,.iv x2.Node,.iv x2.ID,.iv x2.Peer,.sl 1 (List.map Zf5 x2.Need)]⟩,some ⟨30,[.sl 3 (List.map Place.row x13)]⟩],[]⟩:St)) (Zlr x22) y1 ?_ fun J6=>?_
         ·intro x28 h;rw [Zlr] at h;(try dsimp only);refine Z05 h rfl (fun _ h=>?_) fun _ h=>?_
          ·refine Zu2 4 ?_;dsimp only [go_sem];refine An ?_;exact Z85 (res:=fun (r:Bool)=>.bv r) ok5 (Zx4 h hout1)
          ·refine Zu2 7 ?_;dsimp only [go_sem];refine An ?_;exact Z95 h hin1
         ·refine Z75 68 h rfl (fun _ h=>?_) fun _ h=>?_
          ·dsimp only [go_sem];refine Zu2 4 ?_;dsimp only [go_sem];refine An ?_;refine Z75 72 h rfl (fun _ h=>?_) fun _ h=>?_
           ·dsimp only [go_sem];refine Zu2 13 ?_;dsimp only [go_sem];refine An ?_;exact Za5 J6 (s:=true) h
           ·dsimp only [go_sem];refine Zu2 5 ?_;dsimp only [go_sem];refine An ?_;refine Z75 77 h rfl (fun _ h=>?_) fun _ h=>?_
            ·dsimp only [go_sem];refine Zu2 8 ?_;dsimp only [go_sem];refine An ?_;exact Za5 J6 (s:=!(x27==(decide (x2.Kind=8)))) h
            ·dsimp only [go_sem];refine Zu2 8 ?_;dsimp only [go_sem];refine An ?_;exact Za5 J6 (s:=false) h
          ·dsimp only [go_sem];refine Zu2 9 ?_;dsimp only [go_sem];refine An ?_;refine Z75 77 h rfl (fun _ h=>?_) fun _ h=>?_
           ·dsimp only [go_sem];refine Zu2 8 ?_;dsimp only [go_sem];refine An ?_;exact Za5 J6 (s:=!(x27==(decide (x2.Kind=8)))) h
           ·dsimp only [go_sem];refine Zu2 8 ?_;dsimp only [go_sem];refine An ?_;exact Za5 J6 (s:=false) h
        ·refine Zu3 (by kernel_rfl) fun all hall hs hnap haf=>?_;dsimp only [go_sem];refine Zu5 hall hs haf hnap 10 6 [5,2,5,4] [(49,[.ptr 0 0,.sl 3 (List.map Place.row x1.Places),.iv x22,.iv x22,.iv (wr (x22+1))]),(2,[.ptr 2 0,.sl 3 (List.map Place.row x13),.iv x22,.iv x22,.iv (wr (x22+1))])] (by kernel_rfl) ?_;dsimp only [go_sem];obtain ⟨x24,ex24,h⟩:=Bs h;refine G_sliceM hall hs haf hnap 5 Place.row ex24 rfl rfl trivial rfl rfl rfl rfl rfl ?_;dsimp only [go_sem];refine Zt5 hall hs haf hnap 1 4 ?_;dsimp only [go_sem];refine An ?_
         obtain ⟨x25,ex25,h⟩:=Bs h;refine G_sliceM hall hs haf hnap 12 Place.row ex25 rfl rfl trivial rfl rfl rfl rfl rfl ?_;dsimp only [go_sem];refine Zt5 hall hs haf hnap 1 2 ?_;dsimp only [go_sem];refine An ?_;refine Z54 14 rfl ?_;obtain ⟨x26,ex26,h⟩:=Bs h;refine Zb4 hall rfl trivial (Z7q ((Model.mk x24)) ((Model.mk x25)) _ ex26) (h:=?_);dsimp only [go_sem];refine Zt5 hall hs haf hnap 1 0 ?_;dsimp only [go_sem];refine An ?_;refine Z44 rfl ?_ _;exact Za5 J5 (s:=x26) h
       ·refine Zu2 1 ?_;dsimp only [go_sem];refine An ?_;exact Za5 J3 (s:=()) (Zx4 h hout1)
      ·refine Z75 40 h rfl (fun _ h=>?_) fun _ h=>?_
       ·dsimp only [go_sem];refine Zu2 7 ?_;dsimp only [go_sem];refine An ?_;exact Za5 J4 (s:=decide (x22<(ln Place.row x13))) h
       ·dsimp only [go_sem];refine Zu2 7 ?_;dsimp only [go_sem];refine An ?_;exact Za5 J4 (s:=false) h
   ·refine Zu3 (by kernel_rfl) fun all hall hs hnap haf=>?_;dsimp only [go_sem];refine Zt5 hall hs haf hnap 2 8 ?_;dsimp only [go_sem];refine An ?_;obtain ⟨x8,ex8,h⟩:=Bs h;refine Z64 1 7 rfl ?_ ?_
    ·refine Zb4 hall rfl trivial (Zqp x1 _ ex8) (h:=?_);dsimp only [go_sem];obtain ⟨x10,ex10,h⟩:=Bs h;refine Z64 3 7 rfl ?_ ?_
     ·refine Zb4 hall rfl trivial (Zwl x8 x2 _ ex10) (h:=?_);dsimp only [go_sem];refine Zt5 hall hs haf hnap 3 3 ?_;dsimp only [go_sem];refine An ?_;refine Z54 7 rfl ?_;refine Za4 hall rfl trivial ?_;dsimp only [go_sem];refine Z54 8 rfl ?_;refine Za4 hall rfl trivial ?_;dsimp only [go_sem];refine Zt5 hall hs haf hnap 1 0 ?_;dsimp only [go_sem];refine An ?_;refine Z44 rfl ?_ _;exact Za5 J2 (s:=(x10.2,x10.1.Places)) h
     ·refine Za4 hall rfl trivial ?_;dsimp only [go_sem];refine Z54 3 rfl ?_;refine Zb4 hall rfl trivial (Zwl x8 x2 _ ex10) (h:=?_);dsimp only [go_sem];refine Zt5 hall hs haf hnap 3 2 ?_;dsimp only [go_sem];refine An ?_;refine Z54 8 rfl ?_;refine Za4 hall rfl trivial ?_;dsimp only [go_sem];refine Zt5 hall hs haf hnap 1 0 ?_;dsimp only [go_sem];refine An ?_;refine Z44 rfl ?_ _;exact Za5 J2 (s:=(x10.2,x10.1.Places)) h
    ·refine Za4 hall rfl trivial ?_;dsimp only [go_sem];refine Z54 1 rfl ?_;refine Zb4 hall rfl trivial (Zqp x1 _ ex8) (h:=?_);dsimp only [go_sem];refine Z54 3 rfl ?_;obtain ⟨x10,ex10,h⟩:=Bs h;refine Zb4 hall rfl trivial (Zwl x8 x2 _ ex10) (h:=?_);dsimp only [go_sem];refine Zt5 hall hs haf hnap 3 2 ?_;dsimp only [go_sem];refine An ?_;refine Z54 8 rfl ?_;refine Za4 hall rfl trivial ?_;dsimp only [go_sem];refine Zt5 hall hs haf hnap 1 0 ?_;dsimp only [go_sem];refine An ?_;refine Z44 rfl ?_ _
     exact Za5 J2 (s:=(x10.2,x10.1.Places)) h
 ·refine Z75 11 h rfl (fun _ h=>?_) fun _ h=>?_
  ·dsimp only [go_sem];refine Zu2 11 ?_;dsimp only [go_sem];refine An ?_;exact Za5 J1 (s:=true) h
  ·dsimp only [go_sem];refine Zu2 1 ?_;dsimp only [go_sem];refine An ?_;obtain ⟨x4,ex4,h⟩:=Bs h;refine Z83 trivial (Ziq x1 _ ex4) (h:=?_);refine Zu2 3 ?_;dsimp only [go_sem];refine An ?_;refine Z75 16 h rfl (fun _ h=>?_) fun _ h=>?_
   ·dsimp only [go_sem];refine Zu2 6 ?_;dsimp only [go_sem];refine An ?_;exact Za5 J1 (s:=true) h
   ·dsimp only [go_sem];refine Zu2 2 ?_;dsimp only [go_sem];refine An ?_;obtain ⟨x5,ex5,h⟩:=Bs h;refine Zc5 trivial ((Zb5.refl _).slice 0 rfl) (Zvp ([x2]) _ ex5) (h:=?_);refine Zu2 3 ?_;dsimp only [go_sem];refine An ?_;exact Za5 J1 (s:=!x5) h
def runA (P:List Place) (l:List Event):List Place:=l.foldl (fun P e=>if (Zgn ⟨P⟩ e).2=0 then (Zgn ⟨P⟩ e).1.Places else P) P
theorem runA_snoc (P:List Place) (l:List Event) (e:Event):runA P (l++[e])=if (Zgn ⟨runA P l⟩ e).2=0 then (Zgn ⟨runA P l⟩ e).1.Places else runA P l:=by
 unfold runA;rw [List.foldl_append];rfl
theorem Ztr (x1:Graph) (x2:List Event):Z8r x1 x2=some true:=by
 have jT:Z7r x1 x2 true=some true:=by
  simp only [Z7r,Zh6,Zhp,Option.bind_some]
 simp only [Z8r,Zhp,s_few,Option.bind_some,Bool.not_true,Zi6]
 cases hf:fewE x2
 ·rw [Bool.not_false,Zh6,jT]
 rw [Bool.not_true,Zi6,Zh5]
 by_cases h60:(60:Int)<x1.Edges.length
 ·rw [decide_eq_true h60,Zh6,jT]
 rw [decide_eq_false h60,Zi6]
 by_cases h12:12<x1.N
 ·rw [decide_eq_true h12,jT]
 rw [decide_eq_false h12]
 obtain ⟨hl,hn⟩:=fewE_need hf
 simp only [Z7r,Zi6,s_Own03 x1 (by omega),s_mNew,Option.bind_some]
 cases hg:okG x1
 ·simp only [Bool.false_eq_true,if_false]
  rw [show (!decide ((30:Int)=0))=true from rfl,Zh6,Zjq ⟨[]⟩ ⟨[]⟩ ⟨by simp,by simp⟩];rfl
 simp only [if_true,decide_true,Bool.not_true,Zi6]
 have key:=loop_ppI x2 (Z6r x2) (fun pre=>((pre.length:Int),runA (newM x1).Places pre)) (fun _ _=>some true) (fun pre=>okM ⟨runA (newM x1).Places pre⟩=true∧Zbn (runA (newM x1).Places pre)=true) (fun pre e post h hI=>?_) (fun _=>?_) x2 [] rfl ⟨newM_ok hg,newM_apart x1⟩
 ·exact key
 ·left
  have hx:=Zna h
  have hm:=Zoa h
  have hfew:=Ztq hI.1
  have hN:=hn e (Zpa h)
  have hI2:okM ⟨runA (newM x1).Places (pre++[e])⟩=true∧Zbn (runA (newM x1).Places (pre++[e]))=true:=by
   rw [runA_snoc]
   by_cases h0:(Zgn ⟨runA (newM x1).Places pre⟩ e).2=0
   ·rw [if_pos h0];exact ⟨Zyq h0,step_apart h0 hI.2⟩
   ·rw [if_neg h0];exact hI
  refine ⟨?_,hI2,rfl⟩
  dsimp only [Z6r]
  rw [Zm6 hx,Zh6,Zk6 hx,Option.bind_some,Zkq _ hfew,Option.bind_some,s_Step _ hfew e (by omega),Option.bind_some]
  have e3:Z5r (pre.length:Int) (runA (newM x1).Places pre) ((Zgn ⟨runA (newM x1).Places pre⟩ e).2,(Zgn ⟨runA (newM x1).Places pre⟩ e).1.Places)=Z4r (pre.length:Int) (runA (newM x1).Places (pre++[e])):=by
   rw [runA_snoc]
   simp only [Z5r]
   by_cases h0:(Zgn ⟨runA (newM x1).Places pre⟩ e).2=0
   ·rw [decide_eq_true h0,Zh6,if_pos h0]
   ·rw [decide_eq_false h0,Zi6,if_neg h0]
  rw [e3]
  simp only [Z4r,s_Apart _ (Ztq hI2.1),s_mCheck _ (Ztq hI2.1),Option.bind_some,hI2.1,hI2.2,if_true,Bool.not_true,Zi6,decide_true,Z3r,Zo6 (show pre.length≤4000000000000000000 by omega),Zqa]
 ·dsimp only [Z6r]
  rw [Zn6,Zi6];rfl
theorem place_changed {m:Model} {e:Event} (h:(Zgn m e).2=0):∃p p',at_ m.Places e.Node=some p∧(Zgn m e).1=⟨m.Places.set e.Node.toNat p'⟩∧(decide (p=p')=decide (e.Kind=8)):=by
 obtain ⟨p,p',hk,hp,he,hB,_,hc⟩:=Zxq h
 have hO:=Zuq.1 (okM_at hk hp)
 refine ⟨p,p',hp,he,?_⟩
 rcases hc with ⟨ho,b1,b2,b3⟩ | ⟨ho,k0,k8,c1,c2,c3⟩
 ·rcases edgeP_ok b2 hO.2.1 with ⟨k,a1,_,a2⟩ | ⟨k,a1,_,a2⟩ | ⟨k,a1⟩
  ·have:p≠p':=by
    rintro rfl
    rw [←b3] at a2
    exact a1 ((a2 e.Peer).2 (.inr rfl))
   rw [decide_eq_false this,decide_eq_false (by omega)]
  ·have:p≠p':=by
    rintro rfl
    rw [←b3] at a2
    exact ((a2 e.Peer).1 a1).2 rfl
   rw [decide_eq_false this,decide_eq_false (by omega)]
  ·have:p=p':=by
    obtain ⟨pb,pl⟩:=p
    obtain ⟨pb',pl'⟩:=p'
    simp only at b1 b3 a1
    rw [b1,b3,a1]
   rw [decide_eq_true this,decide_eq_true k]
 ·have hne:e.Kind≠8:=by
   intro h8;simp [ofE,h8] at ho
  have:p≠p':=by
   rintro rfl
   rcases Zwq c2 k0 k8 ho with ⟨_,g1,g2⟩ | ⟨_,g1,g2⟩ | ⟨w,_,g1,g2⟩
   ·obtain ⟨_,g3,_,_,g4⟩:=openP_ok g1
    rw [g2,g4] at c3
    have:=congrArg Book.Last c3
    simp only at this
    omega
   ·obtain ⟨s,l,_,q1,q2,_,q3,_⟩:=Zvq g1
    rw [g2,q3] at c3
    have:=congrArg Book.Sess c3
    rw [q1] at this
    simp only [List.cons.injEq,and_true] at this
    exact q2 (congrArg Sess.State this)
   ·obtain ⟨_,i,s,_,q1,_,_,q2⟩:=endP_ok g1
    rw [g2,q2] at c3
    have:=congrArg Book.Sess c3
    simp only at this
    have hi:=(List.getElem?_eq_some_iff.1 q1).1
    have hl:=cut_len hi
    rw [←this] at hl
    omega
  rw [decide_eq_false this,decide_eq_false hne]
theorem sub_one {α:Type} {l:List α} {k:Nat} {x:α} (h:l[k]?=some x):sub_ l (k:Int) ((k+1:Nat):Int)=some [x]:=by
 obtain ⟨h1,rfl⟩:=List.getElem?_eq_some_iff.1 h
 unfold sub_
 rw [if_pos ⟨by omega,by omega,by omega⟩]
 simp only [Int.toNat_natCast]
 rw [List.take_succ_eq_append_getElem h1,List.drop_left' (by simp;omega)]
theorem Zur (x1:Model) (x2:Event):Zrr x1 x2=some true:=by
 have jT:Zqr x1 x2 true=some true:=by
  simp only [Zqr,Zh6,Zhp,Option.bind_some]
 simp only [Zrr,Zhp,s_few,s_r20Few,Option.bind_some,Bool.not_true,Zi6]
 cases hf:few20 x1
 ·rw [Bool.not_false,Zh6,jT]
 rw [Bool.not_true,Zi6]
 cases hE:fewE [x2]
 ·rw [Bool.not_false,jT]
 rw [Bool.not_true]
 have hm:=few20_few hf
 have hN:=(fewE_need hE).2 x2 (by simp)
 simp only [Zqr,Zi6,Zkq x1 hm,s_Step x1 hm x2 (by omega),Option.bind_some,Zpr]
 by_cases h0:(Zgn x1 x2).2=0
 ·rw [h0]
  simp only [decide_true,Bool.not_true,Zi6]
  obtain ⟨p,p',hp,he,hch⟩:=place_changed h0
  have hok:=Zyq h0
  have hfx:=Ztq hok
  obtain ⟨v0,v1,v2⟩:=Z4n hp
  rw [he] at hok hfx ⊢
  dsimp only
  have hl:(x1.Places.set x2.Node.toNat p').length=x1.Places.length:=by simp
  have h1:=hm.1
  refine Zma x1.Places _ (fun pre=>(pre.length:Int)) true (fun pre x post h=>?_) ?_
  ·have hx:=Zna h
   have hml:=Zoa h
   have hy:∃y,(x1.Places.set x2.Node.toNat p')[pre.length]?=some y∧decide (x=y)=(if (pre.length:Int)=x2.Node then decide (x2.Kind=8) else true):=by
    by_cases hv:x2.Node.toNat=pre.length
    ·refine ⟨p',by rw [hv];rw [List.getElem?_set_self (by omega)],?_⟩
     rw [if_pos (by omega)]
     rw [hv,hx] at v2
     simp only [Option.some.injEq] at v2
     rw [v2];exact hch
    ·refine ⟨x,by rw [List.getElem?_set_ne hv];exact hx,?_⟩
     rw [if_neg (by omega)];simp
   obtain ⟨y,hy,hxy⟩:=hy
   have ed:decide ((⟨[x]⟩:Model)=⟨[y]⟩)=decide (x=y):=by rw [decide_eq_decide];simp
   dsimp only [Zor]
   rw [Zm6 hx,Zh6]
   rw [Zh5,hl,decide_eq_true (by omega)]
   dsimp only [Znr]
   rw [Zh6,Zo6 (by omega),sub_one hx,Option.bind_some,sub_one hy,Option.bind_some,Zjq ⟨[x]⟩ ⟨[y]⟩ ⟨by simp,fun q hq=>hm.2 q (by simp at hq;subst hq;exact Zpa h)⟩,Option.bind_some,ed,hxy]
   simp only [Zmr,Zlr,Zo6 (show pre.length≤4000000000000000000 by omega),Zqa]
   by_cases hv:(pre.length:Int)=x2.Node
   ·simp only [hv,decide_true,Bool.not_true,Zi6,Zh6,if_true,beq_self_eq_true]
   ·simp only [hv,decide_false,Bool.not_false,Zh6,if_false,Bool.not_true,Zi6]
  ·dsimp only [Zor]
   rw [Zn6,Zi6]
   dsimp only [Znr]
   rw [Zi6]
   simp only [Zkr,Zjr,Zh5,hl,decide_true,Zh6,Zkq _ hfx,s_mCheck _ hfx,Option.bind_some,hok,if_true,Option.map_some]
 ·rw [decide_eq_false h0,stepP_bad h0,Bool.not_false,Zh6,Zjq ⟨[]⟩ ⟨[]⟩ ⟨by simp,by simp⟩];rfl
theorem gone_step {m:Model} {at':Int} {p:Place} (hk:okM m=true) (hp:at_ m.Places at'=some p) {id:Int} {rest:List Int} (hd:Z8n p=id::rest):
  (Zgn m ⟨3,at',id,0,[]⟩).2=205∧(Zgn m ⟨5,at',id,0,[]⟩).2=0∧∃p',(Zgn m ⟨5,at',id,0,[]⟩).1=⟨m.Places.set at'.toNat p'⟩∧p'.Live=p.Live∧Z8n p'=rest:=by
 have hB:=Zuq.1 (okM_at hk hp)
 obtain ⟨_,_,hS⟩:=Zrq.1 hB.1
 have hids:=sessL_ids hS
 have hsplit:∃s A B,p.Book.Sess=A++s::B∧s.ID=id∧dueS p.Live s=true∧A.filter (dueS p.Live)=[]∧(B.filter (dueS p.Live)).map (·.ID)=rest:=by
  unfold Z8n at hd
  cases hq:p.Book.Sess.filter (dueS p.Live) with
  | nil=>rw [hq] at hd;simp at hd
  | cons s r=>
    rw [hq] at hd
    simp only [List.map_cons,List.cons.injEq] at hd
    obtain ⟨A,B,h1,h2,h3,h4⟩:=List.filter_eq_cons_iff.1 hq
    exact ⟨s,A,B,h1,hd.1,h3,List.filter_eq_nil_iff.2 h2,by rw [h4];exact hd.2⟩
 obtain ⟨s,A,B,hs,hid,hdue,hA,hBr⟩:=hsplit
 have hfind:findB p.Book id=some A.length:=by
  unfold findB
  rw [List.findIdx?_eq_some_iff_getElem]
  have hlt:A.length<p.Book.Sess.length:=by rw [hs];simp
  have hget:p.Book.Sess[A.length]=s:=by
   have:p.Book.Sess[A.length]?=some s:=Zna hs
   exact (List.getElem?_eq_some_iff.1 this).2
  refine ⟨hlt,by rw [hget];simpa using hid,fun j hj=>?_⟩
  have:=(List.pairwise_iff_getElem.1 hids) j A.length (by omega) hlt hj
  rw [hget] at this
  simp;omega
 have hst:s.State=0:=by
  simp only [dueS,Bool.and_eq_true,decide_eq_true_eq] at hdue;exact hdue.1
 have hend:endP p.Book id 0=(⟨p.Book.Last,A++B⟩,0):=by
  unfold endP
  rw [if_pos hB.1,hfind]
  dsimp only
  rw [show p.Book.Sess[A.length]?=some s from Zna hs]
  dsimp only
  rw [if_pos hst]
  have e1:p.Book.Sess.take A.length=A:=by rw [hs];simp
  have e2:p.Book.Sess.drop (A.length+1)=B:=by rw [hs];simp
  rw [e1,e2]
 have hmem:id∈Z8n p:=by rw [hd];simp
 have h5:Zgn m ⟨5,at',id,0,[]⟩=(⟨m.Places.set at'.toNat ⟨⟨p.Book.Last,A++B⟩,p.Live⟩⟩,0):=by
  have hsess:Zfn m.Places p ⟨5,at',id,0,[]⟩=(⟨p.Book.Last,A++B⟩,0):=by
   unfold Zfn
   dsimp only
   rw [if_neg (by omega),if_neg (by omega),if_neg (by omega),if_neg (by omega),if_pos rfl,if_pos hmem,hend]
   rfl
  unfold Zgn doP
  rw [if_pos hk]
  dsimp only
  rw [hp]
  dsimp only
  rw [hsess]
  rfl
 refine ⟨?_,by rw [h5],⟨⟨p.Book.Last,A++B⟩,p.Live⟩,by rw [h5],rfl,?_⟩
 ·unfold Zgn
  rw [if_pos hk]
  dsimp only
  rw [hp]
  dsimp only
  rw [hd]
  rfl
 ·unfold Z8n
  dsimp only
  rw [List.filter_append,hA,List.nil_append]
  exact hBr
def runG (P:List Place) (at':Int) (l:List Int):List Place:=l.foldl (fun P id=>(Zgn ⟨P⟩ ⟨5,at',id,0,[]⟩).1.Places) P
theorem Zvr (x1:Model) (x2 x3:Int):Zhr x1 x2 x3=some true:=by
 have jT:Zgr x1 x2 x3 true=some true:=by
  simp only [Zgr,Zh6,Zhp,Option.bind_some]
 simp only [Zhr,Zhp,s_r20Few,Option.bind_some,Bool.not_true,Zi6]
 cases hf:few20 x1
 ·rw [Bool.not_false,jT]
 rw [Bool.not_true]
 have hm:=few20_few hf
 simp only [Zgr,Zi6,Zkq x1 hm,s_Step x1 hm ⟨7,x2,0,x3,[]⟩ (by simp),Option.bind_some]
 by_cases h0:(Zgn x1 ⟨7,x2,0,x3,[]⟩).2=0
 ·rw [decide_eq_true h0,Bool.not_true,Zi6]
  obtain ⟨p,p',hk,hp,he,hB,_,hc⟩:=Zxq h0
  have hok:=Zyq h0
  have hfx:=Ztq hok
  dsimp only at hp he
  have hO:=Zuq.1 (okM_at hk hp)
  obtain ⟨v0,v1,v2⟩:=Z4n hp
  have hlive:x3∉p'.Live:=by
   rcases hc with ⟨_,_,b2,b3⟩ | ⟨ho,_⟩
   ·rcases edgeP_ok b2 hO.2.1 with ⟨k,_⟩ | ⟨_,_,_,a2⟩ | ⟨k,_⟩
    ·simp at k
    ·rw [b3];intro hx;exact ((a2 x3).1 hx).2 rfl
    ·simp at k
   ·simp [ofE] at ho
  rw [Zkq _ hfx,Option.bind_some,s_Due _ hfx,Option.bind_some]
  have hat:at_ (Zgn x1 ⟨7,x2,0,x3,[]⟩).1.Places x2=some p':=by rw [he];exact Zsq p' hp
  rw [hat]
  dsimp only
  generalize (Zgn x1 ⟨7,x2,0,x3,[]⟩).1=X at hok hfx hat
  have hX8:(Z8n p').length≤1000000:=by
   have:=(hfx.2 p' (Z5n hat)).2.1
   exact Nat.le_trans (due_len _ _) this
  have key:=loop_ppI (Z8n p') (Zfr x2 x3 (Z8n p')) (fun pre=>((pre.length:Int),runG X.Places x2 pre)) (fun _ _=>some true)
   (fun pre=>okM ⟨runG X.Places x2 pre⟩=true∧∃q,at_ (runG X.Places x2 pre) x2=some q∧q.Live=p'.Live∧Z8n p'=pre++Z8n q) (fun pre id post h hI=>?_) (fun hI=>?_) (Z8n p') [] rfl ⟨hok,p',hat,rfl,rfl⟩
  ·exact key
  ·left
   obtain ⟨hok1,q,hq,hql,hqd⟩:=hI
   have hx:=Zna h
   have hml:=Zoa h
   have hdq:Z8n q=id::post:=by rw [h] at hqd;exact (List.append_cancel_left hqd).symm
   obtain ⟨g1,g2,q',g3,g4,g5⟩:=gone_step (m:=⟨runG X.Places x2 pre⟩) hok1 hq hdq
   have hsn:runG X.Places x2 (pre++[id])=(Zgn ⟨runG X.Places x2 pre⟩ ⟨5,x2,id,0,[]⟩).1.Places:=by simp [runG,List.foldl_append]
   have hfew:=Ztq hok1
   refine ⟨?_,⟨?_,q',?_,g4.trans hql,?_⟩,rfl⟩
   ·dsimp only [Zfr]
    rw [Zm6 hx,Zh6,Zk6 hx,Option.bind_some,Zkq _ hfew,Option.bind_some,s_Step _ hfew _ (by simp),Option.bind_some,g1]
    dsimp only [Zer]
    rw [Zk6 hx,Option.bind_some,Zkq _ hfew,Option.bind_some,s_Step _ hfew _ (by simp),Option.bind_some,g2]
    dsimp only [Zdr,Zcr]
    rw [show (!decide ((205:Int)=205))=false from rfl,Zi6,show (!decide ((0:Int)=0))=false from rfl,Zi6,Zo6 (by omega),Zqa,hsn]
   ·rw [hsn];exact Zyq g2
   ·rw [hsn,g3];exact Zsq q' hq
   ·rw [g5,h];simp
  ·obtain ⟨hok1,q,hq,hql,hqd⟩:=hI
   have hfew:=Ztq hok1
   have hnil:Z8n q=[]:=by
    have:=congrArg List.length hqd
    rw [List.length_append] at this
    exact List.length_eq_zero_iff.1 (by omega)
   dsimp only [Zfr]
   rw [Zn6,Zi6]
   dsimp only [Zbr]
   have e:Zai ⟨runG X.Places x2 (Z8n p')⟩ x2=some []:=by
    rw [s_Due _ hfew]
    dsimp only
    rw [hq]
    dsimp only
    rw [hnil]
   rw [Zkq _ hfew,Option.bind_some,e,Option.bind_some,hq,Zh5,show decide (((([]:List Int).length:Nat):Int)=0)=true from rfl,Zh6,Option.bind_some,s_r01Has q.Live x3 (by have:=(hfew.2 q (Z5n hq)).1;omega),Option.bind_some,hql,decide_eq_false hlive]
   rfl
 ·rw [decide_eq_false h0,Bool.not_false,Zh6]
end NX
end Go.Proofs.Ythlodgjekbidcaa
