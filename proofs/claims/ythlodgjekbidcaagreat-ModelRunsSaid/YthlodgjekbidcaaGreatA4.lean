/-
  Plain laws: a model behind an event. No statement of the seat is proved here.
-/
import Derived.KernelRfl
import Derived.Test.YthlodgjekbidcaaGreatA3
import Derived.Test.YthlodgjekbidcaaGreatA2
namespace Go.Proofs.YthlodgjekbidcaaGreat
namespace NX
open Go
def ofE (e:Event):Bool:=decide (e.Kind=6)||(decide (e.Kind=7)||decide (e.Kind=8))
def Zln (P:List Place) (e:Event):Bool:=match at_ P e.Peer with | some q=>decide (e.Node∈q.Live) | none=>false
def Zmn (P:List Place) (p:Place) (e:Event):List Int×Int:=
 if e.Kind=6 then (if !decide (e.Peer∈p.Live)&&(Zln P e==decide (e.Node<e.Peer)) then (Z7b (p.Live++[e.Peer]),0) else ([],206))
 else if e.Kind=7 then (if decide (e.Peer∈p.Live)&&(decide (e.Node<e.Peer)||!Zln P e) then ((Z7b p.Live).filter (fun z=>!decide (z∈ [e.Peer])),0) else ([],206))
 else if e.Kind=8 then (if decide (e.Node<e.Peer)&&(!decide (e.Peer∈p.Live)&&(!Zln P e&&(!Zfn P e.Node e.Peer&&!Zfn P e.Peer e.Node))) then (p.Live,0) else ([],206))
 else ([],206)
theorem s_edge (m:Model) (hm:fewM m) (e:Event) {p q:Place} (hp:at_ m.Places e.Node=some p) (hq:at_ m.Places e.Peer=some q):Zak e m.Places=some (Zmn m.Places p e):=by
 have hl:=(hm.2 p (Zdn hp)).1
 have hb:Zln m.Places e=decide (e.Node∈q.Live):=by unfold Zln;rw [hq]
 simp only [Zak,hp,Option.bind_some,s_mlive m hm e.Node e.Peer hp,s_mlive m hm e.Peer e.Node hq,←hb]
 have e2:∀(l:List Int) z,Z6k (l,z)=some (if z then (l,0) else ([],206)):=fun l z=>by
  simp only [Z6k];cases z<;>rfl
 simp only [Z9k,Z7k,Z8k,s_Add p.Live e.Peer (by omega),s_Del p.Live e.Peer (by omega),s_uses m hm,Option.bind_some,e2,Zmn]
 by_cases h6:e.Kind=6
 ·simp only [h6,decide_true,Ze6,if_true]
  cases decide (e.Peer∈p.Live)<;>cases (Zln m.Places e==decide (e.Node<e.Peer))<;>simp
 ·by_cases h7:e.Kind=7
  ·simp only [h7,decide_true,Ze6,if_true]
   cases decide (e.Peer∈p.Live)<;>cases Zln m.Places e<;>cases decide (e.Node<e.Peer)<;>simp
  ·by_cases h8:e.Kind=8
   ·simp only [h8,decide_true,Ze6,if_true]
    cases decide (e.Peer∈p.Live)<;>cases Zln m.Places e<;>cases decide (e.Node<e.Peer)<;>cases Zfn m.Places e.Node e.Peer<;>cases Zfn m.Places e.Peer e.Node<;>simp
   ·simp [h6,h7,h8]
def Znn (P:List Place) (p:Place) (e:Event):Book×Int:=
 if (Zlh p.Book).2.2=0 then (if (Zlh p.Book).2.1=e.ID then (match (Zlh p.Book).1.Sess with
  | s::_=>if s.Need.any (fun q=>Zfn P q e.Node) then (Z4h,203) else ((Zlh p.Book).1,0)
  | []=>(Z4h,203)) else (Z4h,203)) else (Z4h,203)
theorem Zon {b:Book} (h:(Zlh b).2.2=0):Z8h b=true∧∃s l,b.Sess=s::l∧s.State≠1∧Zlh b=(⟨b.Last,⟨s.ID,s.Need,1,s.Age⟩::l⟩,s.ID,0):=by
 unfold Zlh at h ⊢
 cases hk:Z8h b
 ·rw [hk] at h;simp at h
 ·rw [hk] at h
  simp only [if_true] at h ⊢
  refine ⟨trivial,?_⟩
  cases hs:b.Sess with
  | nil=>rw [hs] at h;simp at h
  | cons s l=>
    rw [hs] at h
    simp only at h ⊢
    by_cases h1:s.State=1
    ·rw [if_pos h1] at h;simp at h
    ·exact ⟨s,l,rfl,h1,by rw [if_neg h1]⟩
theorem s_grantM (m:Model) (hm:fewM m) (e:Event) {p:Place} (hp:at_ m.Places e.Node=some p):Z3l e m.Places=some (Znn m.Places p e):=by
 have hl:=hm.2 p (Zdn hp)
 simp only [Z3l,hp,Option.bind_some,s_Grant p.Book hl.2,Z2l,Znn]
 by_cases h1:(Zlh p.Book).2.2=0
 ·by_cases h2:(Zlh p.Book).2.1=e.ID
  ·obtain ⟨_,s,l,hs,_,hg⟩:=Zon h1
   have hsm:s∈p.Book.Sess:=by rw [hs];simp
   simp only [h1,h2,decide_true,Bool.not_true,Zf6,if_true]
   rw [hg]
   dsimp only
   rw [show at_ ((⟨s.ID,s.Need,1,s.Age⟩:Sess)::l) 0=some ⟨s.ID,s.Need,1,s.Age⟩ from rfl,Option.bind_some]
   dsimp only
   rw [Zwa s.Need _ (fun q=>Zfn m.Places q e.Node) (by have:=hl.2.2 s hsm;omega) (fun q _=>by simp only [Zgj,s_uses m hm,Option.bind_some]),Option.bind_some]
   cases s.Need.any (fun q=>Zfn m.Places q e.Node)<;>rfl
  ·simp [h1,h2,Z4h]
 ·simp [h1,Z4h]
def endR (r:Book×Int):Book×Int:=if r.2=0 then (r.1,0) else (Z4h,204)
def Zpn (P:List Place) (p:Place) (e:Event):Book×Int:=
 if e.Kind=0 then (if (Zkh p.Book e.ID e.Need).2=0 then (if e.Need.all (fun z=>decide (z∈p.Live)) then Zkh p.Book e.ID e.Need else (Z4h,202)) else Zkh p.Book e.ID e.Need)
 else if e.Kind=1 then Znn P p e
 else if e.Kind=2 then endR (Zmh p.Book e.ID 1)
 else if e.Kind=4 then endR (Zmh p.Book e.ID 1)
 else if e.Kind=5 then (if e.ID∈Zgn p then endR (Zmh p.Book e.ID 0) else (Z4h,205))
 else if e.Kind=3 then endR (Zmh p.Book e.ID 0)
 else (p.Book,0)
theorem s_session (m:Model) (hm:fewM m) (e:Event) (he:e.Need.length≤1000000) {p:Place} (hp:at_ m.Places e.Node=some p):Zgl e m.Places=some (Zpn m.Places p e):=by
 have hl:=hm.2 p (Zdn hp)
 have hd:(Zgn p).length≤1000000:=Nat.le_trans (Zhn _ _) hl.2.1
 have e1:∀r:Book×Int,Z9l (r.2,r.1)=some (endR r):=fun r=>by
  simp only [Z9l,endR]
  by_cases h:r.2=0<;>simp [h,Z4h]
 simp only [Zgl,hp,s_Due4 m hm,Option.bind_some,Zpn]
 by_cases h0:e.Kind=0
 ·simp only [h0,decide_true,Ze6,if_true,Zfl,s_Open p.Book e.ID e.Need hl.2 he,Option.bind_some,s_Within e.Need p.Live he (by omega),Zel]
  generalize Zkh p.Book e.ID e.Need=r
  obtain ⟨r1,r2⟩:=r
  by_cases h1:r2=0
  ·cases h2:e.Need.all fun z=>decide (z∈p.Live)<;>simp [h1,Z4h]
  ·simp [h1]
 rw [decide_eq_false h0,Zf6,if_neg h0]
 by_cases h1:e.Kind=1
 ·simp only [h1,decide_true,Ze6,if_true,Zdl,s_grantM m hm e hp,Option.bind_some]
 rw [decide_eq_false h1,Zf6,if_neg h1]
 by_cases h2:e.Kind=2
 ·simp only [h2,decide_true,Ze6,if_true,Zcl,s_Release p.Book e.ID hl.2,Option.bind_some,e1]
 rw [decide_eq_false h2,Zf6,if_neg h2]
 by_cases h4:e.Kind=4
 ·simp only [h4,decide_true,Ze6,if_true,Zcl,s_Release p.Book e.ID hl.2,Option.bind_some,e1]
 rw [decide_eq_false h4,Zf6,if_neg h4]
 by_cases h5:e.Kind=5
 ·simp only [h5,decide_true,Ze6,if_true,Zbl,Zal,Zyd (Zgn p) e.ID hd,s_Cancel p.Book e.ID hl.2,Option.bind_some,e1]
  by_cases h6:e.ID∈Zgn p<;>simp [h6,Z4h]
 rw [decide_eq_false h5,Zf6,if_neg h5]
 by_cases h3:e.Kind=3
 ·simp only [h3,decide_true,Ze6,if_true,Zal,s_Cancel p.Book e.ID hl.2,Option.bind_some,e1]
 rw [decide_eq_false h3,Zf6,if_neg h3]
 rfl
def doP (m:Model) (p:Place) (e:Event):Model×Int:=
 if ofE e then (if (Zmn m.Places p e).2=0 then (⟨m.Places.set e.Node.toNat ⟨p.Book,(Zmn m.Places p e).1⟩⟩,0) else (⟨[]⟩,(Zmn m.Places p e).2))
 else (if (Zpn m.Places p e).2=0 then (⟨m.Places.set e.Node.toNat ⟨(Zpn m.Places p e).1,p.Live⟩⟩,0) else (⟨[]⟩,(Zpn m.Places p e).2))
def Zqn (m:Model) (e:Event):Model×Int:=
 if okM m then
  match at_ m.Places e.Node with
  | none=>(⟨[]⟩,201)
  | some p=>
    if ofE e&&(!(at_ m.Places e.Peer).isSome||decide (e.Peer=e.Node)) then (⟨[]⟩,201)
    else if !decide (e.Kind=5)&&decide (Zgn p≠ []) then (⟨[]⟩,205)
    else if decide (e.Kind<0)||decide (8<e.Kind) then (⟨[]⟩,207)
    else doP m p e
 else (⟨[]⟩,200)
theorem s_Step (m:Model) (hm:fewM m) (e:Event) (he:e.Need.length≤1000000):Z4m m e=some (Zqn m e):=by
 have jb:∀z w,w≠0→Zzl m e z w=some (⟨[]⟩,w):=fun z w hw=>by
  simp only [Zzl,hw,decide_false,Bool.not_false,Ze6]
 have j1:Z4m m e=Z3m m e (if okM m then 0 else 200) (ofE e):=by
  simp only [Z4m,s_mCheck m hm,Option.bind_some,ofE]
  by_cases h6:e.Kind=6
  ·simp [h6]
  ·by_cases h7:e.Kind=7
   ·simp [h7]
   ·simp [h6,h7]
 rw [j1]
 unfold Zqn
 cases hk:okM m
 ·simp only [Z3m,Bool.false_eq_true,if_false]
  rw [show (!decide ((200:Int)=0))=true from rfl,Ze6,jb _ _ (by omega)]
 ·simp only [if_true]
  have j3:∀x3,Z2m m e x3 (ofE e) true=some (⟨[]⟩,201):=fun x3=>by
   simp only [Z2m,Ze6,jb _ 201 (by omega)]
  simp only [Z3m,decide_true,Bool.not_true,Zf6,Zen,Option.bind_some]
  cases hp:at_ m.Places e.Node with
  | none=>simp only [Option.isSome_none,Bool.not_false,Ze6,j3]
  | some p=>
    simp only [Option.isSome_some,Bool.not_true,Zf6]
    have hl:=hm.2 p (Zdn hp)
    have rest:(ofE e=true→∃q,at_ m.Places e.Peer=some q)→Z2m m e 0 (ofE e) false=some (if !decide (e.Kind=5)&&decide (Zgn p≠ []) then (⟨[]⟩,205) else if decide (e.Kind<0)||decide (8<e.Kind) then (⟨[]⟩,207) else doP m p e):=by
     intro hq
     have j2:Zzl m e (ofE e) 0=some (doP m p e):=by
      have j6:∀(w:Int) (l:List Place),Zyl (w,l)=some (if w=0 then (⟨l⟩,0) else (⟨[]⟩,w)):=fun w l=>by
       simp only [Zyl]
       by_cases h:w=0<;>simp [h]
      simp only [Zzl,decide_true,Bool.not_true,Zf6,s_mown m hm,Option.bind_some,hp,j6,doP]
      cases ho:ofE e
      ·rw [Zf6,s_session m hm e he hp,Option.bind_some];rfl
      ·obtain ⟨q,hq⟩:=hq ho
       rw [Ze6,s_edge m hm e hp hq,Option.bind_some];rfl
     have j5:∀z,Z0m m e 0 (ofE e) z=some (if z then (⟨[]⟩,207) else doP m p e):=fun z=>by
      simp only [Z0m,j2,jb _ 207 (by omega)]
      cases z<;>rfl
     have j4:∀z,Z1m m e 0 (ofE e) z=some (if z then (⟨[]⟩,205) else if decide (e.Kind<0)||decide (8<e.Kind) then (⟨[]⟩,207) else doP m p e):=fun z=>by
      simp only [Z1m,j5,jb _ 205 (by omega)]
      cases z
      ·cases decide (e.Kind<0)<;>simp
      ·rfl
     simp only [Z2m,Zf6,s_Due m hm,hp,Option.bind_some,j4,Zd5]
     have e0:decide ((0:Int)<((Zgn p).length:Nat))=decide (Zgn p≠ []):=by
      rw [decide_eq_decide]
      cases Zgn p<;>simp<;>omega
     rw [e0]
     cases decide (e.Kind=5)<;>simp
    cases ho:ofE e
    ·rw [ho] at rest
     rw [Zf6,Bool.false_and,if_neg (by simp),rest (by simp)]
    ·rw [ho] at rest j3
     rw [Ze6,Bool.true_and]
     cases hq:at_ m.Places e.Peer with
     | none=>simp only [Option.isSome_none,Bool.not_false,Ze6,j3,Bool.true_or,if_true]
     | some q=>
       simp only [Option.isSome_some,Bool.not_true,Zf6,Bool.false_or]
       by_cases hpn:e.Peer=e.Node
       ·simp only [hpn,decide_true,j3,if_true]
       ·simp only [hpn,decide_false,Bool.false_eq_true,if_false]
        exact rest fun _=>⟨q,hq⟩
set_option maxRecDepth 100000
set_option maxHeartbeats 4000000
@[go_sem] def e7_L0:EC:=.seq (.reg [(Qa 21 (.bin .lss (.t 20) (.t 19)))]) (.seq (.ite (.t 21) (.skip) (.exit 0)) (.seq (.blk 1 (.seq (.reg [(Qm 22 20),(Qk 23 5 18 20),(Qe 24 5 23),(Qa 9 (.alloc 42 [.iv 0,.iv 0,.iv 0,.iv 0,.nl])),(Qm 8 22),(Qs 5 9 24)]) (.seq (.reg [(Qe 26 1 6),(Qe 27 5 9),(Qa 28 (.call 17 [(.t 26),(.t 27)])),(Qm 25 28),(Qa 29 (.ext (.t 25) 0)),(Qa 30 (.ext (.t 25) 1)),(Qs 1 6 29),(Qm 7 30)]) (.seq (.reg [(Qm 31 7),(Qa 32 (.bin .neq (.t 31) (.c (.iv 0))))]) (.ite (.t 32) (.seq (.reg [(Qm 33 8),(Qm 34 7),(Qm 4 33),(Qm 5 34)]) (.ret)) (.skip)))))) (.reg [(Qv 35 20 1),(Qm 20 35)])))
@[go_sem] def e7:EC:=.seq (.reg [(Qx 2 24 2 0),(Qi 4 0),(Qi 5 0)]) (.seq (.reg [(Qe 11 2 2),(Qa 12 (.call 12 [(.t 11)])),(Qm 10 12),(Qa 13 (.ext (.t 10) 0)),(Qa 14 (.ext (.t 10) 1)),(Qa 6 (.alloc 35 [.nl])),(Qs 1 6 13),(Qm 7 14)]) (.seq (.seq (.reg [(Qm 15 7),(Qa 16 (.bin .neq (.t 15) (.c (.iv 0))))]) (.ite (.t 16) (.seq (.reg [(Qm 17 7),(Qi 4 0),(Qm 5 17)]) (.ret)) (.skip))) (.seq (.seq (.reg [(Qm 18 1),(Qa 19 (.len (.t 18))),(Qi 20 0)]) (.blk 0 (.loop e7_L0))) (.seq (.reg [(Qm 36 1),(Qa 37 (.len (.t 36))),(Qm 4 37),(Qi 5 0)]) (.ret)))))
theorem ok7:FnOK Tryz.prog 7 Tryz.f7 e7 [.t 4,.t 5] 2 36:=⟨by kernel_rfl,⟨_,rfl,by kernel_rfl⟩,by kernel_rfl,by kernel_rfl⟩
noncomputable def Zrn (x2:(List Event)):Unit→Option (Int×Int)
| ()=>
 some (ln Event.row x2,0)
noncomputable def Zsn (x2:(List Event)):(Int×(List Place))→Option ((Int×(List Place)) ⊕ (Int×Int))
| (x8,x9)=>
 ifb (decide (x8<(ln Event.row x2))) (
 (at_ x2 x8).bind fun x10=>
 (Z4m ((Model.mk x9)) x10).bind fun x11=>
 ifb (!decide (x11.2=0)) (
 Option.map Sum.inr (some (x8,x11.2))) (
 some (.inl (wr (x8+1),x11.1.Places)))) (
 Option.map Sum.inr ((Zrn x2) ()))
noncomputable def Ztn (x1:Graph) (x2:(List Event)):Option (Int×Int):=
 (Zmm x1).bind fun x3=>
 ifb (!decide (x3.2=0)) (
 some (0,x3.2)) (
 loop (Zsn x2) (0,x3.1.Places))
theorem Zun (x1:Graph) (x2:(List Event)) (r:(Int×Int)) (h:Ztn x1 x2=some r):Zy2 Tryz.prog 7 [.agg (Graph.row x1),.sl 5 (List.map Event.row x2)] (.tup [.iv r.1,.iv r.2]):=by
 refine Z23 ok7 rfl rfl fun w0 H0=>?_
 rw [Ztn] at h
 refine Zt2 9 ?_;dsimp only [go_sem];refine An ?_;obtain ⟨x3,ex3,h⟩:=Bs h;refine Z73 trivial (Znm x1 _ ex3) (h:=?_);refine Zt2 13 ?_;dsimp only [go_sem];refine An ?_;refine Zw4 h rfl (fun _ h=>?_) fun _ h=>?_
 ·refine Zt2 6 ?_;dsimp only [go_sem];refine An ?_;exact Z45 (res:=fun (r:(Int×Int))=>.tup [.iv r.1,.iv r.2]) ok7 h
 ·refine Zt2 8 ?_;dsimp only [go_sem];refine An ?_;refine Zu4 (fun (_:Unit)=>(⟨(.any :: .sl 5 (List.map Event.row x2)::an 36 []),[],[]⟩:St)) (Zrn x2) r ?_ fun J1=>?_
  ·rintro ⟨⟩ h;rw [Zrn] at h;(try dsimp only);refine Zt2 7 ?_;dsimp only [go_sem];refine An ?_;exact Z45 (res:=fun (r:(Int×Int))=>.tup [.iv r.1,.iv r.2]) ok7 h
  ·refine Zt2 1 ?_;dsimp only [go_sem];refine An ?_;refine Zv4 h (fun ((x8,x9):(Int×(List Place)))=>(⟨(.any :: .sl 5 (List.map Event.row x2)::an 4 (.ptr 1 0::an 11 (.sl 5 (List.map Event.row x2) :: .iv (ln Event.row x2) :: .iv x8::an 17 []))),[none,some ⟨35,[.sl 3 (List.map Place.row x9)]⟩],[]⟩:St)) (by simp [go_sem]) (by rintro ⟨x8,x9⟩;first | rfl | simp [go_sem]) ?_;rintro n1 ⟨x8,x9⟩ y1 h hin1 hout1;rw [Zsn] at h;(try dsimp only);refine Zt2 5 ?_;dsimp only [go_sem];refine An ?_;refine Zw4 h rfl (fun _ h=>?_) fun _ h=>?_
   ·refine Zt2 6 ?_;dsimp only [go_sem];refine An ?_;obtain ⟨x10,ex10,h⟩:=Bs h;refine Zz4 Event.row ex10 trivial rfl rfl rfl ?_;refine Zt2 9 ?_;dsimp only [go_sem];refine An ?_;obtain ⟨x11,ex11,h⟩:=Bs h;refine Z73 trivial (Z5m ((Model.mk x9)) x10 _ ex11) (h:=?_);refine Zt2 11 ?_;dsimp only [go_sem];refine An ?_;refine Zw4 h rfl (fun _ h=>?_) fun _ h=>?_
    ·refine Zt2 7 ?_;dsimp only [go_sem];refine An ?_;exact Z45 (res:=fun (r:(Int×Int))=>.tup [.iv r.1,.iv r.2]) ok7 (Zt4 h hout1)
    ·refine Zt2 6 ?_;dsimp only [go_sem];refine An ?_;exact Z55 h hin1
   ·refine Zt2 1 ?_;dsimp only [go_sem];refine An ?_;exact Z65 J1 (s:=()) (Zt4 h hout1)
def Zvn (_F:Nat) (x2:(List Event)):Unit→Option (Int×Int)
| ()=>
 some (ln Event.row x2,0)
theorem Zwn {F:Nat} {x2:(List Event)}:∀s,ole (Zvn F x2 s) (Zrn x2 s):=by
 rintro ⟨⟩
 unfold Zvn Zrn
 try dsimp only
 with_reducible repeat' first | exact Zn4 _ | assumption | intro _ | refine Zo4 ?_ ?_ | refine Zp4 ?_ ?_ | refine Zq4 ?_ | refine Zs4 ?_
def Zxn (F:Nat) (x2:(List Event)):(Int×(List Place))→Option ((Int×(List Place)) ⊕ (Int×Int))
| (x8,x9)=>
 ifb (decide (x8<(ln Event.row x2))) (
 (at_ x2 x8).bind fun x10=>
 (Zim F ((Model.mk x9)) x10).bind fun x11=>
 ifb (!decide (x11.2=0)) (
 Option.map Sum.inr (some (x8,x11.2))) (
 some (.inl (wr (x8+1),x11.1.Places)))) (
 Option.map Sum.inr ((Zvn F x2) ()))
theorem Zyn {F:Nat} {x2:(List Event)}:∀s,ole (Zxn F x2 s) (Zsn x2 s):=by
 rintro ⟨x8,x9⟩
 unfold Zxn Zsn
 try dsimp only
 with_reducible repeat' first | exact Zn4 _ | assumption | intro _ | refine Zo4 ?_ ?_ | refine Zp4 ?_ ?_ | refine Zq4 ?_ | refine Zs4 ?_ | apply Zwn | apply Zjm
def Zzn (F:Nat) (x1:Graph) (x2:(List Event)):Option (Int×Int):=
 (Zsm F x1).bind fun x3=>
 ifb (!decide (x3.2=0)) (
 some (0,x3.2)) (
 Zr4 F (Zxn F x2) (0,x3.1.Places))
theorem Z0o {F:Nat} {x1:Graph} {x2:(List Event)}:ole (Zzn F x1 x2) (Ztn x1 x2):=by
 unfold Zzn Ztn
 with_reducible repeat' first | exact Zn4 _ | assumption | intro _ | refine Zo4 ?_ ?_ | refine Zp4 ?_ ?_ | refine Zq4 ?_ | refine Zs4 ?_ | apply Zwn | apply Zjm | apply Zyn | apply Ztm
set_option maxRecDepth 100000
set_option maxHeartbeats 4000000
@[go_sem] def e58_L0:EC:=.seq (.reg [(Qa 18 (.bin .lss (.t 17) (.t 16)))]) (.seq (.ite (.t 18) (.skip) (.exit 0)) (.seq (.blk 1 (.seq (.reg [(Qm 19 17),(Qk 20 3 15 17),(Qe 21 3 20),(Qa 8 (.alloc 69 [.iv 0,.nl,.nl])),(Qm 7 19),(Qs 3 8 21)]) (.seq (.reg [(Qm 22 1),(Qm 23 7),(Qk 24 3 22 23),(Qe 25 3 24),(Qa 9 (.alloc 69 [.iv 0,.nl,.nl])),(Qs 3 9 25)]) (.seq (.reg [(Qm 26 2),(Qe 27 3 8),(Qe 28 3 9),(Qa 29 (.callv (.t 26) [(.t 27),(.t 28)])),(Qa 30 (.not (.t 29)))]) (.ite (.t 30) (.seq (.reg [(Qa 6 (.mv (.c .ff)))]) (.ret)) (.skip)))))) (.reg [(Qv 31 17 1),(Qm 17 31)])))
@[go_sem] def e58:EC:=.seq (.reg [(Qa 6 (.mv (.c .ff)))]) (.seq (.seq (.reg [(Qm 10 0),(Qa 11 (.len (.t 10))),(Qm 12 1),(Qa 13 (.len (.t 12))),(Qa 14 (.bin .neq (.t 11) (.t 13)))]) (.ite (.t 14) (.seq (.reg [(Qa 6 (.mv (.c .ff)))]) (.ret)) (.skip))) (.seq (.seq (.reg [(Qm 15 0),(Qa 16 (.len (.t 15))),(Qi 17 0)]) (.blk 0 (.loop e58_L0))) (.seq (.reg [(Qa 6 (.mv (.c .tt)))]) (.ret))))
theorem ok58:FnOK Tryz.prog 58 Tryz.f58 e58 [.t 6] 3 29:=⟨by kernel_rfl,⟨_,rfl,by kernel_rfl⟩,by kernel_rfl,by kernel_rfl⟩
noncomputable def Z1o:Unit→Option Bool
| ()=>
 some true
noncomputable def Z2o (x1:(List Place)) (x2:(List Place)) (p2:((Place×Place)→Option Bool)):Int→Option (Int ⊕ Bool)
| x7=>
 ifb (decide (x7<(ln Place.row x1))) (
 (at_ x1 x7).bind fun x8=>
 (at_ x2 x7).bind fun x9=>
 (p2 (x8,x9)).bind fun x10=>
 ifb (!x10) (
 Option.map Sum.inr (some false)) (
 some (.inl (wr (x7+1))))) (
 Option.map Sum.inr (Z1o ()))
noncomputable def Z3o (x1:(List Place)) (x2:(List Place)) (p2:((Place×Place)→Option Bool)):Option Bool:=
 ifb (!decide ((ln Place.row x1)=(ln Place.row x2))) (
 some false) (
 loop (Z2o x1 x2 p2) 0)
theorem Z4o (x1:(List Place)) (x2:(List Place)) (g2:Nat) (caps2:List AV) (p2:((Place×Place)→Option Bool)) (hc2:CloOK Tryz.prog g2 caps2 (fun z=>[.agg (Place.row z.1),.agg (Place.row z.2)]) p2 (fun z=>.bv z)) (r:Bool) (h:Z3o x1 x2 p2=some r):Zy2 Tryz.prog 58 [.sl 3 (List.map Place.row x1),.sl 3 (List.map Place.row x2),.clo g2 caps2] (.bv r):=by
 refine Z23 ok58 rfl rfl fun w0 H0=>?_
 rw [Z3o] at h
 refine Zt2 13 ?_;dsimp only [go_sem];refine An ?_;refine Zw4 h rfl (fun _ h=>?_) fun _ h=>?_
 ·refine Zt2 4 ?_;dsimp only [go_sem];refine An ?_;exact Z45 (res:=fun (r:Bool)=>.bv r) ok58 h
 ·refine Zt2 8 ?_;dsimp only [go_sem];refine An ?_;refine Zu4 (fun (_:Unit)=>(⟨(an 32 []),[],[]⟩:St)) Z1o r ?_ fun J1=>?_
  ·rintro ⟨⟩ h;rw [Z1o] at h;(try dsimp only);refine Zt2 4 ?_;dsimp only [go_sem];refine An ?_;exact Z45 (res:=fun (r:Bool)=>.bv r) ok58 h
  ·refine Zt2 1 ?_;dsimp only [go_sem];refine An ?_;refine Zv4 h (fun (x7:Int)=>(⟨(.any :: .sl 3 (List.map Place.row x2) :: .clo g2 caps2::an 12 (.sl 3 (List.map Place.row x1) :: .iv (ln Place.row x1) :: .iv x7::an 14 [])),[],[]⟩:St)) (by simp [go_sem]) (by intro x7;first | rfl | simp [go_sem,Zf4 _ hc2.pu]) ?_;rintro n1 x7 y1 h hin1 hout1;rw [Z2o] at h;(try dsimp only);refine Zt2 5 ?_;dsimp only [go_sem];refine An ?_;refine Zw4 h rfl (fun _ h=>?_) fun _ h=>?_
   ·refine Zt2 6 ?_;dsimp only [go_sem];refine An ?_;obtain ⟨x8,ex8,h⟩:=Bs h;refine Zz4 Place.row ex8 trivial rfl rfl rfl ?_;refine Zt2 9 ?_;dsimp only [go_sem];refine An ?_;obtain ⟨x9,ex9,h⟩:=Bs h;refine Zz4 Place.row ex9 trivial rfl rfl rfl ?_;refine Zt2 9 ?_;dsimp only [go_sem];refine An ?_;obtain ⟨x10,ex10,h⟩:=Bs h;refine Za5 trivial rfl hc2 (x:=(x8,x9)) ex10 (by first | exact Zg4 _ | simp [go_sem]) (by first | rfl | simp [go_sem,hc2.pu]) ?_;refine Zt2 2 ?_;dsimp only [go_sem];refine An ?_
    refine Zw4 h rfl (fun _ h=>?_) fun _ h=>?_
    ·refine Zt2 4 ?_;dsimp only [go_sem];refine An ?_;exact Z45 (res:=fun (r:Bool)=>.bv r) ok58 (Zt4 h hout1)
    ·refine Zt2 6 ?_;dsimp only [go_sem];refine An ?_;exact Z55 h hin1 (hok:=by first | rfl | simp [go_sem,Zf4 _ hc2.pu])
   ·refine Zt2 1 ?_;dsimp only [go_sem];refine An ?_;exact Z65 J1 (s:=()) (Zt4 h hout1) (hok:=by first | rfl | simp [go_sem,Zf4 _ hc2.pu])
def Z5o (_F:Nat):Unit→Option Bool
| ()=>
 some true
theorem Z6o {F:Nat}:∀s,ole (Z5o F s) (Z1o s):=by
 rintro ⟨⟩
 unfold Z5o Z1o
 try dsimp only
 with_reducible repeat' first | exact Zn4 _ | assumption | intro _ | refine Zo4 ?_ ?_ | refine Zp4 ?_ ?_ | refine Zq4 ?_ | refine Zs4 ?_ | apply h_p2
def Z7o (F:Nat) (x1:(List Place)) (x2:(List Place)) (p2:((Place×Place)→Option Bool)):Int→Option (Int ⊕ Bool)
| x7=>
 ifb (decide (x7<(ln Place.row x1))) (
 (at_ x1 x7).bind fun x8=>
 (at_ x2 x7).bind fun x9=>
 (p2 (x8,x9)).bind fun x10=>
 ifb (!x10) (
 Option.map Sum.inr (some false)) (
 some (.inl (wr (x7+1))))) (
 Option.map Sum.inr (Z5o F ()))
theorem Z8o {F:Nat} {x1:(List Place)} {x2:(List Place)} {p2 q2:((Place×Place)→Option Bool)} (h_p2:∀z,ole (p2 z) (q2 z)):∀s,ole (Z7o F x1 x2 p2 s) (Z2o x1 x2 q2 s):=by
 intro x7
 unfold Z7o Z2o
 try dsimp only
 with_reducible repeat' first | exact Zn4 _ | assumption | intro _ | refine Zo4 ?_ ?_ | refine Zp4 ?_ ?_ | refine Zq4 ?_ | refine Zs4 ?_ | apply Z6o | apply h_p2
def Z9o (F:Nat) (x1:(List Place)) (x2:(List Place)) (p2:((Place×Place)→Option Bool)):Option Bool:=
 ifb (!decide ((ln Place.row x1)=(ln Place.row x2))) (
 some false) (
 Zr4 F (Z7o F x1 x2 p2) 0)
theorem Zao {F:Nat} {x1:(List Place)} {x2:(List Place)} {p2 q2:((Place×Place)→Option Bool)} (h_p2:∀z,ole (p2 z) (q2 z)):ole (Z9o F x1 x2 p2) (Z3o x1 x2 q2):=by
 unfold Z9o Z3o
 with_reducible repeat' first | exact Zn4 _ | assumption | intro _ | refine Zo4 ?_ ?_ | refine Zp4 ?_ ?_ | refine Zq4 ?_ | refine Zs4 ?_ | apply Z6o | apply Z8o | apply h_p2
set_option maxRecDepth 100000
set_option maxHeartbeats 4000000
@[go_sem] def e93_L0:EC:=.seq (.reg [(Qa 18 (.bin .lss (.t 17) (.t 16)))]) (.seq (.ite (.t 18) (.skip) (.exit 0)) (.seq (.blk 1 (.seq (.reg [(Qm 19 17),(Qk 20 4 15 17),(Qe 21 4 20),(Qa 8 (.alloc 74 [.iv 0,.nl,.iv 0,.iv 0])),(Qm 7 19),(Qs 4 8 21)]) (.seq (.reg [(Qm 22 1),(Qm 23 7),(Qk 24 4 22 23),(Qe 25 4 24),(Qa 9 (.alloc 74 [.iv 0,.nl,.iv 0,.iv 0])),(Qs 4 9 25)]) (.seq (.reg [(Qm 26 2),(Qe 27 4 8),(Qe 28 4 9),(Qa 29 (.callv (.t 26) [(.t 27),(.t 28)])),(Qa 30 (.not (.t 29)))]) (.ite (.t 30) (.seq (.reg [(Qa 6 (.mv (.c .ff)))]) (.ret)) (.skip)))))) (.reg [(Qv 31 17 1),(Qm 17 31)])))
@[go_sem] def e93:EC:=.seq (.reg [(Qa 6 (.mv (.c .ff)))]) (.seq (.seq (.reg [(Qm 10 0),(Qa 11 (.len (.t 10))),(Qm 12 1),(Qa 13 (.len (.t 12))),(Qa 14 (.bin .neq (.t 11) (.t 13)))]) (.ite (.t 14) (.seq (.reg [(Qa 6 (.mv (.c .ff)))]) (.ret)) (.skip))) (.seq (.seq (.reg [(Qm 15 0),(Qa 16 (.len (.t 15))),(Qi 17 0)]) (.blk 0 (.loop e93_L0))) (.seq (.reg [(Qa 6 (.mv (.c .tt)))]) (.ret))))
theorem ok93:FnOK Tryz.prog 93 Tryz.f93 e93 [.t 6] 3 29:=⟨by kernel_rfl,⟨_,rfl,by kernel_rfl⟩,by kernel_rfl,by kernel_rfl⟩
noncomputable def Zbo:Unit→Option Bool
| ()=>
 some true
noncomputable def Zco (x1:(List Sess)) (x2:(List Sess)) (p2:((Sess×Sess)→Option Bool)):Int→Option (Int ⊕ Bool)
| x7=>
 ifb (decide (x7<(ln Sess.row x1))) (
 (at_ x1 x7).bind fun x8=>
 (at_ x2 x7).bind fun x9=>
 (p2 (x8,x9)).bind fun x10=>
 ifb (!x10) (
 Option.map Sum.inr (some false)) (
 some (.inl (wr (x7+1))))) (
 Option.map Sum.inr (Zbo ()))
noncomputable def Zdo (x1:(List Sess)) (x2:(List Sess)) (p2:((Sess×Sess)→Option Bool)):Option Bool:=
 ifb (!decide ((ln Sess.row x1)=(ln Sess.row x2))) (
 some false) (
 loop (Zco x1 x2 p2) 0)
theorem Zeo (x1:(List Sess)) (x2:(List Sess)) (g2:Nat) (caps2:List AV) (p2:((Sess×Sess)→Option Bool)) (hc2:CloOK Tryz.prog g2 caps2 (fun z=>[.agg (Sess.row z.1),.agg (Sess.row z.2)]) p2 (fun z=>.bv z)) (r:Bool) (h:Zdo x1 x2 p2=some r):Zy2 Tryz.prog 93 [.sl 4 (List.map Sess.row x1),.sl 4 (List.map Sess.row x2),.clo g2 caps2] (.bv r):=by
 refine Z23 ok93 rfl rfl fun w0 H0=>?_
 rw [Zdo] at h
 refine Zt2 13 ?_;dsimp only [go_sem];refine An ?_;refine Zw4 h rfl (fun _ h=>?_) fun _ h=>?_
 ·refine Zt2 4 ?_;dsimp only [go_sem];refine An ?_;exact Z45 (res:=fun (r:Bool)=>.bv r) ok93 h
 ·refine Zt2 8 ?_;dsimp only [go_sem];refine An ?_;refine Zu4 (fun (_:Unit)=>(⟨(an 32 []),[],[]⟩:St)) Zbo r ?_ fun J1=>?_
  ·rintro ⟨⟩ h;rw [Zbo] at h;(try dsimp only);refine Zt2 4 ?_;dsimp only [go_sem];refine An ?_;exact Z45 (res:=fun (r:Bool)=>.bv r) ok93 h
  ·refine Zt2 1 ?_;dsimp only [go_sem];refine An ?_;refine Zv4 h (fun (x7:Int)=>(⟨(.any :: .sl 4 (List.map Sess.row x2) :: .clo g2 caps2::an 12 (.sl 4 (List.map Sess.row x1) :: .iv (ln Sess.row x1) :: .iv x7::an 14 [])),[],[]⟩:St)) (by simp [go_sem]) (by intro x7;first | rfl | simp [go_sem,Zf4 _ hc2.pu]) ?_;rintro n1 x7 y1 h hin1 hout1;rw [Zco] at h;(try dsimp only);refine Zt2 5 ?_;dsimp only [go_sem];refine An ?_;refine Zw4 h rfl (fun _ h=>?_) fun _ h=>?_
   ·refine Zt2 6 ?_;dsimp only [go_sem];refine An ?_;obtain ⟨x8,ex8,h⟩:=Bs h;refine Zz4 Sess.row ex8 trivial rfl rfl rfl ?_;refine Zt2 9 ?_;dsimp only [go_sem];refine An ?_;obtain ⟨x9,ex9,h⟩:=Bs h;refine Zz4 Sess.row ex9 trivial rfl rfl rfl ?_;refine Zt2 9 ?_;dsimp only [go_sem];refine An ?_;obtain ⟨x10,ex10,h⟩:=Bs h;refine Za5 trivial rfl hc2 (x:=(x8,x9)) ex10 (by first | exact Zg4 _ | simp [go_sem]) (by first | rfl | simp [go_sem,hc2.pu]) ?_;refine Zt2 2 ?_;dsimp only [go_sem];refine An ?_;refine Zw4 h rfl (fun _ h=>?_) fun _ h=>?_
    ·refine Zt2 4 ?_;dsimp only [go_sem];refine An ?_;exact Z45 (res:=fun (r:Bool)=>.bv r) ok93 (Zt4 h hout1)
    ·refine Zt2 6 ?_;dsimp only [go_sem];refine An ?_;exact Z55 h hin1 (hok:=by first | rfl | simp [go_sem,Zf4 _ hc2.pu])
   ·refine Zt2 1 ?_;dsimp only [go_sem];refine An ?_;exact Z65 J1 (s:=()) (Zt4 h hout1) (hok:=by first | rfl | simp [go_sem,Zf4 _ hc2.pu])
def Zfo (_F:Nat):Unit→Option Bool
| ()=>
 some true
theorem Zgo {F:Nat}:∀s,ole (Zfo F s) (Zbo s):=by
 rintro ⟨⟩
 unfold Zfo Zbo
 try dsimp only
 with_reducible repeat' first | exact Zn4 _ | assumption | intro _ | refine Zo4 ?_ ?_ | refine Zp4 ?_ ?_ | refine Zq4 ?_ | refine Zs4 ?_ | apply h_p2
def Zho (F:Nat) (x1:(List Sess)) (x2:(List Sess)) (p2:((Sess×Sess)→Option Bool)):Int→Option (Int ⊕ Bool)
| x7=>
 ifb (decide (x7<(ln Sess.row x1))) (
 (at_ x1 x7).bind fun x8=>
 (at_ x2 x7).bind fun x9=>
 (p2 (x8,x9)).bind fun x10=>
 ifb (!x10) (
 Option.map Sum.inr (some false)) (
 some (.inl (wr (x7+1))))) (
 Option.map Sum.inr (Zfo F ()))
theorem Zio {F:Nat} {x1:(List Sess)} {x2:(List Sess)} {p2 q2:((Sess×Sess)→Option Bool)} (h_p2:∀z,ole (p2 z) (q2 z)):∀s,ole (Zho F x1 x2 p2 s) (Zco x1 x2 q2 s):=by
 intro x7
 unfold Zho Zco
 try dsimp only
 with_reducible repeat' first | exact Zn4 _ | assumption | intro _ | refine Zo4 ?_ ?_ | refine Zp4 ?_ ?_ | refine Zq4 ?_ | refine Zs4 ?_ | apply Zgo | apply h_p2
def Zjo (F:Nat) (x1:(List Sess)) (x2:(List Sess)) (p2:((Sess×Sess)→Option Bool)):Option Bool:=
 ifb (!decide ((ln Sess.row x1)=(ln Sess.row x2))) (
 some false) (
 Zr4 F (Zho F x1 x2 p2) 0)
theorem Zko {F:Nat} {x1:(List Sess)} {x2:(List Sess)} {p2 q2:((Sess×Sess)→Option Bool)} (h_p2:∀z,ole (p2 z) (q2 z)):ole (Zjo F x1 x2 p2) (Zdo x1 x2 q2):=by
 unfold Zjo Zdo
 with_reducible repeat' first | exact Zn4 _ | assumption | intro _ | refine Zo4 ?_ ?_ | refine Zp4 ?_ ?_ | refine Zq4 ?_ | refine Zs4 ?_ | apply Zgo | apply Zio | apply h_p2
set_option maxRecDepth 100000
set_option maxHeartbeats 4000000
@[go_sem] def e61_L0:EC:=.seq (.reg [(Qa 14 (.bin .lss (.t 13) (.t 12)))]) (.seq (.ite (.t 14) (.skip) (.exit 0)) (.seq (.blk 1 (.seq (.reg [(Qm 15 13),(Qm 5 15)]) (.seq (.drw [(Qm 16 0),(Qm 17 5),(Qk 18 1 16 17),(Ql 19 18),(Qm 20 1),(Qm 21 5),(Qk 22 1 20 21),(Ql 23 22),(Qa 24 (.bin .neq (.t 19) (.t 23)))] [[],[],[0,1],[2],[],[],[4,5],[6],[3,7]] [[2],[2],[0,1,3],[2,8],[6],[6],[4,5,7],[6,8],[3,7]]) (.ite (.t 24) (.seq (.reg [(Qa 4 (.mv (.c .ff)))]) (.ret)) (.skip))))) (.reg [(Qv 25 13 1),(Qm 13 25)])))
@[go_sem] def e61:EC:=.seq (.reg [(Qa 4 (.mv (.c .ff)))]) (.seq (.seq (.reg [(Qm 6 0),(Qa 7 (.len (.t 6))),(Qm 8 1),(Qa 9 (.len (.t 8))),(Qa 10 (.bin .neq (.t 7) (.t 9)))]) (.ite (.t 10) (.seq (.reg [(Qa 4 (.mv (.c .ff)))]) (.ret)) (.skip))) (.seq (.seq (.reg [(Qm 11 0),(Qa 12 (.len (.t 11))),(Qi 13 0)]) (.blk 0 (.loop e61_L0))) (.seq (.reg [(Qa 4 (.mv (.c .tt)))]) (.ret))))
theorem ok61:FnOK Tryz.prog 61 Tryz.f61 e61 [.t 4] 2 24:=⟨by kernel_rfl,⟨_,rfl,by kernel_rfl⟩,by kernel_rfl,by kernel_rfl⟩
noncomputable def Zlo:Unit→Option Bool
| ()=>
 some true
noncomputable def Zmo (x1:(List Int)) (x2:(List Int)):Int→Option (Int ⊕ Bool)
| x6=>
 ifb (decide (x6<(ln Zb5 x1))) (
 (at_ x1 x6).bind fun x7=>
 (at_ x2 x6).bind fun x8=>
 ifb (!decide (x7=x8)) (
 Option.map Sum.inr (some false)) (
 some (.inl (wr (x6+1))))) (
 Option.map Sum.inr (Zlo ()))
noncomputable def Zno (x1:(List Int)) (x2:(List Int)):Option Bool:=
 ifb (!decide ((ln Zb5 x1)=(ln Zb5 x2))) (
 some false) (
 loop (Zmo x1 x2) 0)
theorem Zoo (x1:(List Int)) (x2:(List Int)) (r:Bool) (h:Zno x1 x2=some r):Zy2 Tryz.prog 61 [.sl 1 (List.map Zb5 x1),.sl 1 (List.map Zb5 x2)] (.bv r):=by
 refine Z23 ok61 rfl rfl fun w0 H0=>?_
 rw [Zno] at h
 refine Zt2 13 ?_;dsimp only [go_sem];refine An ?_;refine Zw4 h rfl (fun _ h=>?_) fun _ h=>?_
 ·refine Zt2 4 ?_;dsimp only [go_sem];refine An ?_;exact Z45 (res:=fun (r:Bool)=>.bv r) ok61 h
 ·refine Zt2 8 ?_;dsimp only [go_sem];refine An ?_;refine Zu4 (fun (_:Unit)=>(⟨(an 26 []),[],[]⟩:St)) Zlo r ?_ fun J1=>?_
  ·rintro ⟨⟩ h;rw [Zlo] at h;(try dsimp only);refine Zt2 4 ?_;dsimp only [go_sem];refine An ?_;exact Z45 (res:=fun (r:Bool)=>.bv r) ok61 h
  ·refine Zt2 1 ?_;dsimp only [go_sem];refine An ?_;refine Zv4 h (fun (x6:Int)=>(⟨(.sl 1 (List.map Zb5 x1) :: .sl 1 (List.map Zb5 x2)::an 10 (.iv (ln Zb5 x1) :: .iv x6::an 12 [])),[],[]⟩:St)) (by simp [go_sem]) (by intro x6;first | rfl | simp [go_sem]) ?_;rintro n1 x6 y1 h hin1 hout1;rw [Zmo] at h;(try dsimp only);refine Zt2 5 ?_;dsimp only [go_sem];refine An ?_;refine Zw4 h rfl (fun _ h=>?_) fun _ h=>?_
   ·refine Zt2 9 ?_;dsimp only [go_sem];refine An ?_;refine Zs3 (by kernel_rfl) fun all hall hs hnap haf=>?_;dsimp only [go_sem];refine Zp5 hall hs haf hnap 4 5 ?_;dsimp only [go_sem];refine An ?_;obtain ⟨x7,ex7,h⟩:=Bs h;refine Z05 hall hs haf hnap 2 Zb5 ex7 rfl rfl trivial rfl rfl rfl rfl ?_;refine Zp5 hall hs haf hnap 1 3 ?_;dsimp only [go_sem];refine An ?_;obtain ⟨x8,ex8,h⟩:=Bs h;refine Z05 hall hs haf hnap 6 Zb5 ex8 rfl rfl trivial rfl rfl rfl rfl ?_;refine Zp5 hall hs haf hnap 2 0 ?_;dsimp only [go_sem];refine An ?_;refine Z24 rfl ?_ _
    refine Zw4 h rfl (fun _ h=>?_) fun _ h=>?_
    ·refine Zt2 4 ?_;dsimp only [go_sem];refine An ?_;exact Z45 (res:=fun (r:Bool)=>.bv r) ok61 (Zt4 h hout1)
    ·refine Zt2 6 ?_;dsimp only [go_sem];refine An ?_;exact Z55 h hin1
   ·refine Zt2 1 ?_;dsimp only [go_sem];refine An ?_;exact Z65 J1 (s:=()) (Zt4 h hout1)
def Zpo (_F:Nat):Unit→Option Bool
| ()=>
 some true
theorem Zqo {F:Nat}:∀s,ole (Zpo F s) (Zlo s):=by
 rintro ⟨⟩
 unfold Zpo Zlo
 try dsimp only
 with_reducible repeat' first | exact Zn4 _ | assumption | intro _ | refine Zo4 ?_ ?_ | refine Zp4 ?_ ?_ | refine Zq4 ?_ | refine Zs4 ?_
def Zro (F:Nat) (x1:(List Int)) (x2:(List Int)):Int→Option (Int ⊕ Bool)
| x6=>
 ifb (decide (x6<(ln Zb5 x1))) (
 (at_ x1 x6).bind fun x7=>
 (at_ x2 x6).bind fun x8=>
 ifb (!decide (x7=x8)) (
 Option.map Sum.inr (some false)) (
 some (.inl (wr (x6+1))))) (
 Option.map Sum.inr (Zpo F ()))
theorem Zso {F:Nat} {x1:(List Int)} {x2:(List Int)}:∀s,ole (Zro F x1 x2 s) (Zmo x1 x2 s):=by
 intro x6
 unfold Zro Zmo
 try dsimp only
 with_reducible repeat' first | exact Zn4 _ | assumption | intro _ | refine Zo4 ?_ ?_ | refine Zp4 ?_ ?_ | refine Zq4 ?_ | refine Zs4 ?_ | apply Zqo
def Zto (F:Nat) (x1:(List Int)) (x2:(List Int)):Option Bool:=
 ifb (!decide ((ln Zb5 x1)=(ln Zb5 x2))) (
 some false) (
 Zr4 F (Zro F x1 x2) 0)
theorem Zuo {F:Nat} {x1:(List Int)} {x2:(List Int)}:ole (Zto F x1 x2) (Zno x1 x2):=by
 unfold Zto Zno
 with_reducible repeat' first | exact Zn4 _ | assumption | intro _ | refine Zo4 ?_ ?_ | refine Zp4 ?_ ?_ | refine Zq4 ?_ | refine Zs4 ?_ | apply Zqo | apply Zso
set_option maxRecDepth 100000
set_option maxHeartbeats 4000000
@[go_sem] def e94:EC:=.seq (.reg [(Qx 2 74 4 0),(Qx 3 74 4 1),(Qa 4 (.mv (.c .ff)))]) (.seq (.reg [(Qf 5 0 2),(Ql 6 5),(Qf 7 0 3),(Ql 8 7),(Qa 9 (.bin .eql (.t 6) (.t 8))),(Qm 10 9),(Qh 11 10 true 2 2),(Qn 12 10 true 11),(Qh 13 10 true 2 3),(Qn 14 10 true 13),(Qg 15 10 true (.bin .eql (.t 12) (.t 14))),(Qp 16 10 15),(Qm 17 16),(Qh 18 17 true 3 2),(Qn 19 17 true 18),(Qh 20 17 true 3 3),(Qn 21 17 true 20),(Qg 22 17 true (.bin .eql (.t 19) (.t 21))),(Qp 23 17 22),(Qm 24 23),(Qh 25 24 true 1 2),(Qn 26 24 true 25),(Qh 27 24 true 1 3),(Qn 28 24 true 27),(Qg 29 24 true (.call 61 [(.t 26),(.t 28)])),(Qp 30 24 29),(Qm 4 30)]) (.ret))
theorem ok94:FnOK Tryz.prog 94 Tryz.f94 e94 [.t 4] 2 29:=⟨by kernel_rfl,⟨_,rfl,by kernel_rfl⟩,by kernel_rfl,by kernel_rfl⟩
noncomputable def Zvo:Bool→Option Bool
| x4=>
 some x4
noncomputable def Zwo (x1:Sess) (x2:Sess):Option Bool:=
 ifb (decide (x1.ID=x2.ID)) (
 ifb (decide (x1.State=x2.State)) (
 ifb (decide (x1.Age=x2.Age)) (
 (Zno x1.Need x2.Need).bind fun x3=>
 Zvo x3) (
 Zvo false)) (
 Zvo false)) (
 Zvo false)
theorem k_sess_Same_1 (x1:Sess) (x2:Sess) (r:Bool) (h:Zwo x1 x2=some r):Zy2 Tryz.prog 94 [.agg (Sess.row x1),.agg (Sess.row x2)] (.bv r):=by
 refine Z23 ok94 rfl rfl fun w0 H0=>?_
 rw [Zwo] at h
 refine Zt2 14 ?_;dsimp only [go_sem];refine An ?_;refine Zu4 (fun (x4:Bool)=>(⟨(an 4 (.bv x4::an 26 [])),[],[]⟩:St)) Zvo r ?_ fun J1=>?_
 ·intro x4 h;rw [Zvo] at h;(try dsimp only);exact Z45 (res:=fun (r:Bool)=>.bv r) ok94 h
 ·refine Z35 10 h rfl (fun _ h=>?_) fun _ h=>?_
  ·dsimp only [go_sem];refine Zt2 7 ?_;dsimp only [go_sem];refine An ?_;refine Z35 17 h rfl (fun _ h=>?_) fun _ h=>?_
   ·dsimp only [go_sem];refine Zt2 7 ?_;dsimp only [go_sem];refine An ?_;refine Z35 24 h rfl (fun _ h=>?_) fun _ h=>?_
    ·dsimp only [go_sem];refine Zt2 4 ?_;dsimp only [go_sem];refine An ?_;obtain ⟨x3,ex3,h⟩:=Bs h;refine Z73 trivial (Zoo x1.Need x2.Need _ ex3) (h:=?_);refine Zt2 3 ?_;dsimp only [go_sem];refine An ?_;exact Z65 J1 (s:=x3) h
    ·dsimp only [go_sem];refine Zt2 8 ?_;dsimp only [go_sem];refine An ?_;exact Z65 J1 (s:=false) h
   ·dsimp only [go_sem];refine Zt2 15 ?_;dsimp only [go_sem];refine An ?_;exact Z65 J1 (s:=false) h
  ·dsimp only [go_sem];refine Zt2 22 ?_;dsimp only [go_sem];refine An ?_;exact Z65 J1 (s:=false) h
def Zxo (_F:Nat):Bool→Option Bool
| x4=>
 some x4
theorem Zyo {F:Nat}:∀s,ole (Zxo F s) (Zvo s):=by
 intro x4
 unfold Zxo Zvo
 try dsimp only
 with_reducible repeat' first | exact Zn4 _ | assumption | intro _ | refine Zo4 ?_ ?_ | refine Zp4 ?_ ?_ | refine Zq4 ?_ | refine Zs4 ?_
def Zzo (F:Nat) (x1:Sess) (x2:Sess):Option Bool:=
 ifb (decide (x1.ID=x2.ID)) (
 ifb (decide (x1.State=x2.State)) (
 ifb (decide (x1.Age=x2.Age)) (
 (Zto F x1.Need x2.Need).bind fun x3=>
 Zxo F x3) (
 Zxo F false)) (
 Zxo F false)) (
 Zxo F false)
theorem Z0p {F:Nat} {x1:Sess} {x2:Sess}:ole (Zzo F x1 x2) (Zwo x1 x2):=by
 unfold Zzo Zwo
 with_reducible repeat' first | exact Zn4 _ | assumption | intro _ | refine Zo4 ?_ ?_ | refine Zp4 ?_ ?_ | refine Zq4 ?_ | refine Zs4 ?_ | apply Zyo | apply Zuo
set_option maxRecDepth 100000
set_option maxHeartbeats 4000000
@[go_sem] def e60:EC:=.seq (.reg [(Qx 2 64 2 0),(Qx 3 64 2 1),(Qa 4 (.mv (.c .ff)))]) (.seq (.reg [(Qf 5 0 2),(Ql 6 5),(Qf 7 0 3),(Ql 8 7),(Qa 9 (.bin .eql (.t 6) (.t 8))),(Qm 10 9),(Qh 11 10 true 1 2),(Qn 12 10 true 11),(Qh 13 10 true 1 3),(Qn 14 10 true 13),(Qg 15 10 true (.call 93 [(.t 12),(.t 14),(.c (.clo 94 []))])),(Qp 16 10 15),(Qm 4 16)]) (.ret))
theorem ok60:FnOK Tryz.prog 60 Tryz.f60 e60 [.t 4] 2 15:=⟨by kernel_rfl,⟨_,rfl,by kernel_rfl⟩,by kernel_rfl,by kernel_rfl⟩
noncomputable def Z1p:Bool→Option Bool
| x4=>
 some x4
noncomputable def Z2p (x1:Book) (x2:Book):Option Bool:=
 ifb (decide (x1.Last=x2.Last)) (
 (Zdo x1.Sess x2.Sess ((fun z=>Zwo z.1 z.2))).bind fun x3=>
 Z1p x3) (
 Z1p false)
theorem k_sess_Same (x1:Book) (x2:Book) (r:Bool) (h:Z2p x1 x2=some r):Zy2 Tryz.prog 60 [.agg (Book.row x1),.agg (Book.row x2)] (.bv r):=by
 refine Z23 ok60 rfl rfl fun w0 H0=>?_
 rw [Z2p] at h
 refine Zt2 14 ?_;dsimp only [go_sem];refine An ?_;refine Zu4 (fun (x4:Bool)=>(⟨(an 4 (.bv x4::an 12 [])),[],[]⟩:St)) Z1p r ?_ fun J1=>?_
 ·intro x4 h;rw [Z1p] at h;(try dsimp only);exact Z45 (res:=fun (r:Bool)=>.bv r) ok60 h
 ·refine Z35 10 h rfl (fun _ h=>?_) fun _ h=>?_
  ·dsimp only [go_sem];refine Zt2 4 ?_;dsimp only [go_sem];refine An ?_;obtain ⟨x3,ex3,h⟩:=Bs h;refine Z73 trivial (Zeo x1.Sess x2.Sess _ _ ((fun z=>Zwo z.1 z.2)) ⟨by kernel_rfl,rfl,fun z r hz=>k_sess_Same_1 z.1 z.2 r hz⟩ _ ex3) (h:=?_);refine Zt2 3 ?_;dsimp only [go_sem];refine An ?_;exact Z65 J1 (s:=x3) h
  ·dsimp only [go_sem];refine Zt2 8 ?_;dsimp only [go_sem];refine An ?_;exact Z65 J1 (s:=false) h
def Z3p (_F:Nat):Bool→Option Bool
| x4=>
 some x4
theorem Z4p {F:Nat}:∀s,ole (Z3p F s) (Z1p s):=by
 intro x4
 unfold Z3p Z1p
 try dsimp only
 with_reducible repeat' first | exact Zn4 _ | assumption | intro _ | refine Zo4 ?_ ?_ | refine Zp4 ?_ ?_ | refine Zq4 ?_ | refine Zs4 ?_
def Z5p (F:Nat) (x1:Book) (x2:Book):Option Bool:=
 ifb (decide (x1.Last=x2.Last)) (
 (Zjo F x1.Sess x2.Sess ((fun z=>Zzo F z.1 z.2))).bind fun x3=>
 Z3p F x3) (
 Z3p F false)
theorem le_sess_Same {F:Nat} {x1:Book} {x2:Book}:ole (Z5p F x1 x2) (Z2p x1 x2):=by
 unfold Z5p Z2p
 with_reducible repeat' first | exact Zn4 _ | assumption | intro _ | refine Zo4 ?_ ?_ | refine Zp4 ?_ ?_ | refine Zq4 ?_ | refine Zs4 ?_ | apply Z4p | apply Zko | apply Z0p
set_option maxRecDepth 100000
set_option maxHeartbeats 4000000
@[go_sem] def e59:EC:=.seq (.reg [(Qx 2 69 3 0),(Qx 3 69 3 1),(Qa 4 (.mv (.c .ff)))]) (.seq (.reg [(Qf 5 0 2),(Qe 6 2 5),(Qf 7 0 3),(Qe 8 2 7),(Qa 9 (.call 60 [(.t 6),(.t 8)])),(Qm 10 9),(Qh 11 10 true 2 2),(Qn 12 10 true 11),(Qh 13 10 true 2 3),(Qn 14 10 true 13),(Qg 15 10 true (.call 61 [(.t 12),(.t 14)])),(Qp 16 10 15),(Qm 4 16)]) (.ret))
theorem ok59:FnOK Tryz.prog 59 Tryz.f59 e59 [.t 4] 2 15:=⟨by kernel_rfl,⟨_,rfl,by kernel_rfl⟩,by kernel_rfl,by kernel_rfl⟩
noncomputable def Z6p:Bool→Option Bool
| x5=>
 some x5
noncomputable def Z7p (x1:Place) (x2:Place):Option Bool:=
 (Z2p x1.Book x2.Book).bind fun x3=>
 ifb x3 (
 (Zno x1.Live x2.Live).bind fun x4=>
 Z6p x4) (
 Z6p false)
theorem Z8p (x1:Place) (x2:Place) (r:Bool) (h:Z7p x1 x2=some r):Zy2 Tryz.prog 59 [.agg (Place.row x1),.agg (Place.row x2)] (.bv r):=by
 refine Z23 ok59 rfl rfl fun w0 H0=>?_
 rw [Z7p] at h
 refine Zt2 12 ?_;dsimp only [go_sem];refine An ?_;obtain ⟨x3,ex3,h⟩:=Bs h;refine Z73 trivial (k_sess_Same x1.Book x2.Book _ ex3) (h:=?_);refine Zt2 1 ?_;dsimp only [go_sem];refine An ?_;refine Zu4 (fun (x5:Bool)=>(⟨(an 4 (.bv x5::an 12 [])),[],[]⟩:St)) Z6p r ?_ fun J1=>?_
 ·intro x5 h;rw [Z6p] at h;(try dsimp only);exact Z45 (res:=fun (r:Bool)=>.bv r) ok59 h
 ·refine Z35 10 h rfl (fun _ h=>?_) fun _ h=>?_
  ·dsimp only [go_sem];refine Zt2 4 ?_;dsimp only [go_sem];refine An ?_;obtain ⟨x4,ex4,h⟩:=Bs h;refine Z73 trivial (Zoo x1.Live x2.Live _ ex4) (h:=?_);refine Zt2 3 ?_;dsimp only [go_sem];refine An ?_;exact Z65 J1 (s:=x4) h
  ·dsimp only [go_sem];refine Zt2 8 ?_;dsimp only [go_sem];refine An ?_;exact Z65 J1 (s:=false) h
def Z9p (_F:Nat):Bool→Option Bool
| x5=>
 some x5
theorem Zap {F:Nat}:∀s,ole (Z9p F s) (Z6p s):=by
 intro x5
 unfold Z9p Z6p
 try dsimp only
 with_reducible repeat' first | exact Zn4 _ | assumption | intro _ | refine Zo4 ?_ ?_ | refine Zp4 ?_ ?_ | refine Zq4 ?_ | refine Zs4 ?_
def Zbp (F:Nat) (x1:Place) (x2:Place):Option Bool:=
 (Z5p F x1.Book x2.Book).bind fun x3=>
 ifb x3 (
 (Zto F x1.Live x2.Live).bind fun x4=>
 Z9p F x4) (
 Z9p F false)
theorem Zcp {F:Nat} {x1:Place} {x2:Place}:ole (Zbp F x1 x2) (Z7p x1 x2):=by
 unfold Zbp Z7p
 with_reducible repeat' first | exact Zn4 _ | assumption | intro _ | refine Zo4 ?_ ?_ | refine Zp4 ?_ ?_ | refine Zq4 ?_ | refine Zs4 ?_ | apply Zap | apply le_sess_Same | apply Zuo
set_option maxRecDepth 100000
set_option maxHeartbeats 4000000
@[go_sem] def e24:EC:=.seq (.reg [(Qx 2 35 1 0),(Qx 3 35 1 1),(Qa 4 (.mv (.c .ff)))]) (.seq (.reg [(Qf 5 0 2),(Ql 6 5),(Qf 7 0 3),(Ql 8 7),(Qa 9 (.call 58 [(.t 6),(.t 8),(.c (.clo 59 []))])),(Qm 4 9)]) (.ret))
theorem ok24:FnOK Tryz.prog 24 Tryz.f24 e24 [.t 4] 2 8:=⟨by kernel_rfl,⟨_,rfl,by kernel_rfl⟩,by kernel_rfl,by kernel_rfl⟩
noncomputable def Zdp (x1:Model) (x2:Model):Option Bool:=
 (Z3o x1.Places x2.Places ((fun z=>Z7p z.1 z.2))).bind fun x3=>
 some x3
theorem Zep (x1:Model) (x2:Model) (r:Bool) (h:Zdp x1 x2=some r):Zy2 Tryz.prog 24 [.agg (Model.row x1),.agg (Model.row x2)] (.bv r):=by
 refine Z23 ok24 rfl rfl fun w0 H0=>?_
 rw [Zdp] at h
 refine Zt2 12 ?_;dsimp only [go_sem];refine An ?_;obtain ⟨x3,ex3,h⟩:=Bs h;refine Z73 trivial (Z4o x1.Places x2.Places _ _ ((fun z=>Z7p z.1 z.2)) ⟨by kernel_rfl,rfl,fun z r hz=>Z8p z.1 z.2 r hz⟩ _ ex3) (h:=?_);refine Zt2 2 ?_;dsimp only [go_sem];refine An ?_;exact Z45 (res:=fun (r:Bool)=>.bv r) ok24 h
def Zfp (F:Nat) (x1:Model) (x2:Model):Option Bool:=
 (Z9o F x1.Places x2.Places ((fun z=>Zbp F z.1 z.2))).bind fun x3=>
 some x3
theorem Zgp {F:Nat} {x1:Model} {x2:Model}:ole (Zfp F x1 x2) (Zdp x1 x2):=by
 unfold Zfp Zdp
 with_reducible repeat' first | exact Zn4 _ | assumption | intro _ | refine Zo4 ?_ ?_ | refine Zp4 ?_ ?_ | refine Zq4 ?_ | refine Zs4 ?_ | apply Zao | apply Zcp
set_option maxRecDepth 100000
set_option maxHeartbeats 4000000
@[go_sem] def e5:EC:=.seq (.reg [(Qa 0 (.mv (.c .ff)))]) (.seq (.reg [(Qa 11 (.build [.iv 0,.iv 0] [(0,1,(.c (.iv 0))),(1,1,(.c (.iv 1)))])),(Qa 12 (.bsl 77 2 1 [.iv 0,.iv 0] [(0,(.t 11))])),(Qa 13 (.build [.iv 0,.nl] [(0,1,(.c (.iv 2))),(1,1,(.t 12))])),(Qa 1 (.alloc 24 [.iv 0,.nl])),(Qs 2 1 13)]) (.seq (.reg [(Qa 14 (.bsl 3 1 1 [.iv 0] [(0,(.c (.iv 1)))])),(Qa 15 (.build [.iv 0,.iv 0,.iv 0,.iv 0,.nl] [(0,1,(.c (.iv 0))),(2,1,(.c (.iv 1))),(4,1,(.t 14))])),(Qa 16 (.bsl 3 1 1 [.iv 0] [(0,(.c (.iv 0)))])),(Qa 17 (.build [.iv 0,.iv 0,.iv 0,.iv 0,.nl] [(0,1,(.c (.iv 0))),(1,1,(.c (.iv 1))),(2,1,(.c (.iv 1))),(4,1,(.t 16))])),(Qa 18 (.build [.iv 0,.iv 0,.iv 0,.iv 0,.nl] [(0,1,(.c (.iv 1))),(1,1,(.c (.iv 1))),(2,1,(.c (.iv 1)))])),(Qa 19 (.build [.iv 0,.iv 0,.iv 0,.iv 0,.nl] [(0,1,(.c (.iv 1))),(2,1,(.c (.iv 1)))])),(Qa 20 (.bsl 42 5 4 [.iv 0,.iv 0,.iv 0,.iv 0,.nl] [(0,(.t 15)),(1,(.t 17)),(2,(.t 18)),(3,(.t 19))])),(Qm 2 20)]) (.seq (.reg [(Qe 22 2 1),(Qm 23 2),(Qa 24 (.call 7 [(.t 22),(.t 23)])),(Qm 21 24),(Qa 25 (.ext (.t 21) 0)),(Qa 26 (.ext (.t 21) 1)),(Qm 3 25),(Qm 4 26)]) (.seq (.reg [(Qe 28 2 1),(Qa 29 (.call 12 [(.t 28)])),(Qm 27 29),(Qa 30 (.ext (.t 27) 0)),(Qa 31 (.ext (.t 27) 1)),(Qa 5 (.alloc 35 [.nl])),(Qs 1 5 30),(Qm 6 31)]) (.seq (.drw [(Qe 33 1 5),(Qm 34 2),(Qa 35 (.idx 5 (.t 34) (.c (.iv 0)))),(Qe 36 5 35),(Qa 37 (.call 17 [(.t 33),(.t 36)])),(Qm 32 37),(Qa 38 (.ext (.t 32) 0)),(Qa 39 (.ext (.t 32) 1)),(Qa 7 (.alloc 35 [.nl])),(Qs 1 7 38),(Qm 8 39)] [[],[],[1],[2],[0,3],[4],[5],[5],[],[8,6,4,0,1,2,3,4,5,6,8],[7,9,0,1,2,3,4,5,6,7,8,9]] [[4],[2],[1,3],[2,4],[0,3,5],[4,6,7],[5,9],[5,10],[9],[6,8],[7]]) (.seq (.reg [(Qe 41 1 7),(Qa 42 (.build [.iv 0,.iv 0,.iv 0,.iv 0,.nl] [(0,1,(.c (.iv 7))),(3,1,(.c (.iv 1)))])),(Qa 43 (.call 17 [(.t 41),(.t 42)])),(Qm 40 43),(Qa 44 (.ext (.t 40) 0)),(Qa 45 (.ext (.t 40) 1)),(Qa 9 (.alloc 35 [.nl])),(Qs 1 9 44),(Qm 10 45)]) (.seq (.reg [(Qm 46 3),(Qa 47 (.bin .eql (.t 46) (.c (.iv 3)))),(Qm 48 47),(Qg 49 48 true (.mv (.t 4))),(Qg 50 48 true (.bin .eql (.t 49) (.c (.iv 203)))),(Qp 51 48 50),(Qm 52 51),(Qg 53 52 true (.mv (.t 6))),(Qg 54 52 true (.bin .eql (.t 53) (.c (.iv 0)))),(Qp 55 52 54),(Qm 56 55),(Qg 57 56 true (.mv (.t 8))),(Qg 58 56 true (.bin .eql (.t 57) (.c (.iv 0)))),(Qp 59 56 58),(Qm 60 59),(Qg 61 60 true (.mv (.t 10))),(Qg 62 60 true (.bin .eql (.t 61) (.c (.iv 0)))),(Qp 63 60 62),(Qm 64 63),(Qg 65 64 true (.loadA 1 (.t 9))),(Qg 66 64 true (.call 21 [(.t 65),(.c (.iv 0))])),(Qg 67 64 true (.bsl 3 1 1 [.iv 0] [(0,(.c (.iv 1)))])),(Qg 68 64 true (.call 19 [(.t 66),(.t 67)])),(Qp 69 64 68),(Qm 70 69),(Qg 71 70 true (.loadA 1 (.t 7))),(Qg 72 70 true (.call 21 [(.t 71),(.c (.iv 0))])),(Qg 73 70 true (.len (.t 72))),(Qg 74 70 true (.bin .eql (.t 73) (.c (.iv 0)))),(Qp 75 70 74),(Qm 76 75),(Qg 77 76 true (.loadA 1 (.t 7))),(Qg 78 76 true (.call 22 [(.t 77)])),(Qp 79 76 78),(Qm 80 79),(Qg 81 80 true (.loadA 1 (.t 7))),(Qg 82 80 true (.call 23 [(.t 81)])),(Qg 83 80 true (.bin .eql (.t 82) (.c (.iv 0)))),(Qp 84 80 83),(Qm 85 84),(Qg 86 85 true (.loadA 1 (.t 7))),(Qg 87 85 true (.loadA 1 (.t 7))),(Qg 88 85 true (.call 24 [(.t 86),(.t 87)])),(Qp 89 85 88),(Qm 90 89),(Qg 91 90 true (.loadA 1 (.t 7))),(Qg 92 90 true (.loadA 1 (.t 9))),(Qg 93 90 true (.call 24 [(.t 91),(.t 92)])),(Qg 94 90 true (.not (.t 93))),(Qp 95 90 94),(Qm 0 95)]) (.ret))))))))
theorem ok5:FnOK Tryz.prog 5 Tryz.f5 e5 [.t 0] 0 96:=⟨by kernel_rfl,⟨_,rfl,by kernel_rfl⟩,by kernel_rfl,by kernel_rfl⟩
noncomputable def Zhp:Bool→Option Bool
| x16=>
 some x16
noncomputable def Zip (x1:(Int×Int)) (x2:(Model×Int)):(Int×(List Place))→Option Bool
| (x6,x7)=>
 (Z4m ((Model.mk x7)) ((Event.mk 7 0 0 1 (([]:(List Int)))))).bind fun x8=>
 ifb (decide (x1.1=3)) (
 ifb (decide (x1.2=203)) (
 ifb (decide (x2.2=0)) (
 ifb (decide (x6=0)) (
 ifb (decide (x8.2=0)) (
 (Zji x8.1 0).bind fun x9=>
 (Zba x9 ([1])).bind fun x10=>
 ifb x10 (
 (Zji ((Model.mk x7)) 0).bind fun x11=>
 ifb (decide ((ln Zb5 x11)=0)) (
 (Zzm ((Model.mk x7))).bind fun x12=>
 ifb x12 (
 (Z5i ((Model.mk x7))).bind fun x13=>
 ifb (decide (x13=0)) (
 (Zdp ((Model.mk x7)) ((Model.mk x7))).bind fun x14=>
 ifb x14 (
 (Zdp ((Model.mk x7)) x8.1).bind fun x15=>
 Zhp (!x15)) (
 Zhp false)) (
 Zhp false)) (
 Zhp false)) (
 Zhp false)) (
 Zhp false)) (
 Zhp false)) (
 Zhp false)) (
 Zhp false)) (
 Zhp false)) (
 Zhp false)
noncomputable def Zjp:Option Bool:=
 (Ztn ((Graph.mk 2 ([(Edge.mk 0 1)]))) ([(Event.mk 0 0 1 0 ([1])),(Event.mk 0 1 1 0 ([0])),(Event.mk 1 1 1 0 (([]:List Int))),(Event.mk 1 0 1 0 (([]:List Int)))])).bind fun x1=>
 (Zmm ((Graph.mk 2 ([(Edge.mk 0 1)])))).bind fun x2=>
 (at_ ([(Event.mk 0 0 1 0 ([1])),(Event.mk 0 1 1 0 ([0])),(Event.mk 1 1 1 0 (([]:List Int))),(Event.mk 1 0 1 0 (([]:List Int)))]) 0).bind fun x3=>
 (Z4m x2.1 x3).bind fun x4=>
 (Zip x1 x2) (x4.2,x4.1.Places)
theorem Zkp (r:Bool) (h:Zjp=some r):Zy2 Tryz.prog 5 [] (.bv r):=by
 refine Z23 ok5 rfl rfl fun w0 H0=>?_
 rw [Zjp] at h
 refine Zt2 20 ?_;dsimp only [go_sem];refine An ?_;refine V_put1 18 (.agg [.iv 1,.iv 1,.iv 1,.iv 0,.sl 1 (List.map Zb5 (([]:List Int)))]) (by simp [go_sem]) ?_;dsimp only [go_sem];refine V_put1 19 (.agg [.iv 1,.iv 0,.iv 1,.iv 0,.sl 1 (List.map Zb5 (([]:List Int)))]) (by simp [go_sem]) ?_;dsimp only [go_sem];refine Zk3 1 rfl ?_;dsimp only [go_sem];refine Zk3 2 rfl ?_;dsimp only [go_sem];refine Zt2 7 ?_;dsimp only [go_sem];refine An ?_;obtain ⟨x1,ex1,h⟩:=Bs h
 refine Z85 trivial (((Z75.refl _).slice 0 rfl).slice 3 rfl) (Zun ((Graph.mk 2 ([(Edge.mk 0 1)]))) ([(Event.mk 0 0 1 0 ([1])),(Event.mk 0 1 1 0 ([0])),(Event.mk 1 1 1 0 (([]:List Int))),(Event.mk 1 0 1 0 (([]:List Int)))]) _ ex1) (h:=?_);refine Zt2 9 ?_;dsimp only [go_sem];refine An ?_;refine Zk3 0 rfl ?_;dsimp only [go_sem];obtain ⟨x2,ex2,h⟩:=Bs h;refine Z73 trivial (Znm ((Graph.mk 2 ([(Edge.mk 0 1)]))) _ ex2) (h:=?_);refine Zt2 8 ?_;dsimp only [go_sem];refine An ?_
 refine Zu4 (fun ((x6,x7):(Int×(List Place)))=>(⟨(an 3 (.iv x1.1 :: .iv x1.2 :: .any :: .iv x2.2 :: .ptr 2 0 :: .iv x6::an 87 [])),[none,none,some ⟨35,[.sl 3 (List.map Place.row x7)]⟩],[]⟩:St)) (Zip x1 x2) r ?_ fun J1=>?_
 ·rintro ⟨x6,x7⟩ h;rw [Zip] at h;(try dsimp only);refine Zt2 4 ?_;dsimp only [go_sem];refine An ?_;obtain ⟨x8,ex8,h⟩:=Bs h;refine Z73 trivial (Z5m ((Model.mk x7)) ((Event.mk 7 0 0 1 (([]:(List Int))))) _ ex8) (h:=?_);refine Zt2 12 ?_;dsimp only [go_sem];refine An ?_;refine Zu4 (fun (x16:Bool)=>(⟨(.bv x16::an 95 []),[],[]⟩:St)) Zhp r ?_ fun J2=>?_
  ·intro x16 h;rw [Zhp] at h;(try dsimp only);exact Z45 (res:=fun (r:Bool)=>.bv r) ok5 h
  ·refine Z35 48 h rfl (fun _ h=>?_) fun _ h=>?_
   ·dsimp only [go_sem];refine Zt2 4 ?_;dsimp only [go_sem];refine An ?_;refine Z35 52 h rfl (fun _ h=>?_) fun _ h=>?_
    ·dsimp only [go_sem];refine Zt2 4 ?_;dsimp only [go_sem];refine An ?_;refine Z35 56 h rfl (fun _ h=>?_) fun _ h=>?_
     ·dsimp only [go_sem];refine Zt2 4 ?_;dsimp only [go_sem];refine An ?_;refine Z35 60 h rfl (fun _ h=>?_) fun _ h=>?_
      ·dsimp only [go_sem];refine Zt2 4 ?_;dsimp only [go_sem];refine An ?_;refine Z35 64 h rfl (fun _ h=>?_) fun _ h=>?_
       ·dsimp only [go_sem];refine Zt2 1 ?_;dsimp only [go_sem];refine An ?_;obtain ⟨x9,ex9,h⟩:=Bs h;refine Z73 trivial (Zki x8.1 0 _ ex9) (h:=?_);refine Zt2 1 ?_;dsimp only [go_sem];refine An ?_;obtain ⟨x10,ex10,h⟩:=Bs h;refine Z85 trivial ((Z75.refl _).slice 0 rfl) (Zca x9 ([1]) _ ex10) (h:=?_);refine Zt2 2 ?_;dsimp only [go_sem];refine An ?_;refine Z35 70 h rfl (fun _ h=>?_) fun _ h=>?_
        ·dsimp only [go_sem];refine Zt2 1 ?_;dsimp only [go_sem];refine An ?_;obtain ⟨x11,ex11,h⟩:=Bs h;refine Z73 trivial (Zki ((Model.mk x7)) 0 _ ex11) (h:=?_);refine Zt2 4 ?_;dsimp only [go_sem];refine An ?_;refine Z35 76 h rfl (fun _ h=>?_) fun _ h=>?_
         ·dsimp only [go_sem];refine Zt2 1 ?_;dsimp only [go_sem];refine An ?_;obtain ⟨x12,ex12,h⟩:=Bs h;refine Z73 trivial (k_model_Apart ((Model.mk x7)) _ ex12) (h:=?_);refine Zt2 2 ?_;dsimp only [go_sem];refine An ?_;refine Z35 80 h rfl (fun _ h=>?_) fun _ h=>?_
          ·dsimp only [go_sem];refine Zt2 1 ?_;dsimp only [go_sem];refine An ?_;obtain ⟨x13,ex13,h⟩:=Bs h;refine Z73 trivial (Z6i ((Model.mk x7)) _ ex13) (h:=?_);refine Zt2 3 ?_;dsimp only [go_sem];refine An ?_;refine Z35 85 h rfl (fun _ h=>?_) fun _ h=>?_
           ·dsimp only [go_sem];refine Zt2 2 ?_;dsimp only [go_sem];refine An ?_;obtain ⟨x14,ex14,h⟩:=Bs h;refine Z73 trivial (Zep ((Model.mk x7)) ((Model.mk x7)) _ ex14) (h:=?_);refine Zt2 2 ?_;dsimp only [go_sem];refine An ?_;refine Z35 90 h rfl (fun _ h=>?_) fun _ h=>?_
            ·dsimp only [go_sem];refine Zt2 2 ?_;dsimp only [go_sem];refine An ?_;obtain ⟨x15,ex15,h⟩:=Bs h;refine Z73 trivial (Zep ((Model.mk x7)) x8.1 _ ex15) (h:=?_);refine Zt2 4 ?_;dsimp only [go_sem];refine An ?_;exact Z65 J2 (s:=!x15) h
            ·dsimp only [go_sem];refine Zt2 7 ?_;dsimp only [go_sem];refine An ?_;exact Z65 J2 (s:=false) h
           ·dsimp only [go_sem];refine Zt2 12 ?_;dsimp only [go_sem];refine An ?_;exact Z65 J2 (s:=false) h
          ·dsimp only [go_sem];refine Zt2 17 ?_;dsimp only [go_sem];refine An ?_;exact Z65 J2 (s:=false) h
         ·dsimp only [go_sem];refine Zt2 21 ?_;dsimp only [go_sem];refine An ?_;exact Z65 J2 (s:=false) h
        ·dsimp only [go_sem];refine Zt2 27 ?_;dsimp only [go_sem];refine An ?_;exact Z65 J2 (s:=false) h
       ·dsimp only [go_sem];refine Zt2 33 ?_;dsimp only [go_sem];refine An ?_;exact Z65 J2 (s:=false) h
      ·dsimp only [go_sem];refine Zt2 37 ?_;dsimp only [go_sem];refine An ?_;exact Z65 J2 (s:=false) h
     ·dsimp only [go_sem];refine Zt2 41 ?_;dsimp only [go_sem];refine An ?_;exact Z65 J2 (s:=false) h
    ·dsimp only [go_sem];refine Zt2 45 ?_;dsimp only [go_sem];refine An ?_;exact Z65 J2 (s:=false) h
   ·dsimp only [go_sem];refine Zt2 49 ?_;dsimp only [go_sem];refine An ?_;exact Z65 J2 (s:=false) h
 ·refine Zs3 (by kernel_rfl) fun all hall hs hnap haf=>?_;dsimp only [go_sem];refine Zp5 hall hs haf hnap 2 9 ?_;dsimp only [go_sem];refine An ?_;obtain ⟨x3,ex3,h⟩:=Bs h;refine Z44 2 8 rfl ?_ ?_
  ·refine Z76 hall Event.row ex3 rfl trivial rfl rfl rfl ?_;dsimp only [go_sem];refine Z44 3 8 rfl ?_ ?_
   ·refine Z96 hall Event.row ex3 rfl trivial rfl rfl rfl ?_;dsimp only [go_sem];obtain ⟨x4,ex4,h⟩:=Bs h;refine Z44 4 8 rfl ?_ ?_
    ·refine Z84 hall rfl trivial (Z5m x2.1 x3 _ ex4) (h:=?_);dsimp only [go_sem];refine Zp5 hall hs haf hnap 3 3 ?_;dsimp only [go_sem];refine An ?_;refine Z34 8 rfl ?_;refine Z74 hall rfl trivial ?_;dsimp only [go_sem];refine Z34 9 rfl ?_;refine Z74 hall rfl trivial ?_;dsimp only [go_sem];refine Zp5 hall hs haf hnap 1 0 ?_;dsimp only [go_sem];refine An ?_;refine Z24 rfl ?_ _;exact Z65 J1 (s:=(x4.2,x4.1.Places)) h
    ·refine Z74 hall rfl trivial ?_;dsimp only [go_sem];refine Z34 4 rfl ?_;refine Z84 hall rfl trivial (Z5m x2.1 x3 _ ex4) (h:=?_);dsimp only [go_sem];refine Zp5 hall hs haf hnap 3 2 ?_;dsimp only [go_sem];refine An ?_;refine Z34 9 rfl ?_;refine Z74 hall rfl trivial ?_;dsimp only [go_sem];refine Zp5 hall hs haf hnap 1 0 ?_;dsimp only [go_sem];refine An ?_;refine Z24 rfl ?_ _;exact Z65 J1 (s:=(x4.2,x4.1.Places)) h
   ·refine Z74 hall rfl trivial ?_;dsimp only [go_sem];refine Z34 3 rfl ?_;refine Z96 hall Event.row ex3 rfl trivial rfl rfl rfl ?_;dsimp only [go_sem];refine Z34 4 rfl ?_;obtain ⟨x4,ex4,h⟩:=Bs h;refine Z84 hall rfl trivial (Z5m x2.1 x3 _ ex4) (h:=?_);dsimp only [go_sem];refine Zp5 hall hs haf hnap 3 2 ?_;dsimp only [go_sem];refine An ?_;refine Z34 9 rfl ?_;refine Z74 hall rfl trivial ?_;dsimp only [go_sem];refine Zp5 hall hs haf hnap 1 0 ?_;dsimp only [go_sem];refine An ?_;refine Z24 rfl ?_ _
    exact Z65 J1 (s:=(x4.2,x4.1.Places)) h
  ·refine Z74 hall rfl trivial ?_;dsimp only [go_sem];refine Z34 2 rfl ?_;refine Z76 hall Event.row ex3 rfl trivial rfl rfl rfl ?_;dsimp only [go_sem];refine Z34 3 rfl ?_;refine Z96 hall Event.row ex3 rfl trivial rfl rfl rfl ?_;dsimp only [go_sem];refine Z34 4 rfl ?_;obtain ⟨x4,ex4,h⟩:=Bs h;refine Z84 hall rfl trivial (Z5m x2.1 x3 _ ex4) (h:=?_);dsimp only [go_sem];refine Zp5 hall hs haf hnap 3 2 ?_;dsimp only [go_sem];refine An ?_;refine Z34 9 rfl ?_;refine Z74 hall rfl trivial ?_;dsimp only [go_sem]
   refine Zp5 hall hs haf hnap 1 0 ?_;dsimp only [go_sem];refine An ?_;refine Z24 rfl ?_ _;exact Z65 J1 (s:=(x4.2,x4.1.Places)) h
def Zlp (_F:Nat):Bool→Option Bool
| x16=>
 some x16
theorem Zmp {F:Nat}:∀s,ole (Zlp F s) (Zhp s):=by
 intro x16
 unfold Zlp Zhp
 try dsimp only
 with_reducible repeat' first | exact Zn4 _ | assumption | intro _ | refine Zo4 ?_ ?_ | refine Zp4 ?_ ?_ | refine Zq4 ?_ | refine Zs4 ?_
def Znp (F:Nat) (x1:(Int×Int)) (x2:(Model×Int)):(Int×(List Place))→Option Bool
| (x6,x7)=>
 (Zim F ((Model.mk x7)) ((Event.mk 7 0 0 1 (([]:(List Int)))))).bind fun x8=>
 ifb (decide (x1.1=3)) (
 ifb (decide (x1.2=203)) (
 ifb (decide (x2.2=0)) (
 ifb (decide (x6=0)) (
 ifb (decide (x8.2=0)) (
 (Zti F x8.1 0).bind fun x9=>
 (Zha F x9 ([1])).bind fun x10=>
 ifb x10 (
 (Zti F ((Model.mk x7)) 0).bind fun x11=>
 ifb (decide ((ln Zb5 x11)=0)) (
 (Zan F ((Model.mk x7))).bind fun x12=>
 ifb x12 (
 (Zdi F ((Model.mk x7))).bind fun x13=>
 ifb (decide (x13=0)) (
 (Zfp F ((Model.mk x7)) ((Model.mk x7))).bind fun x14=>
 ifb x14 (
 (Zfp F ((Model.mk x7)) x8.1).bind fun x15=>
 Zlp F (!x15)) (
 Zlp F false)) (
 Zlp F false)) (
 Zlp F false)) (
 Zlp F false)) (
 Zlp F false)) (
 Zlp F false)) (
 Zlp F false)) (
 Zlp F false)) (
 Zlp F false)) (
 Zlp F false)
theorem Zop {F:Nat} {x1:(Int×Int)} {x2:(Model×Int)}:∀s,ole (Znp F x1 x2 s) (Zip x1 x2 s):=by
 rintro ⟨x6,x7⟩
 unfold Znp Zip
 try dsimp only
 with_reducible repeat' first | exact Zn4 _ | assumption | intro _ | refine Zo4 ?_ ?_ | refine Zp4 ?_ ?_ | refine Zq4 ?_ | refine Zs4 ?_ | apply Zmp | apply Zjm | apply Zui | apply Zia | apply Zbn | apply Zei | apply Zgp
def Zpp (F:Nat):Option Bool:=
 (Zzn F ((Graph.mk 2 ([(Edge.mk 0 1)]))) ([(Event.mk 0 0 1 0 ([1])),(Event.mk 0 1 1 0 ([0])),(Event.mk 1 1 1 0 (([]:List Int))),(Event.mk 1 0 1 0 (([]:List Int)))])).bind fun x1=>
 (Zsm F ((Graph.mk 2 ([(Edge.mk 0 1)])))).bind fun x2=>
 (at_ ([(Event.mk 0 0 1 0 ([1])),(Event.mk 0 1 1 0 ([0])),(Event.mk 1 1 1 0 (([]:List Int))),(Event.mk 1 0 1 0 (([]:List Int)))]) 0).bind fun x3=>
 (Zim F x2.1 x3).bind fun x4=>
 (Znp F x1 x2) (x4.2,x4.1.Places)
theorem Zqp {F:Nat}:ole (Zpp F) (Zjp):=by
 unfold Zpp Zjp
 with_reducible repeat' first | exact Zn4 _ | assumption | intro _ | refine Zo4 ?_ ?_ | refine Zp4 ?_ ?_ | refine Zq4 ?_ | refine Zs4 ?_ | apply Zmp | apply Zjm | apply Zui | apply Zia | apply Zbn | apply Zei | apply Zgp | apply Zop | apply Z0o | apply Ztm
theorem s_awake20:Zjp=some true:=Zqp.h _ (by kernel_rfl:Zpp 60=some true)
set_option maxRecDepth 100000
set_option maxHeartbeats 4000000
@[go_sem] def e6_L0:EC:=.seq (.seq (.reg [(Qm 4 3),(Qm 5 0),(Qa 6 (.len (.t 5))),(Qa 7 (.bin .lss (.t 4) (.t 6))),(Qm 8 7),(Qg 9 8 true (.mv (.t 3))),(Qg 10 8 true (.bin .lss (.t 9) (.c (.iv 201)))),(Qp 11 8 10)]) (.ite (.t 11) (.skip) (.exit 0))) (.seq (.blk 1 (.seq (.reg [(Qm 14 0),(Qm 15 3),(Qk 16 5 14 15),(Qf 17 4 16),(Ql 18 17),(Qa 19 (.len (.t 18))),(Qa 20 (.bin .gtr (.t 19) (.c (.iv 70))))]) (.ite (.t 20) (.seq (.reg [(Qa 2 (.mv (.c .ff)))]) (.ret)) (.skip)))) (.reg [(Qm 12 3),(Qv 13 12 1),(Qm 3 13)]))
@[go_sem] def e6:EC:=.seq (.reg [(Qa 2 (.mv (.c .ff)))]) (.seq (.seq (.reg [(Qi 3 0)]) (.blk 0 (.loop e6_L0))) (.seq (.reg [(Qm 21 0),(Qa 22 (.len (.t 21))),(Qa 23 (.bin .leq (.t 22) (.c (.iv 200)))),(Qm 2 23)]) (.ret)))
theorem ok6:FnOK Tryz.prog 6 Tryz.f6 e6 [.t 2] 1 23:=⟨by kernel_rfl,⟨_,rfl,by kernel_rfl⟩,by kernel_rfl,by kernel_rfl⟩
noncomputable def Zrp (x1:(List Event)):Unit→Option Bool
| ()=>
 some (decide ((ln Event.row x1)≤200))
noncomputable def Zsp (x1:(List Event)) (x5:Int):Bool→Option (Int ⊕ Bool)
| x6=>
 ifb x6 (
 (at_ x1 x5).bind fun x7=>
 ifb (decide (70<(ln Zb5 x7.Need))) (
 Option.map Sum.inr (some false)) (
 some (.inl (wr (x5+1))))) (
 Option.map Sum.inr ((Zrp x1) ()))
noncomputable def Ztp (x1:(List Event)):Int→Option (Int ⊕ Bool)
| x5=>
 ifb (decide (x5<(ln Event.row x1))) (
 (Zsp x1 x5) (decide (x5<201))) (
 (Zsp x1 x5) false)
noncomputable def Zup (x1:(List Event)):Option Bool:=
 loop (Ztp x1) 0
theorem Zvp (x1:(List Event)) (r:Bool) (h:Zup x1=some r):Zy2 Tryz.prog 6 [.sl 5 (List.map Event.row x1)] (.bv r):=by
 refine Z23 ok6 rfl rfl fun w0 H0=>?_
 rw [Zup] at h
 refine Zt2 9 ?_;dsimp only [go_sem];refine An ?_;refine Zu4 (fun (_:Unit)=>(⟨(.sl 5 (List.map Event.row x1)::an 23 []),[],[]⟩:St)) (Zrp x1) r ?_ fun J1=>?_
 ·rintro ⟨⟩ h;rw [Zrp] at h;(try dsimp only);refine Zt2 7 ?_;dsimp only [go_sem];refine An ?_;exact Z45 (res:=fun (r:Bool)=>.bv r) ok6 h
 ·refine Zt2 1 ?_;dsimp only [go_sem];refine An ?_;refine Zv4 h (fun (x5:Int)=>(⟨(.sl 5 (List.map Event.row x1) :: .any :: .any :: .iv x5::an 20 []),[],[]⟩:St)) (by simp [go_sem]) (by intro x5;first | rfl | simp [go_sem]) ?_;rintro n1 x5 y1 h hin1 hout1;rw [Ztp] at h;(try dsimp only);refine Zt2 8 ?_;dsimp only [go_sem];refine An ?_;refine Zu4 (fun (x6:Bool)=>(⟨(.sl 5 (List.map Event.row x1) :: .any :: .any :: .iv x5::an 7 (.bv x6::an 12 [])),[],[]⟩:St)) (Zsp x1 x5) y1 ?_ fun J2=>?_
  ·intro x6 h;rw [Zsp] at h;(try dsimp only);refine Zw4 h rfl (fun _ h=>?_) fun _ h=>?_
   ·refine Zt2 7 ?_;dsimp only [go_sem];refine An ?_;obtain ⟨x7,ex7,h⟩:=Bs h;refine Zz4 Event.row ex7 trivial rfl rfl rfl ?_;refine Zt2 5 ?_;dsimp only [go_sem];refine An ?_;refine Zw4 h rfl (fun _ h=>?_) fun _ h=>?_
    ·refine Zt2 4 ?_;dsimp only [go_sem];refine An ?_;exact Z45 (res:=fun (r:Bool)=>.bv r) ok6 (Zt4 h hout1)
    ·refine Zt2 7 ?_;dsimp only [go_sem];refine An ?_;exact Z55 h hin1
   ·refine Zt2 1 ?_;dsimp only [go_sem];refine An ?_;exact Z65 J1 (s:=()) (Zt4 h hout1)
  ·refine Z35 8 h rfl (fun _ h=>?_) fun _ h=>?_
   ·dsimp only [go_sem];refine Zt2 4 ?_;dsimp only [go_sem];refine An ?_;exact Z65 J2 (s:=decide (x5<201)) h
   ·dsimp only [go_sem];refine Zt2 4 ?_;dsimp only [go_sem];refine An ?_;exact Z65 J2 (s:=false) h
set_option maxRecDepth 100000
set_option maxHeartbeats 4000000
@[go_sem] def e42_L0:EC:=.seq (.seq (.reg [(Qm 22 5),(Qf 23 1 2),(Ql 24 23),(Qa 25 (.len (.t 24))),(Qa 26 (.bin .lss (.t 22) (.t 25)))]) (.ite (.t 26) (.skip) (.exit 0))) (.seq (.blk 1 (.seq (.drw [(Qf 29 1 2),(Ql 30 29),(Qm 31 5),(Qk 32 4 30 31),(Qe 33 4 32),(Qf 34 1 3),(Ql 35 34),(Qm 36 5),(Qk 37 4 35 36),(Qe 38 4 37),(Qa 6 (.alloc 74 [.iv 0,.nl,.iv 0,.iv 0])),(Qa 7 (.alloc 74 [.iv 0,.nl,.iv 0,.iv 0])),(Qs 4 6 33),(Qs 4 7 38)] [[],[0],[],[1,2],[3],[],[5],[],[6,7],[8],[],[],[10,4,0,1,2,3,4,10,11],[11,9,12,0,1,2,3,4,5,6,7,8,9,10,11,12]] [[1],[0,3],[3],[1,2,4],[3,12],[6],[5,8],[8],[6,7,9],[8,13],[12],[13],[4,10],[9,11]]) (.seq (.reg [(Qf 39 0 6),(Ql 40 39),(Qf 41 0 7),(Ql 42 41),(Qa 43 (.bin .neq (.t 40) (.t 42))),(Qm 44 43),(Qh 45 44 false 2 6),(Qn 46 44 false 45),(Qh 47 44 false 2 7),(Qn 48 44 false 47),(Qg 49 44 false (.bin .neq (.t 46) (.t 48))),(Qq 50 44 49),(Qm 51 50),(Qh 52 51 false 3 6),(Qn 53 51 false 52),(Qh 54 51 false 3 7),(Qn 55 51 false 54),(Qg 56 51 false (.bin .neq (.t 53) (.t 55))),(Qq 57 51 56),(Qm 58 57),(Qh 59 58 false 1 6),(Qn 60 58 false 59),(Qh 61 58 false 1 7),(Qn 62 58 false 61),(Qg 63 58 false (.call 19 [(.t 60),(.t 62)])),(Qg 64 58 false (.not (.t 63))),(Qq 65 58 64)]) (.ite (.t 65) (.seq (.reg [(Qa 4 (.mv (.c .ff)))]) (.ret)) (.skip))))) (.reg [(Qm 27 5),(Qv 28 27 1),(Qm 5 28)]))
@[go_sem] def e42:EC:=.seq (.reg [(Qx 2 64 2 0),(Qx 3 64 2 1),(Qa 4 (.mv (.c .ff)))]) (.seq (.seq (.reg [(Qf 8 0 2),(Ql 9 8),(Qf 10 0 3),(Ql 11 10),(Qa 12 (.bin .neq (.t 9) (.t 11))),(Qm 13 12),(Qh 14 13 false 1 2),(Qn 15 13 false 14),(Qg 16 13 false (.len (.t 15))),(Qh 17 13 false 1 3),(Qn 18 13 false 17),(Qg 19 13 false (.len (.t 18))),(Qg 20 13 false (.bin .neq (.t 16) (.t 19))),(Qq 21 13 20)]) (.ite (.t 21) (.seq (.reg [(Qa 4 (.mv (.c .ff)))]) (.ret)) (.skip))) (.seq (.seq (.reg [(Qi 5 0)]) (.blk 0 (.loop e42_L0))) (.seq (.reg [(Qa 4 (.mv (.c .tt)))]) (.ret))))
theorem ok42:FnOK Tryz.prog 42 Tryz.f42 e42 [.t 4] 2 64:=⟨by kernel_rfl,⟨_,rfl,by kernel_rfl⟩,by kernel_rfl,by kernel_rfl⟩
noncomputable def Zwp:Unit→Option Bool
| ()=>
 some true
noncomputable def Zxp (x11:Int):Bool→Option (Int ⊕ Bool)
| x17=>
 ifb x17 (
 Option.map Sum.inr (some false)) (
 some (.inl (wr (x11+1))))
noncomputable def Zyp (x11:Int):(Sess×Sess)→Option (Int ⊕ Bool)
| (x14,x15)=>
 ifb (!decide (x14.ID=x15.ID)) (
 (Zxp x11) true) (
 ifb (!decide (x14.State=x15.State)) (
 (Zxp x11) true) (
 ifb (!decide (x14.Age=x15.Age)) (
 (Zxp x11) true) (
 (Zba x14.Need x15.Need).bind fun x16=>
 (Zxp x11) (!x16))))
noncomputable def Zzp (x1:Book) (x2:Book):Int→Option (Int ⊕ Bool)
| x11=>
 ifb (decide (x11<(ln Sess.row x1.Sess))) (
 (at_ x1.Sess x11).bind fun x12=>
 (at_ x2.Sess x11).bind fun x13=>
 (Zyp x11) (x12,x13)) (
 Option.map Sum.inr (Zwp ()))
noncomputable def Z0q (x1:Book) (x2:Book):Bool→Option Bool
| x3=>
 ifb x3 (
 some false) (
 loop (Zzp x1 x2) 0)
noncomputable def Z1q (x1:Book) (x2:Book):Option Bool:=
 ifb (!decide (x1.Last=x2.Last)) (
 (Z0q x1 x2) true) (
 (Z0q x1 x2) (!decide ((ln Sess.row x1.Sess)=(ln Sess.row x2.Sess))))
theorem Z2q (x1:Book) (x2:Book) (r:Bool) (h:Z1q x1 x2=some r):Zy2 Tryz.prog 42 [.agg (Book.row x1),.agg (Book.row x2)] (.bv r):=by
 refine Z23 ok42 rfl rfl fun w0 H0=>?_
 rw [Z1q] at h
 refine Zt2 15 ?_;dsimp only [go_sem];refine An ?_;refine Zu4 (fun (x3:Bool)=>(⟨(.any :: .any :: .ptr 0 0 :: .ptr 1 0::an 17 (.bv x3::an 44 [])),[some ⟨64,[.iv x1.Last,.sl 4 (List.map Sess.row x1.Sess)]⟩,some ⟨64,[.iv x2.Last,.sl 4 (List.map Sess.row x2.Sess)]⟩],[]⟩:St)) (Z0q x1 x2) r ?_ fun J1=>?_
 ·intro x3 h;rw [Z0q] at h;(try dsimp only);refine Zw4 h rfl (fun _ h=>?_) fun _ h=>?_
  ·refine Zt2 4 ?_;dsimp only [go_sem];refine An ?_;exact Z45 (res:=fun (r:Bool)=>.bv r) ok42 h
  ·refine Zt2 6 ?_;dsimp only [go_sem];refine An ?_;refine Zu4 (fun (_:Unit)=>(⟨(an 66 []),[],[]⟩:St)) Zwp r ?_ fun J2=>?_
   ·rintro ⟨⟩ h;rw [Zwp] at h;(try dsimp only);refine Zt2 4 ?_;dsimp only [go_sem];refine An ?_;exact Z45 (res:=fun (r:Bool)=>.bv r) ok42 h
   ·refine Zt2 1 ?_;dsimp only [go_sem];refine An ?_;refine Zv4 h (fun (x11:Int)=>(⟨(.any :: .any :: .ptr 0 0 :: .ptr 1 0 :: .any :: .iv x11::an 60 []),[some ⟨64,[.iv x1.Last,.sl 4 (List.map Sess.row x1.Sess)]⟩,some ⟨64,[.iv x2.Last,.sl 4 (List.map Sess.row x2.Sess)]⟩],[]⟩:St)) (by simp [go_sem]) (by intro x11;first | rfl | simp [go_sem]) ?_;rintro n1 x11 y1 h hin1 hout1;rw [Zzp] at h;(try dsimp only);refine Zt2 9 ?_;dsimp only [go_sem];refine An ?_;refine Zw4 h rfl (fun _ h=>?_) fun _ h=>?_
    ·refine Zt2 4 ?_;dsimp only [go_sem];refine An ?_;refine Zu4 (fun ((x14,x15):(Sess×Sess))=>(⟨(.any :: .any :: .ptr 0 0 :: .ptr 1 0 :: .any :: .iv x11 :: .ptr 2 0 :: .ptr 3 0::an 58 []),[some ⟨64,[.iv x1.Last,.sl 4 (List.map Sess.row x1.Sess)]⟩,some ⟨64,[.iv x2.Last,.sl 4 (List.map Sess.row x2.Sess)]⟩,some ⟨74,[.iv x14.ID,.sl 1 (List.map Zb5 x14.Need),.iv x14.State,.iv x14.Age]⟩,some ⟨74,[.iv x15.ID,.sl 1 (List.map Zb5 x15.Need),.iv x15.State,.iv x15.Age]⟩],[]⟩:St)) (Zyp x11) y1 ?_ fun J3=>?_
     ·rintro ⟨x14,x15⟩ h;rw [Zyp] at h;(try dsimp only);refine Zt2 8 ?_;dsimp only [go_sem];refine An ?_;refine Zu4 (fun (x17:Bool)=>(⟨(.any :: .any :: .ptr 0 0 :: .ptr 1 0 :: .any :: .iv x11::an 59 [.bv x17]),[some ⟨64,[.iv x1.Last,.sl 4 (List.map Sess.row x1.Sess)]⟩,some ⟨64,[.iv x2.Last,.sl 4 (List.map Sess.row x2.Sess)]⟩],[]⟩:St)) (Zxp x11) y1 ?_ fun J4=>?_
      ·intro x17 h;rw [Zxp] at h;(try dsimp only);refine Zw4 h rfl (fun _ h=>?_) fun _ h=>?_
       ·refine Zt2 4 ?_;dsimp only [go_sem];refine An ?_;exact Z45 (res:=fun (r:Bool)=>.bv r) ok42 (Zt4 h hout1)
       ·refine Zt2 7 ?_;dsimp only [go_sem];refine An ?_;exact Z55 h hin1
      ·refine Z35 44 h rfl (fun _ h=>?_) fun _ h=>?_
       ·dsimp only [go_sem];refine Zt2 22 ?_;dsimp only [go_sem];refine An ?_;exact Z65 J4 (s:=true) h
       ·dsimp only [go_sem];refine Zt2 7 ?_;dsimp only [go_sem];refine An ?_;refine Z35 51 h rfl (fun _ h=>?_) fun _ h=>?_
        ·dsimp only [go_sem];refine Zt2 15 ?_;dsimp only [go_sem];refine An ?_;exact Z65 J4 (s:=true) h
        ·dsimp only [go_sem];refine Zt2 7 ?_;dsimp only [go_sem];refine An ?_;refine Z35 58 h rfl (fun _ h=>?_) fun _ h=>?_
         ·dsimp only [go_sem];refine Zt2 8 ?_;dsimp only [go_sem];refine An ?_;exact Z65 J4 (s:=true) h
         ·dsimp only [go_sem];refine Zt2 4 ?_;dsimp only [go_sem];refine An ?_;obtain ⟨x16,ex16,h⟩:=Bs h;refine Z73 trivial (Zca x14.Need x15.Need _ ex16) (h:=?_);refine Zt2 3 ?_;dsimp only [go_sem];refine An ?_;exact Z65 J4 (s:=!x16) h
     ·refine Zs3 (by kernel_rfl) fun all hall hs hnap haf=>?_;dsimp only [go_sem];refine Zq5 hall hs haf hnap 5 9 [3,2,1,1,1,6] [(29,[.ptr 0 1,.sl 4 (List.map Sess.row x1.Sess),.iv x11]),(2,[.ptr 1 1]),(1,[.iv x11])] (by kernel_rfl) ?_;dsimp only [go_sem];obtain ⟨x12,ex12,h⟩:=Bs h;refine Z05 hall hs haf hnap 3 Sess.row ex12 rfl rfl trivial rfl rfl rfl rfl ?_;refine Zp5 hall hs haf hnap 1 7 ?_;dsimp only [go_sem];refine An ?_;refine G_three 6 10 11 rfl ?_ ?_ ?_
      ·refine Z74 hall rfl trivial ?_;dsimp only [go_sem];obtain ⟨x13,ex13,h⟩:=Bs h;refine Z05 hall hs haf hnap 8 Sess.row ex13 rfl rfl trivial rfl rfl rfl rfl ?_;refine G_three 9 10 11 rfl ?_ ?_ ?_
       ·refine Z74 hall rfl trivial ?_;dsimp only [go_sem];refine Z44 10 11 rfl ?_ ?_
        ·refine Z74 hall rfl trivial ?_;dsimp only [go_sem];refine Z34 11 rfl ?_;refine Z74 hall rfl trivial ?_;dsimp only [go_sem];refine Z34 12 rfl ?_;refine Z74 hall rfl trivial ?_;dsimp only [go_sem];refine Z34 13 rfl ?_;refine Z74 hall rfl trivial ?_;dsimp only [go_sem];refine Z24 rfl ?_ _;exact Z65 J3 (s:=(x12,x13)) h
        ·refine Z74 hall rfl trivial ?_;dsimp only [go_sem];refine Z34 10 rfl ?_;refine Z74 hall rfl trivial ?_;dsimp only [go_sem];refine Z34 12 rfl ?_;refine Z74 hall rfl trivial ?_;dsimp only [go_sem];refine Z34 13 rfl ?_;refine Z74 hall rfl trivial ?_;dsimp only [go_sem];refine Z24 rfl ?_ _;refine Zo5 2 3 rfl rfl ?_;dsimp only [go_sem];exact Z65 J3 (s:=(x12,x13)) h
       ·refine Z74 hall rfl trivial ?_;dsimp only [go_sem];refine Z44 9 11 rfl ?_ ?_
        ·refine Z74 hall rfl trivial ?_;dsimp only [go_sem];refine Z34 11 rfl ?_;refine Z74 hall rfl trivial ?_;dsimp only [go_sem];refine Z34 12 rfl ?_;refine Z74 hall rfl trivial ?_;dsimp only [go_sem];refine Z34 13 rfl ?_;refine Z74 hall rfl trivial ?_;dsimp only [go_sem];refine Z24 rfl ?_ _;exact Z65 J3 (s:=(x12,x13)) h
        ·refine Z74 hall rfl trivial ?_;dsimp only [go_sem];refine Z44 9 12 rfl ?_ ?_
         ·refine Z74 hall rfl trivial ?_;dsimp only [go_sem];refine Z34 12 rfl ?_;refine Z74 hall rfl trivial ?_;dsimp only [go_sem];refine Z34 13 rfl ?_;refine Z74 hall rfl trivial ?_;dsimp only [go_sem];refine Z24 rfl ?_ _;exact Z65 J3 (s:=(x12,x13)) h
         ·refine Z74 hall rfl trivial ?_;dsimp only [go_sem];refine Zp5 hall hs haf hnap 1 1 ?_;dsimp only [go_sem];refine An ?_;refine Z34 13 rfl ?_;refine Z74 hall rfl trivial ?_;dsimp only [go_sem];refine Z24 rfl ?_ _;exact Z65 J3 (s:=(x12,x13)) h
       ·refine Z74 hall rfl trivial ?_;dsimp only [go_sem];refine Z44 9 10 rfl ?_ ?_
        ·refine Z74 hall rfl trivial ?_;dsimp only [go_sem];refine Z34 10 rfl ?_;refine Z74 hall rfl trivial ?_;dsimp only [go_sem];refine Z34 12 rfl ?_;refine Z74 hall rfl trivial ?_;dsimp only [go_sem];refine Z34 13 rfl ?_;refine Z74 hall rfl trivial ?_;dsimp only [go_sem];refine Z24 rfl ?_ _;refine Zo5 2 3 rfl rfl ?_;dsimp only [go_sem];exact Z65 J3 (s:=(x12,x13)) h
        ·refine Z74 hall rfl trivial ?_;dsimp only [go_sem];refine Z44 9 12 rfl ?_ ?_
         ·refine Z74 hall rfl trivial ?_;dsimp only [go_sem];refine Z34 12 rfl ?_;refine Z74 hall rfl trivial ?_;dsimp only [go_sem];refine Z34 13 rfl ?_;refine Z74 hall rfl trivial ?_;dsimp only [go_sem];refine Z24 rfl ?_ _;refine Zo5 2 3 rfl rfl ?_;dsimp only [go_sem];exact Z65 J3 (s:=(x12,x13)) h
         ·refine Z74 hall rfl trivial ?_;dsimp only [go_sem];refine Zp5 hall hs haf hnap 1 1 ?_;dsimp only [go_sem];refine An ?_;refine Z34 13 rfl ?_;refine Z74 hall rfl trivial ?_;dsimp only [go_sem];refine Z24 rfl ?_ _;refine Zo5 2 3 rfl rfl ?_;dsimp only [go_sem];exact Z65 J3 (s:=(x12,x13)) h
      ·refine Z74 hall rfl trivial ?_;dsimp only [go_sem];refine Z44 6 11 rfl ?_ ?_
       ·refine Z74 hall rfl trivial ?_;dsimp only [go_sem];obtain ⟨x13,ex13,h⟩:=Bs h;refine Z05 hall hs haf hnap 8 Sess.row ex13 rfl rfl trivial rfl rfl rfl rfl ?_;refine Z44 9 11 rfl ?_ ?_
        ·refine Z74 hall rfl trivial ?_;dsimp only [go_sem];refine Z34 11 rfl ?_;refine Z74 hall rfl trivial ?_;dsimp only [go_sem];refine Z34 12 rfl ?_;refine Z74 hall rfl trivial ?_;dsimp only [go_sem];refine Z34 13 rfl ?_;refine Z74 hall rfl trivial ?_;dsimp only [go_sem];refine Z24 rfl ?_ _;exact Z65 J3 (s:=(x12,x13)) h
        ·refine Z74 hall rfl trivial ?_;dsimp only [go_sem];refine Z44 9 12 rfl ?_ ?_
         ·refine Z74 hall rfl trivial ?_;dsimp only [go_sem];refine Z34 12 rfl ?_;refine Z74 hall rfl trivial ?_;dsimp only [go_sem];refine Z34 13 rfl ?_;refine Z74 hall rfl trivial ?_;dsimp only [go_sem];refine Z24 rfl ?_ _;exact Z65 J3 (s:=(x12,x13)) h
         ·refine Z74 hall rfl trivial ?_;dsimp only [go_sem];refine Zp5 hall hs haf hnap 1 1 ?_;dsimp only [go_sem];refine An ?_;refine Z34 13 rfl ?_;refine Z74 hall rfl trivial ?_;dsimp only [go_sem];refine Z24 rfl ?_ _;exact Z65 J3 (s:=(x12,x13)) h
       ·refine Z74 hall rfl trivial ?_;dsimp only [go_sem];refine Z44 6 12 rfl ?_ ?_
        ·refine Z74 hall rfl trivial ?_;dsimp only [go_sem];obtain ⟨x13,ex13,h⟩:=Bs h;refine Z05 hall hs haf hnap 8 Sess.row ex13 rfl rfl trivial rfl rfl rfl rfl ?_;refine Z44 9 12 rfl ?_ ?_
         ·refine Z74 hall rfl trivial ?_;dsimp only [go_sem];refine Z34 12 rfl ?_;refine Z74 hall rfl trivial ?_;dsimp only [go_sem];refine Z34 13 rfl ?_;refine Z74 hall rfl trivial ?_;dsimp only [go_sem];refine Z24 rfl ?_ _;exact Z65 J3 (s:=(x12,x13)) h
         ·refine Z74 hall rfl trivial ?_;dsimp only [go_sem];refine Zp5 hall hs haf hnap 1 1 ?_;dsimp only [go_sem];refine An ?_;refine Z34 13 rfl ?_;refine Z74 hall rfl trivial ?_;dsimp only [go_sem];refine Z24 rfl ?_ _;exact Z65 J3 (s:=(x12,x13)) h
        ·refine Z74 hall rfl trivial ?_;dsimp only [go_sem];refine Zp5 hall hs haf hnap 1 3 ?_;dsimp only [go_sem];refine An ?_;obtain ⟨x13,ex13,h⟩:=Bs h;refine Z05 hall hs haf hnap 8 Sess.row ex13 rfl rfl trivial rfl rfl rfl rfl ?_;refine Zp5 hall hs haf hnap 1 1 ?_;dsimp only [go_sem];refine An ?_;refine Z34 13 rfl ?_;refine Z74 hall rfl trivial ?_;dsimp only [go_sem];refine Z24 rfl ?_ _;exact Z65 J3 (s:=(x12,x13)) h
      ·refine Z74 hall rfl trivial ?_;dsimp only [go_sem];refine Z44 6 10 rfl ?_ ?_
       ·refine Z74 hall rfl trivial ?_;dsimp only [go_sem];obtain ⟨x13,ex13,h⟩:=Bs h;refine Z05 hall hs haf hnap 8 Sess.row ex13 rfl rfl trivial rfl rfl rfl rfl ?_;refine Z44 9 10 rfl ?_ ?_
        ·refine Z74 hall rfl trivial ?_;dsimp only [go_sem];refine Z34 10 rfl ?_;refine Z74 hall rfl trivial ?_;dsimp only [go_sem];refine Z34 12 rfl ?_;refine Z74 hall rfl trivial ?_;dsimp only [go_sem];refine Z34 13 rfl ?_;refine Z74 hall rfl trivial ?_;dsimp only [go_sem];refine Z24 rfl ?_ _;refine Zo5 2 3 rfl rfl ?_;dsimp only [go_sem];exact Z65 J3 (s:=(x12,x13)) h
        ·refine Z74 hall rfl trivial ?_;dsimp only [go_sem];refine Z44 9 12 rfl ?_ ?_
         ·refine Z74 hall rfl trivial ?_;dsimp only [go_sem];refine Z34 12 rfl ?_;refine Z74 hall rfl trivial ?_;dsimp only [go_sem];refine Z34 13 rfl ?_;refine Z74 hall rfl trivial ?_;dsimp only [go_sem];refine Z24 rfl ?_ _;refine Zo5 2 3 rfl rfl ?_;dsimp only [go_sem];exact Z65 J3 (s:=(x12,x13)) h
         ·refine Z74 hall rfl trivial ?_;dsimp only [go_sem];refine Zp5 hall hs haf hnap 1 1 ?_;dsimp only [go_sem];refine An ?_;refine Z34 13 rfl ?_;refine Z74 hall rfl trivial ?_;dsimp only [go_sem];refine Z24 rfl ?_ _;refine Zo5 2 3 rfl rfl ?_;dsimp only [go_sem];exact Z65 J3 (s:=(x12,x13)) h
       ·refine Z74 hall rfl trivial ?_;dsimp only [go_sem];refine Z44 6 12 rfl ?_ ?_
        ·refine Z74 hall rfl trivial ?_;dsimp only [go_sem];obtain ⟨x13,ex13,h⟩:=Bs h;refine Z05 hall hs haf hnap 8 Sess.row ex13 rfl rfl trivial rfl rfl rfl rfl ?_;refine Z44 9 12 rfl ?_ ?_
         ·refine Z74 hall rfl trivial ?_;dsimp only [go_sem];refine Z34 12 rfl ?_;refine Z74 hall rfl trivial ?_;dsimp only [go_sem];refine Z34 13 rfl ?_;refine Z74 hall rfl trivial ?_;dsimp only [go_sem];refine Z24 rfl ?_ _;refine Zo5 2 3 rfl rfl ?_;dsimp only [go_sem];exact Z65 J3 (s:=(x12,x13)) h
         ·refine Z74 hall rfl trivial ?_;dsimp only [go_sem];refine Zp5 hall hs haf hnap 1 1 ?_;dsimp only [go_sem];refine An ?_;refine Z34 13 rfl ?_;refine Z74 hall rfl trivial ?_;dsimp only [go_sem];refine Z24 rfl ?_ _;refine Zo5 2 3 rfl rfl ?_;dsimp only [go_sem];exact Z65 J3 (s:=(x12,x13)) h
        ·refine Z74 hall rfl trivial ?_;dsimp only [go_sem];refine Zp5 hall hs haf hnap 1 3 ?_;dsimp only [go_sem];refine An ?_;obtain ⟨x13,ex13,h⟩:=Bs h;refine Z05 hall hs haf hnap 8 Sess.row ex13 rfl rfl trivial rfl rfl rfl rfl ?_;refine Zp5 hall hs haf hnap 1 1 ?_;dsimp only [go_sem];refine An ?_;refine Z34 13 rfl ?_;refine Z74 hall rfl trivial ?_;dsimp only [go_sem];refine Z24 rfl ?_ _;refine Zo5 2 3 rfl rfl ?_;dsimp only [go_sem];exact Z65 J3 (s:=(x12,x13)) h
    ·refine Zt2 1 ?_;dsimp only [go_sem];refine An ?_;exact Z65 J2 (s:=()) (Zt4 h hout1)
 ·refine Z35 13 h rfl (fun _ h=>?_) fun _ h=>?_
  ·dsimp only [go_sem];refine Zt2 9 ?_;dsimp only [go_sem];refine An ?_;exact Z65 J1 (s:=true) h
  ·dsimp only [go_sem];refine Zt2 9 ?_;dsimp only [go_sem];refine An ?_;exact Z65 J1 (s:=!decide ((ln Sess.row x1.Sess)=(ln Sess.row x2.Sess))) h
set_option maxRecDepth 100000
set_option maxHeartbeats 4000000
@[go_sem] def e13_L0:EC:=.seq (.seq (.reg [(Qm 13 5),(Qf 14 0 2),(Ql 15 14),(Qa 16 (.len (.t 15))),(Qa 17 (.bin .lss (.t 13) (.t 16)))]) (.ite (.t 17) (.skip) (.exit 0))) (.seq (.blk 1 (.seq (.drw [(Qf 20 0 2),(Ql 21 20),(Qm 22 5),(Qk 23 3 21 22),(Qf 24 0 23),(Qe 25 2 24),(Qf 26 0 3),(Ql 27 26),(Qm 28 5),(Qk 29 3 27 28),(Qf 30 0 29),(Qe 31 2 30),(Qa 32 (.call 42 [(.t 25),(.t 31)])),(Qa 33 (.not (.t 32))),(Qm 34 33),(Qh 35 34 false 0 2),(Qn 36 34 false 35),(Qg 37 34 false (.mv (.t 5))),(Qg 38 34 false (.idx 3 (.t 36) (.t 37))),(Qh 39 34 false 2 38),(Qn 40 34 false 39),(Qh 41 34 false 0 3),(Qn 42 34 false 41),(Qg 43 34 false (.mv (.t 5))),(Qg 44 34 false (.idx 3 (.t 42) (.t 43))),(Qh 45 34 false 2 44),(Qn 46 34 false 45),(Qg 47 34 false (.call 19 [(.t 40),(.t 46)])),(Qg 48 34 false (.not (.t 47))),(Qq 49 34 48)] [[],[0],[],[1,2],[3],[4],[],[6],[],[7,8],[9],[10],[5,11],[12],[13,12],[14],[15,14],[14],[16,17,14],[18,14],[19,14],[14],[21,14],[14],[22,23,14],[24,14],[25,14],[20,26,14,14],[27,14],[14,28]] [[1],[0,3],[3],[1,2,4],[3,5],[4,12],[7],[6,9],[9],[7,8,10],[9,11],[10,12],[5,11,13],[12,14],[13,15,16,17,18,19,20,21,22,23,24,25,26,27,28,29],[14,16],[14,15,18],[14,18],[14,16,17,19],[14,18,20],[14,19,27],[14,22],[14,21,24],[14,24],[14,22,23,25],[14,24,26],[14,25,27],[14,20,26,28],[14,27,29],[14,28]]) (.ite (.t 49) (.seq (.reg [(Qa 4 (.mv (.c .ff)))]) (.ret)) (.skip)))) (.reg [(Qm 18 5),(Qv 19 18 1),(Qm 5 19)]))
@[go_sem] def e13:EC:=.seq (.reg [(Qx 2 35 1 0),(Qx 3 35 1 1),(Qa 4 (.mv (.c .ff)))]) (.seq (.seq (.reg [(Qf 6 0 2),(Ql 7 6),(Qa 8 (.len (.t 7))),(Qf 9 0 3),(Ql 10 9),(Qa 11 (.len (.t 10))),(Qa 12 (.bin .neq (.t 8) (.t 11)))]) (.ite (.t 12) (.seq (.reg [(Qa 4 (.mv (.c .ff)))]) (.ret)) (.skip))) (.seq (.seq (.reg [(Qi 5 0)]) (.blk 0 (.loop e13_L0))) (.seq (.reg [(Qa 4 (.mv (.c .tt)))]) (.ret))))
theorem ok13:FnOK Tryz.prog 13 Tryz.f13 e13 [.t 4] 2 48:=⟨by kernel_rfl,⟨_,rfl,by kernel_rfl⟩,by kernel_rfl,by kernel_rfl⟩
noncomputable def Z3q:Unit→Option Bool
| ()=>
 some true
noncomputable def Z4q (x11:Int):Bool→Option (Int ⊕ Bool)
| x18=>
 ifb x18 (
 Option.map Sum.inr (some false)) (
 some (.inl (wr (x11+1))))
noncomputable def Z5q (x1:Model) (x2:Model):Int→Option (Int ⊕ Bool)
| x11=>
 ifb (decide (x11<(ln Place.row x1.Places))) (
 (at_ x1.Places x11).bind fun x12=>
 (at_ x2.Places x11).bind fun x13=>
 (Z1q x12.Book x13.Book).bind fun x14=>
 ifb (!x14) (
 (Z4q x11) true) (
 (at_ x1.Places x11).bind fun x15=>
 (at_ x2.Places x11).bind fun x16=>
 (Zba x15.Live x16.Live).bind fun x17=>
 (Z4q x11) (!x17))) (
 Option.map Sum.inr (Z3q ()))
noncomputable def Z6q (x1:Model) (x2:Model):Option Bool:=
 ifb (!decide ((ln Place.row x1.Places)=(ln Place.row x2.Places))) (
 some false) (
 loop (Z5q x1 x2) 0)
theorem Z7q (x1:Model) (x2:Model) (r:Bool) (h:Z6q x1 x2=some r):Zy2 Tryz.prog 13 [.agg (Model.row x1),.agg (Model.row x2)] (.bv r):=by
 refine Z23 ok13 rfl rfl fun w0 H0=>?_
 rw [Z6q] at h
 refine Zt2 17 ?_;dsimp only [go_sem];refine An ?_;refine Zw4 h rfl (fun _ h=>?_) fun _ h=>?_
 ·refine Zt2 4 ?_;dsimp only [go_sem];refine An ?_;exact Z45 (res:=fun (r:Bool)=>.bv r) ok13 h
 ·refine Zt2 6 ?_;dsimp only [go_sem];refine An ?_;refine Zu4 (fun (_:Unit)=>(⟨(an 50 []),[],[]⟩:St)) Z3q r ?_ fun J1=>?_
  ·rintro ⟨⟩ h;rw [Z3q] at h;(try dsimp only);refine Zt2 4 ?_;dsimp only [go_sem];refine An ?_;exact Z45 (res:=fun (r:Bool)=>.bv r) ok13 h
  ·refine Zt2 1 ?_;dsimp only [go_sem];refine An ?_;refine Zv4 h (fun (x11:Int)=>(⟨(.any :: .any :: .ptr 0 0 :: .ptr 1 0 :: .any :: .iv x11::an 44 []),[some ⟨35,[.sl 3 (List.map Place.row x1.Places)]⟩,some ⟨35,[.sl 3 (List.map Place.row x2.Places)]⟩],[]⟩:St)) (by simp [go_sem]) (by intro x11;first | rfl | simp [go_sem]) ?_;rintro n1 x11 y1 h hin1 hout1;rw [Z5q] at h;(try dsimp only);refine Zt2 9 ?_;dsimp only [go_sem];refine An ?_;refine Zw4 h rfl (fun _ h=>?_) fun _ h=>?_
   ·refine Zt2 4 ?_;dsimp only [go_sem];refine An ?_;refine Zu4 (fun (x18:Bool)=>(⟨(.any :: .any :: .ptr 0 0 :: .ptr 1 0 :: .any :: .iv x11::an 43 [.bv x18]),[some ⟨35,[.sl 3 (List.map Place.row x1.Places)]⟩,some ⟨35,[.sl 3 (List.map Place.row x2.Places)]⟩],[]⟩:St)) (Z4q x11) y1 ?_ fun J2=>?_
    ·intro x18 h;rw [Z4q] at h;(try dsimp only);refine Zw4 h rfl (fun _ h=>?_) fun _ h=>?_
     ·refine Zt2 4 ?_;dsimp only [go_sem];refine An ?_;exact Z45 (res:=fun (r:Bool)=>.bv r) ok13 (Zt4 h hout1)
     ·refine Zt2 7 ?_;dsimp only [go_sem];refine An ?_;exact Z55 h hin1
    ·refine Zs3 (by kernel_rfl) fun all hall hs hnap haf=>?_;dsimp only [go_sem];refine Zq5 hall hs haf hnap 6 24 [3,3,3,21] [(20,[.ptr 0 0,.sl 3 (List.map Place.row x1.Places),.iv x11]),(3,[.ptr 1 0,.sl 3 (List.map Place.row x2.Places),.iv x11])] (by kernel_rfl) ?_;dsimp only [go_sem];obtain ⟨x12,ex12,h⟩:=Bs h;refine Z05 hall hs haf hnap 3 Place.row ex12 rfl rfl trivial rfl rfl rfl rfl ?_;refine Zp5 hall hs haf hnap 2 21 ?_;dsimp only [go_sem];refine An ?_;obtain ⟨x13,ex13,h⟩:=Bs h
     refine Z05 hall hs haf hnap 9 Place.row ex13 rfl rfl trivial rfl rfl rfl rfl ?_;refine Zp5 hall hs haf hnap 2 18 ?_;dsimp only [go_sem];refine An ?_;refine Z34 12 rfl ?_;obtain ⟨x14,ex14,h⟩:=Bs h;refine Z84 hall rfl trivial (Z2q x12.Book x13.Book _ ex14) (h:=?_);dsimp only [go_sem];refine Zp5 hall hs haf hnap 2 15 ?_;dsimp only [go_sem];refine An ?_;refine Ze5 34 h rfl (fun _ h=>?_) fun _ h=>?_
     ·dsimp only [go_sem];refine Zq5 hall hs haf hnap 15 0 [30] [(35,[.un,.un,.un,.un,.un,.un,.un,.un,.un,.un,.un,.un,.un,.un,.tt])] (by kernel_rfl) ?_;dsimp only [go_sem];refine Z24 rfl ?_ _;exact Z65 J2 (s:=true) h
     ·dsimp only [go_sem];refine Zq5 hall hs haf hnap 6 9 [18,3,3,6] [(35,[.ptr 0 0,.sl 3 (List.map Place.row x1.Places),.iv x11]),(3,[.ptr 1 0,.sl 3 (List.map Place.row x2.Places),.iv x11])] (by kernel_rfl) ?_;dsimp only [go_sem];obtain ⟨x15,ex15,h⟩:=Bs h;refine Z05 hall hs haf hnap 18 Place.row ex15 rfl rfl trivial rfl rfl rfl rfl ?_;refine Zp5 hall hs haf hnap 2 6 ?_;dsimp only [go_sem];refine An ?_;obtain ⟨x16,ex16,h⟩:=Bs h;refine Z05 hall hs haf hnap 24 Place.row ex16 rfl rfl trivial rfl rfl rfl rfl ?_;refine Zp5 hall hs haf hnap 2 3 ?_
      dsimp only [go_sem];refine An ?_;refine Z34 27 rfl ?_;obtain ⟨x17,ex17,h⟩:=Bs h;refine Z84 hall rfl trivial (Zca x15.Live x16.Live _ ex17) (h:=?_);dsimp only [go_sem];refine Zp5 hall hs haf hnap 2 0 ?_;dsimp only [go_sem];refine An ?_;refine Z24 rfl ?_ _;exact Z65 J2 (s:=!x17) h
   ·refine Zt2 1 ?_;dsimp only [go_sem];refine An ?_;exact Z65 J1 (s:=()) (Zt4 h hout1)
theorem Sess_eqB (x y:Sess):(decide (x.ID=y.ID)&&(decide (x.State=y.State)&&(decide (x.Age=y.Age)&&decide (x.Need=y.Need))))=decide (x=y):=by
 rw [Bool.eq_iff_iff]
 obtain ⟨a,b,c,d⟩:=x
 obtain ⟨a',b',c',d'⟩:=y
 simp only [Bool.and_eq_true,decide_eq_true_eq,Sess.mk.injEq]
 constructor
 ·rintro ⟨h1,h2,h3,h4⟩;exact ⟨h1,h4,h2,h3⟩
 ·rintro ⟨h1,h4,h2,h3⟩;exact ⟨h1,h2,h3,h4⟩
theorem s_r17Same (b c:Book) (hb:Z9h b):Z1q b c=some (decide (b=c)):=by
 have h1:=hb.1
 have es:decide (b=c)=(decide (b.Last=c.Last)&&decide (b.Sess=c.Sess)):=by
  obtain ⟨l,q⟩:=b
  obtain ⟨l',q'⟩:=c
  rw [Bool.eq_iff_iff];simp
 rw [es]
 simp only [Z1q,Z0q,ln_dec]
 by_cases h0:b.Last=c.Last
 ·by_cases h:b.Sess.length=c.Sess.length
  ·simp only [h0,h,decide_true,Bool.not_true,Zf6,Bool.true_and]
   rw [Zqa b.Sess c.Sess _ (fun x y=>decide (x=y)) h (by omega) (fun k x y hx hy=>by
    have e4:∀z,Zxp (k:Int) z=if z then some (.inr false) else some (.inl ((k+1:Nat):Int)):=fun z=>by
     simp only [Zxp,Zm6 hx (show b.Sess.length≤4000000000000000000 by omega)]
     cases z<;>rfl
    simp only [Zzp,Zj6 hx,Ze6,Zh6 hx,Zh6 hy,Option.bind_some,Zyp,e4,Z9b x.Need y.Need (hb.2 x (List.mem_iff_getElem?.2 ⟨_,hx⟩)),←Sess_eqB]
    by_cases g1:x.ID=y.ID<;>by_cases g2:x.State=y.State<;>by_cases g3:x.Age=y.Age<;>by_cases g4:x.Need=y.Need<;>simp [g1,g2,g3,g4]) (by simp only [Zzp,Zk6,Zf6,Zwp,Option.map_some]),Zra _ _ h]
  ·simp [h0,h,len_ne h]
 ·simp [h0]
theorem Place_eqB (x y:Place):(decide (x.Book=y.Book)&&decide (x.Live=y.Live))=decide (x=y):=by
 rw [Bool.eq_iff_iff];cases x;cases y;simp [Place.mk.injEq]
theorem s_r20Same (m n:Model) (hm:fewM m):Z6q m n=some (decide (m=n)):=by
 have h1:=hm.1
 have es:decide (m=n)=decide (m.Places=n.Places):=by
  obtain ⟨l⟩:=m
  obtain ⟨l'⟩:=n
  rw [Bool.eq_iff_iff];simp
 rw [es]
 simp only [Z6q,ln_dec]
 by_cases h:m.Places.length=n.Places.length
 ·simp only [h,decide_true,Bool.not_true,Zf6]
  rw [Zqa m.Places n.Places _ (fun x y=>decide (x=y)) h (by omega) (fun k x y hx hy=>by
   have e2:∀z,Z4q (k:Int) z=if z then some (.inr false) else some (.inl ((k+1:Nat):Int)):=fun z=>by
    simp only [Z4q,Zm6 hx (show m.Places.length≤4000000000000000000 by omega)]
    cases z<;>rfl
   have hp:=hm.2 x (List.mem_iff_getElem?.2 ⟨_,hx⟩)
   simp only [Z5q,Zj6 hx,Ze6,Zh6 hx,Zh6 hy,Option.bind_some,e2,s_r17Same x.Book y.Book hp.2,Z9b x.Live y.Live (by omega),←Place_eqB]
   by_cases g1:x.Book=y.Book<;>by_cases g2:x.Live=y.Live<;>simp [g1,g2]) (by simp only [Z5q,Zk6,Zf6,Z3q,Option.map_some]),Zra _ _ h]
 ·simp [h,len_ne h]
theorem take_snoc_all {α:Type} (q:α→Bool) (n:Nat) (x:α) (post:List α):((x::post).take (n+1)).all q=(q x&&(post.take n).all q):=by simp
def fewE (l:List Event):Bool:=(l.take 201).all (fun e=>decide (e.Need.length≤70))&&decide (l.length≤200)
theorem s_few (l:List Event):Zup l=some (fewE l):=by
 simp only [Zup,fewE]
 have key:=Zja l (Ztp l) (fun pre=>(pre.length:Int)) (fun pre post=>some ((post.take (201-pre.length)).all (fun s=>decide (s.Need.length≤70))&&decide (l.length≤200))) (fun pre x post h=>?_) ?_
 ·simpa using key
 ·have hx:=Zma h
  dsimp only [Ztp]
  rw [Zj6 hx,Ze6]
  by_cases h13:pre.length<201
  ·rw [decide_eq_true (by omega)]
   dsimp only [Zsp]
   rw [Ze6,Zh6 hx,Option.bind_some,Zd5,Zpa,show 201-pre.length=(201-(pre.length+1))+1 by omega,take_snoc_all]
   by_cases h70:x.Need.length≤70
   ·left
    exact ⟨by rw [decide_eq_false (by omega),Zf6,Zl6 (by omega)],by rw [decide_eq_true h70,Bool.true_and]⟩
   ·right
    exact ⟨false,by rw [decide_eq_true (by omega),Ze6];rfl,by rw [decide_eq_false h70];rfl⟩
  ·right
   rw [decide_eq_false (by omega),show 201-pre.length=0 by omega]
   dsimp only [Zsp]
   rw [Zf6]
   simp only [Zrp,Zd5]
   refine ⟨decide (l.length≤200),?_,by simp⟩
   have:decide (((l.length:Nat):Int)≤200)=decide (l.length≤200):=by rw [decide_eq_decide];omega
   rw [this];rfl
 ·dsimp only [Ztp]
  rw [Zk6,Zf6]
  dsimp only [Zsp]
  rw [Zf6]
  simp only [Zrp,Zd5]
  have:decide (((l.length:Nat):Int)≤200)=decide (l.length≤200):=by rw [decide_eq_decide];omega
  rw [this];simp
theorem fewE_need {l:List Event} (h:fewE l=true):l.length≤200∧∀e∈l,e.Need.length≤70:=by
 simp only [fewE,Bool.and_eq_true,decide_eq_true_eq,List.all_eq_true] at h
 exact ⟨h.2,fun s hs=>h.1 s (by rw [List.take_of_length_le (by omega)];exact hs)⟩
theorem Z8q {last top:Int} {first:Bool} {s:Sess}:Z6h last top first s=true↔last<s.ID∧s.ID≤top∧Z5h s.Need=true∧s.Need.Pairwise (· < ·)∧0≤s.Age∧((s.State=1∧first=true)∨(s.State=0∧s.Age=0)):=by
 simp only [Z6h,Bool.and_eq_true,Bool.or_eq_true,decide_eq_true_eq]
theorem Z9q {last last' top top':Int} {first:Bool} {s:Sess} (h:Z6h last' top first s=true) (h1:last≤last') (h2:top≤top'):Z6h last top' first s=true:=by
 rw [Z8q] at h ⊢
 exact ⟨by omega,by omega,h.2.2⟩
theorem sessB_first {last top:Int} {first:Bool} {s:Sess} (h:Z6h last top false s=true):Z6h last top first s=true:=by
 rw [Z8q] at h ⊢
 refine ⟨h.1,h.2.1,h.2.2.1,h.2.2.2.1,h.2.2.2.2.1,.inr ?_⟩
 rcases h.2.2.2.2.2 with ⟨_,h⟩ | h
 ·simp at h
 ·exact h
theorem Zaq {top top':Int} (ht:top≤top'):∀ {l:List Sess} {last last':Int} {first:Bool},Z7h top last' false l=true→last≤last'→Z7h top' last first l=true
 | [],_,_,_,_,_=>rfl
 | s::l,last,last',first,h,hl=>by
   simp only [Z7h,Bool.and_eq_true] at h ⊢
   exact ⟨sessB_first (Z9q h.1 hl ht),Zaq ht h.2 (Int.le_refl _)⟩
theorem sessL_top {top top':Int} (ht:top≤top'):∀ {l:List Sess} {last:Int} {first:Bool},Z7h top last first l=true→Z7h top' last first l=true
 | [],_,_,_=>rfl
 | s::l,last,first,h=>by
   simp only [Z7h,Bool.and_eq_true] at h ⊢
   exact ⟨Z9q h.1 (Int.le_refl _) ht,sessL_top ht h.2⟩
theorem Zbq {top:Int}:∀ {l:List Sess} {last:Int} {first:Bool},Z7h top last first l=true→∀s∈l,last<s.ID∧s.ID≤top∧Z5h s.Need=true∧s.Need.Pairwise (· < ·)
 | [],_,_,_,s,hs=>by simp at hs
 | x::l,last,first,h,s,hs=>by
   simp only [Z7h,Bool.and_eq_true] at h
   have hx:=Z8q.1 h.1
   rcases List.mem_cons.1 hs with rfl | hs
   ·exact ⟨hx.1,hx.2.1,hx.2.2.1,hx.2.2.2.1⟩
   ·have:=Zbq h.2 s hs
    exact ⟨by omega,this.2⟩
theorem sessL_ids {top:Int}:∀ {l:List Sess} {last:Int} {first:Bool},Z7h top last first l=true→l.Pairwise fun x y=>x.ID<y.ID
 | [],_,_,_=>.nil
 | x::l,last,first,h=>by
   simp only [Z7h,Bool.and_eq_true] at h
   exact List.pairwise_cons.2 ⟨fun y hy=>(Zbq h.2 y hy).1,sessL_ids h.2⟩
theorem Zcq {top M:Int} {s:Sess} (hs:∀last≤M,∀f,Z6h last top f s=true):∀ {l:List Sess} {last:Int} {first:Bool},Z7h top last first l=true→last≤M→(∀x∈l,x.ID≤M)→Z7h top last first (l++[s])=true
 | [],last,first,_,hl,_=>by simp only [List.nil_append,Z7h,hs last hl first,Bool.true_and]
 | x::l,last,first,h,hl,hM=>by
   simp only [List.cons_append,Z7h,Bool.and_eq_true] at h ⊢
   exact ⟨h.1,Zcq hs h.2 (hM x (by simp)) fun y hy=>hM y (by simp [hy])⟩
theorem sessL_cut {top:Int}:∀ {l:List Sess} {last:Int} {first:Bool} (i:Nat),Z7h top last first l=true→Z7h top last first (l.take i++l.drop (i+1))=true
 | [],_,_,_,_=>by simp [Z7h]
 | x::l,last,first,0,h=>by
   simp only [Z7h,Bool.and_eq_true] at h
   have hx:=Z8q.1 h.1
   simpa using Zaq (Int.le_refl _) h.2 (by omega)
 | x::l,last,first,i+1,h=>by
   simp only [Z7h,Bool.and_eq_true] at h
   simp only [List.take_succ_cons,List.drop_succ_cons,List.cons_append,Z7h,Bool.and_eq_true]
   exact ⟨h.1,sessL_cut i h.2⟩
theorem Zdq {b:Book}:Z8h b=true↔0≤b.Last∧b.Sess.length≤8∧Z7h b.Last 0 true b.Sess=true:=by
 simp only [Z8h,Bool.and_eq_true,decide_eq_true_eq]
theorem okBk_few {b:Book} (h:Z8h b=true):Z9h b:=by
 obtain ⟨_,h2,h3⟩:=Zdq.1 h
 refine ⟨by omega,fun s hs=>?_⟩
 have:=(Zbq h3 s hs).2.2.1
 simp only [Z5h,Bool.and_eq_true,decide_eq_true_eq] at this
 omega
theorem openP_ok {b:Book} {id:Int} {need:List Int} (h:(Zkh b id need).2=0):Z8h b=true∧b.Last<id∧Z5h (Z7b need)=true∧b.Sess.length≠8∧Zkh b id need=(⟨id,b.Sess++[⟨id,Z7b need,0,0⟩]⟩,0):=by
 unfold Zkh at h ⊢
 cases hk:Z8h b
 ·rw [hk] at h;simp at h
 ·rw [hk] at h
  simp only [if_true] at h ⊢
  by_cases h1:id≤b.Last
  ·rw [if_pos h1] at h;simp at h
  ·rw [if_neg h1] at h ⊢
   cases h2:Z5h (Z7b need)
   ·rw [h2] at h;simp at h
   ·rw [h2] at h
    simp only [if_true] at h ⊢
    by_cases h3:b.Sess.length=8
    ·rw [if_pos h3] at h;simp at h
    ·exact ⟨trivial,by omega,trivial,h3,by rw [if_neg h3]⟩
theorem open_okBk {b:Book} {id:Int} {need:List Int} (h:(Zkh b id need).2=0):Z8h (Zkh b id need).1=true:=by
 obtain ⟨hk,h1,h2,h3,he⟩:=openP_ok h
 obtain ⟨k1,k2,k3⟩:=Zdq.1 hk
 rw [he,Zdq]
 dsimp only
 refine ⟨by omega,by simp;omega,Zcq (M:=b.Last) (fun last hl f=>?_) (sessL_top (by omega) k3) k1 fun x hx=>(Zbq k3 x hx).2.1⟩
 rw [Z8q]
 exact ⟨by dsimp only;omega,Int.le_refl _,h2,(Z0e need).1,Int.le_refl _,.inr ⟨rfl,rfl⟩⟩
theorem endP_ok {b:Book} {id want:Int} (h:(Zmh b id want).2=0):Z8h b=true∧∃i s,Zjh b id=some i∧b.Sess[i]?=some s∧s.ID=id∧s.State=want∧Zmh b id want=(⟨b.Last,b.Sess.take i++b.Sess.drop (i+1)⟩,0):=by
 unfold Zmh at h ⊢
 cases hk:Z8h b
 ·rw [hk] at h;simp at h
 ·rw [hk] at h
  simp only [if_true] at h ⊢
  refine ⟨trivial,?_⟩
  cases hf:Zjh b id with
  | none=>rw [hf] at h;simp at h
  | some i=>
    rw [hf] at h
    obtain ⟨s,hs,hid⟩:=Znh hf
    simp only [hs] at h ⊢
    by_cases h1:s.State=want
    ·exact ⟨i,s,rfl,hs,hid,h1,by rw [if_pos h1]⟩
    ·rw [if_neg h1] at h;simp at h
theorem cut_len {α:Type} {l:List α} {i:Nat} (h:i<l.length):(l.take i++l.drop (i+1)).length+1=l.length:=by simp;omega
theorem end_okBk {b:Book} {id want:Int} (h:(Zmh b id want).2=0):Z8h (Zmh b id want).1=true:=by
 obtain ⟨hk,i,s,_,hs,_,_,he⟩:=endP_ok h
 obtain ⟨k1,k2,k3⟩:=Zdq.1 hk
 have hi:=(List.getElem?_eq_some_iff.1 hs).1
 have:=cut_len hi
 rw [he,Zdq]
 exact ⟨k1,by dsimp only;omega,sessL_cut i k3⟩
theorem grant_okBk {b:Book} (h:(Zlh b).2.2=0):Z8h (Zlh b).1=true:=by
 obtain ⟨hk,s,l,hs,_,he⟩:=Zon h
 obtain ⟨k1,k2,k3⟩:=Zdq.1 hk
 rw [he,Zdq]
 rw [hs] at k2 k3
 simp only [Z7h,Bool.and_eq_true] at k3
 refine ⟨k1,by simpa using k2,?_⟩
 simp only [Z7h,Bool.and_eq_true]
 have hx:=Z8q.1 k3.1
 exact ⟨Z8q.2 ⟨hx.1,hx.2.1,hx.2.2.1,hx.2.2.2.1,hx.2.2.2.2.1,.inl ⟨rfl,rfl⟩⟩,k3.2⟩
theorem okM_few {m:Model} (h:okM m=true):fewM m:=by
 obtain ⟨h64,hp⟩:=(Zjn m).1 h
 refine ⟨by omega,fun p hm=>?_⟩
 obtain ⟨k,hk⟩:=List.mem_iff_getElem?.1 hm
 have:=hp k p hk
 simp only [Zin,Bool.and_eq_true,decide_eq_true_eq,List.all_eq_true] at this
 refine ⟨?_,okBk_few this.1⟩
 rcases pw_len p.Live 0 m.Places.length this.2.1 (fun x hx=>⟨(this.2.2 x hx).1,(this.2.2 x hx).2.1⟩) with e | e
 ·rw [e];simp
 ·omega
theorem Zeq {n i:Nat} {p:Place}:Zin n i p=true↔Z8h p.Book=true∧p.Live.Pairwise (· < ·)∧∀q∈p.Live,0≤q∧q<(n:Int)∧q≠(i:Int):=by
 simp only [Zin,Bool.and_eq_true,decide_eq_true_eq,List.all_eq_true,Bool.not_eq_true',decide_eq_false_iff_not,ne_eq]
theorem okM_set {m:Model} (h:okM m=true) {v:Int} {p:Place} (_:at_ m.Places v=some p) {p':Place} (hp:Zin m.Places.length v.toNat p'=true):okM ⟨m.Places.set v.toNat p'⟩=true:=by
 obtain ⟨h64,hk⟩:=(Zjn m).1 h
 rw [Zjn]
 dsimp only
 rw [List.length_set]
 refine ⟨h64,fun k q hq=>?_⟩
 rw [List.getElem?_set] at hq
 split at hq
 ·rename_i e
  split at hq
  ·simp at hq;subst hq;subst e;exact hp
  ·simp at hq
 ·exact hk k q hq
theorem okM_at {m:Model} (h:okM m=true) {v:Int} {p:Place} (hv:at_ m.Places v=some p):Zin m.Places.length v.toNat p=true:=by
 obtain ⟨_,_,h2⟩:=Zcn hv
 exact ((Zjn m).1 h).2 _ _ h2
theorem stepP_ok {m:Model} {e:Event} (h:(Zqn m e).2=0):okM m=true∧∃p,at_ m.Places e.Node=some p∧(ofE e=true→(∃q,at_ m.Places e.Peer=some q)∧e.Peer≠e.Node)∧(e.Kind=5∨Zgn p=[])∧0≤e.Kind∧e.Kind≤8∧Zqn m e=doP m p e:=by
 unfold Zqn at h ⊢
 cases hk:okM m
 ·rw [hk] at h;simp at h
 ·rw [hk] at h
  simp only [if_true] at h ⊢
  cases hp:at_ m.Places e.Node with
  | none=>rw [hp] at h;simp at h
  | some p=>
    rw [hp] at h
    dsimp only at h ⊢
    refine ⟨trivial,p,rfl,?_⟩
    by_cases h1:(ofE e&&(!(at_ m.Places e.Peer).isSome||decide (e.Peer=e.Node)))=true
    ·rw [if_pos h1] at h;simp at h
    ·rw [if_neg h1] at h ⊢
     by_cases h2:(!decide (e.Kind=5)&&decide (Zgn p≠ []))=true
     ·rw [if_pos h2] at h;simp at h
     ·rw [if_neg h2] at h ⊢
      by_cases h3:(decide (e.Kind<0)||decide (8<e.Kind))=true
      ·rw [if_pos h3] at h;simp at h
      ·rw [if_neg h3]
       simp only [Bool.and_eq_true,Bool.or_eq_true,decide_eq_true_eq,Bool.not_eq_true',decide_eq_false_iff_not,not_and,not_or,Classical.not_not] at h1 h2 h3
       refine ⟨fun ho=>?_,?_,by omega,by omega,rfl⟩
       ·obtain ⟨a,b⟩:=h1 ho
        refine ⟨?_,b⟩
        cases hq:at_ m.Places e.Peer with
        | none=>rw [hq] at a;simp at a
        | some q=>exact ⟨q,rfl⟩
       ·by_cases h5:e.Kind=5
        ·exact .inl h5
        ·exact .inr (h2 h5)
theorem edgeP_ok {P:List Place} {p:Place} {e:Event} (h:(Zmn P p e).2=0) (_:p.Live.Pairwise (· < ·)):
  (e.Kind=6∧e.Peer∉p.Live∧(Zmn P p e).1.Pairwise (· < ·)∧∀x,x∈(Zmn P p e).1↔x∈p.Live∨x=e.Peer)∨
  (e.Kind=7∧e.Peer∈p.Live∧(Zmn P p e).1.Pairwise (· < ·)∧∀x,x∈(Zmn P p e).1↔x∈p.Live∧x≠e.Peer)∨(e.Kind=8∧(Zmn P p e).1=p.Live):=by
 unfold Zmn at h ⊢
 by_cases h6:e.Kind=6
 ·left
  rw [if_pos h6] at h ⊢
  split at h
  ·rename_i hc
   rw [if_pos hc]
   simp only [Bool.and_eq_true,Bool.not_eq_true',decide_eq_false_iff_not] at hc
   obtain ⟨a,b⟩:=Z0e (p.Live++[e.Peer])
   exact ⟨h6,hc.1,a,fun x=>by rw [b x];simp⟩
  ·simp at h
 ·rw [if_neg h6] at h ⊢
  by_cases h7:e.Kind=7
  ·right;left
   rw [if_pos h7] at h ⊢
   split at h
   ·rename_i hc
    rw [if_pos hc]
    simp only [Bool.and_eq_true,decide_eq_true_eq] at hc
    obtain ⟨a,b⟩:=Z0e p.Live
    exact ⟨h7,hc.1,a.filter _,fun x=>by rw [List.mem_filter,b x];simp⟩
   ·simp at h
  ·rw [if_neg h7] at h ⊢
   by_cases h8:e.Kind=8
   ·right;right
    rw [if_pos h8] at h ⊢
    split at h
    ·rename_i hc
     rw [if_pos hc]
     exact ⟨h8,rfl⟩
    ·simp at h
   ·rw [if_neg h8] at h;simp at h
theorem grantMP_ok {P:List Place} {p:Place} {e:Event} (h:(Znn P p e).2=0):∃s l,Z8h p.Book=true∧p.Book.Sess=s::l∧s.State≠1∧(∀q∈s.Need,Zfn P q e.Node=false)∧(Znn P p e).1=⟨p.Book.Last,⟨s.ID,s.Need,1,s.Age⟩::l⟩∧Z8h (Znn P p e).1=true:=by
 unfold Znn at h ⊢
 by_cases h1:(Zlh p.Book).2.2=0
 ·rw [if_pos h1] at h ⊢
  by_cases h2:(Zlh p.Book).2.1=e.ID
  ·rw [if_pos h2] at h ⊢
   have hok:=grant_okBk h1
   obtain ⟨hk,s,l,hs,hst,hg⟩:=Zon h1
   rw [hg] at h hok ⊢
   dsimp only at h hok ⊢
   by_cases h3:(s.Need.any fun q=>Zfn P q e.Node)=true
   ·rw [if_pos h3] at h;simp at h
   ·rw [if_neg h3]
    rw [Bool.not_eq_true,List.any_eq_false] at h3
    exact ⟨s,l,hk,hs,hst,fun q hq=>by simpa using h3 q hq,rfl,hok⟩
  ·rw [if_neg h2] at h;simp at h
 ·rw [if_neg h1] at h;simp at h
theorem endR_ok {r:Book×Int} (h:(endR r).2=0):r.2=0∧(endR r).1=r.1:=by
 unfold endR at h ⊢
 by_cases h1:r.2=0
 ·rw [if_pos h1];exact ⟨h1,rfl⟩
 ·rw [if_neg h1] at h;simp at h
theorem sessionP_ok {P:List Place} {p:Place} {e:Event} (h:(Zpn P p e).2=0) (hk0:0≤e.Kind) (hk8:e.Kind≤8) (ho:ofE e=false):
  (e.Kind=0∧(Zkh p.Book e.ID e.Need).2=0∧(Zpn P p e).1=(Zkh p.Book e.ID e.Need).1)∨
  (e.Kind=1∧(Znn P p e).2=0∧(Zpn P p e).1=(Znn P p e).1)∨
  (∃want,(e.Kind=2∨e.Kind=3∨e.Kind=4∨e.Kind=5)∧(Zmh p.Book e.ID want).2=0∧(Zpn P p e).1=(Zmh p.Book e.ID want).1):=by
 have hne:e.Kind≠6∧e.Kind≠7∧e.Kind≠8:=by simpa [ofE,not_or] using ho
 unfold Zpn at h ⊢
 by_cases h0:e.Kind=0
 ·left
  rw [if_pos h0] at h ⊢
  by_cases h1:(Zkh p.Book e.ID e.Need).2=0
  ·rw [if_pos h1] at h ⊢
   split at h
   ·rename_i hc;rw [if_pos hc];exact ⟨h0,h1,rfl⟩
   ·simp at h
  ·rw [if_neg h1] at h;exact absurd h h1
 rw [if_neg h0] at h ⊢
 by_cases h1:e.Kind=1
 ·right;left
  rw [if_pos h1] at h ⊢
  exact ⟨h1,h,rfl⟩
 rw [if_neg h1] at h ⊢
 right;right
 by_cases h2:e.Kind=2
 ·rw [if_pos h2] at h ⊢
  obtain ⟨a,b⟩:=endR_ok h
  exact ⟨1,.inl h2,a,b⟩
 rw [if_neg h2] at h ⊢
 by_cases h4:e.Kind=4
 ·rw [if_pos h4] at h ⊢
  obtain ⟨a,b⟩:=endR_ok h
  exact ⟨1,.inr (.inr (.inl h4)),a,b⟩
 rw [if_neg h4] at h ⊢
 by_cases h5:e.Kind=5
 ·rw [if_pos h5] at h ⊢
  split at h
  ·rename_i hc
   rw [if_pos hc]
   obtain ⟨a,b⟩:=endR_ok h
   exact ⟨0,.inr (.inr (.inr h5)),a,b⟩
  ·simp at h
 rw [if_neg h5] at h ⊢
 by_cases h3:e.Kind=3
 ·rw [if_pos h3] at h ⊢
  obtain ⟨a,b⟩:=endR_ok h
  exact ⟨0,.inr (.inl h3),a,b⟩
 omega
theorem session_okBk {P:List Place} {p:Place} {e:Event} (h:(Zpn P p e).2=0) (hk0:0≤e.Kind) (hk8:e.Kind≤8) (ho:ofE e=false):Z8h (Zpn P p e).1=true:=by
 rcases sessionP_ok h hk0 hk8 ho with ⟨_,h1,h2⟩ | ⟨_,h1,h2⟩ | ⟨w,_,h1,h2⟩
 ·rw [h2];exact open_okBk h1
 ·rw [h2]
  obtain ⟨s,l,_,_,_,_,_,h⟩:=grantMP_ok h1
  exact h
 ·rw [h2];exact end_okBk h1
theorem stepP_place {m:Model} {e:Event} (h:(Zqn m e).2=0):∃p p',okM m=true∧at_ m.Places e.Node=some p∧(Zqn m e).1=⟨m.Places.set e.Node.toNat p'⟩∧Zin m.Places.length e.Node.toNat p'=true∧(e.Kind=5∨Zgn p=[])∧
  ((ofE e=true∧p'.Book=p.Book∧(Zmn m.Places p e).2=0∧p'.Live=(Zmn m.Places p e).1)∨(ofE e=false∧0≤e.Kind∧e.Kind≤8∧p'.Live=p.Live∧(Zpn m.Places p e).2=0∧p'.Book=(Zpn m.Places p e).1)):=by
 obtain ⟨hk,p,hp,hpe,hd,hk0,hk8,he⟩:=stepP_ok h
 have hB:=Zeq.1 (okM_at hk hp)
 rw [he] at h ⊢
 unfold doP at h ⊢
 cases ho:ofE e
 ·rw [ho] at h
  simp only [Bool.false_eq_true,if_false] at h ⊢
  by_cases h1:(Zpn m.Places p e).2=0
  ·rw [if_pos h1]
   refine ⟨p,⟨(Zpn m.Places p e).1,p.Live⟩,hk,hp,rfl,?_,hd,.inr ⟨by first | trivial | rfl,hk0,hk8,rfl,h1,rfl⟩⟩
   exact Zeq.2 ⟨session_okBk h1 hk0 hk8 ho,hB.2⟩
  ·rw [if_neg h1] at h;exact absurd h h1
 ·rw [ho] at h
  simp only [if_true] at h ⊢
  by_cases h1:(Zmn m.Places p e).2=0
  ·rw [if_pos h1]
   obtain ⟨⟨q,hq⟩,hne⟩:=hpe ho
   obtain ⟨q0,q1,_⟩:=Zcn hq
   obtain ⟨n0,n1,_⟩:=Zcn hp
   refine ⟨p,⟨p.Book,(Zmn m.Places p e).1⟩,hk,hp,rfl,?_,hd,.inl ⟨by first | trivial | rfl,rfl,h1,rfl⟩⟩
   rw [Zeq]
   dsimp only
   refine ⟨hB.1,?_⟩
   rcases edgeP_ok h1 hB.2.1 with ⟨_,_,a,b⟩ | ⟨_,_,a,b⟩ | ⟨_,a⟩
   ·refine ⟨a,fun x hx=>?_⟩
    rcases (b x).1 hx with hx | rfl
    ·exact hB.2.2 x hx
    ·exact ⟨q0,q1,by omega⟩
   ·exact ⟨a,fun x hx=>hB.2.2 x ((b x).1 hx).1⟩
   ·rw [a];exact hB.2
  ·rw [if_neg h1] at h;exact absurd h h1
theorem stepP_okM {m:Model} {e:Event} (h:(Zqn m e).2=0):okM (Zqn m e).1=true:=by
 obtain ⟨p,p',hk,hp,he,hB,_⟩:=stepP_place h
 rw [he]
 exact okM_set hk hp hB
theorem newM_ok {g:Graph} (hg:okG g=true):okM (Zkn g)=true:=by
 obtain ⟨h0,h64,_⟩:=Z0b hg
 rw [Zjn]
 simp only [Zkn,List.length_map,List.length_range]
 refine ⟨by omega,fun k p hk=>?_⟩
 rw [List.getElem?_map] at hk
 cases hr:(List.range g.N.toNat)[k]? with
 | none=>rw [hr] at hk;simp at hk
 | some a=>
   rw [hr] at hk
   simp only [Option.map_some,Option.some.injEq] at hk
   obtain ⟨hlt,hak⟩:=List.getElem?_eq_some_iff.1 hr
   simp at hak
   subst hak;subst hk
   rw [Zeq]
   refine ⟨rfl,nearL_pw hg _,fun q hq=>?_⟩
   have:=Z8b hg hq
   omega
set_option maxRecDepth 100000
set_option maxHeartbeats 4000000
@[go_sem] def e25:EC:=.seq (.reg [(Qx 2 77 2 0),(Qx 3 77 2 1),(Qa 4 (.mv (.c .ff)))]) (.seq (.reg [(Qf 5 0 2),(Ql 6 5),(Qf 7 0 3),(Ql 8 7),(Qa 9 (.bin .lss (.t 6) (.t 8))),(Qm 10 9),(Qh 11 10 false 0 2),(Qn 12 10 false 11),(Qh 13 10 false 0 3),(Qn 14 10 false 13),(Qg 15 10 false (.bin .eql (.t 12) (.t 14))),(Qg 16 10 false (.mv (.t 15))),(Qh 17 16 true 1 2),(Qn 18 16 true 17),(Qh 19 16 true 1 3),(Qn 20 16 true 19),(Qg 21 16 true (.bin .lss (.t 18) (.t 20))),(Qg 22 10 false (.pick (.t 16) (.t 21) (.c .ff))),(Qq 23 10 22),(Qm 4 23)]) (.ret))
theorem ok25:FnOK Tryz.prog 25 Tryz.f25 e25 [.t 4] 2 22:=⟨by kernel_rfl,⟨_,rfl,by kernel_rfl⟩,by kernel_rfl,by kernel_rfl⟩
noncomputable def Zfq:Bool→Option Bool
| x3=>
 some x3
noncomputable def Zgq (x1:Edge) (x2:Edge):Option Bool:=
 ifb (decide (x1.A<x2.A)) (
 Zfq true) (
 ifb (decide (x1.A=x2.A)) (
 Zfq (decide (x1.B<x2.B))) (
 Zfq false))
theorem Zhq (x1:Edge) (x2:Edge) (r:Bool) (h:Zgq x1 x2=some r):Zy2 Tryz.prog 25 [.agg (Edge.row x1),.agg (Edge.row x2)] (.bv r):=by
 refine Z23 ok25 rfl rfl fun w0 H0=>?_
 rw [Zgq] at h
 refine Zt2 14 ?_;dsimp only [go_sem];refine An ?_;refine Zu4 (fun (x3:Bool)=>(⟨(an 4 (.bv x3::an 19 [])),[],[]⟩:St)) Zfq r ?_ fun J1=>?_
 ·intro x3 h;rw [Zfq] at h;(try dsimp only);exact Z45 (res:=fun (r:Bool)=>.bv r) ok25 h
 ·refine Z35 10 h rfl (fun _ h=>?_) fun _ h=>?_
  ·dsimp only [go_sem];refine Zt2 15 ?_;dsimp only [go_sem];refine An ?_;exact Z65 J1 (s:=true) h
  ·dsimp only [go_sem];refine Zt2 6 ?_;dsimp only [go_sem];refine An ?_;refine Z35 16 h rfl (fun _ h=>?_) fun _ h=>?_
   ·dsimp only [go_sem];refine Zt2 9 ?_;dsimp only [go_sem];refine An ?_;exact Z65 J1 (s:=decide (x1.B<x2.B)) h
   ·dsimp only [go_sem];refine Zt2 9 ?_;dsimp only [go_sem];refine An ?_;exact Z65 J1 (s:=false) h
set_option maxRecDepth 100000
set_option maxHeartbeats 4000000
@[go_sem] def e9_L0:EC:=.seq (.seq (.reg [(Qm 19 3),(Qf 20 1 1),(Ql 21 20),(Qa 22 (.len (.t 21))),(Qa 23 (.bin .lss (.t 19) (.t 22)))]) (.ite (.t 23) (.skip) (.exit 0))) (.seq (.blk 1 (.seq (.reg [(Qf 26 1 1),(Ql 27 26),(Qm 28 3),(Qk 29 2 27 28),(Qe 30 2 29),(Qa 4 (.alloc 77 [.iv 0,.iv 0])),(Qs 2 4 30)]) (.seq (.drw [(Qf 31 0 4),(Ql 32 31),(Qa 33 (.bin .lss (.t 32) (.c (.iv 0)))),(Qm 34 33),(Qh 35 34 false 0 4),(Qn 36 34 false 35),(Qh 37 34 false 1 4),(Qn 38 34 false 37),(Qg 39 34 false (.bin .geq (.t 36) (.t 38))),(Qq 40 34 39),(Qm 41 40),(Qh 42 41 false 1 4),(Qn 43 41 false 42),(Qh 44 41 false 0 1),(Qn 45 41 false 44),(Qg 46 41 false (.bin .geq (.t 43) (.t 45))),(Qq 47 41 46),(Qm 48 47),(Qg 49 48 false (.mv (.t 3))),(Qg 50 48 false (.bin .gtr (.t 49) (.c (.iv 0)))),(Qg 51 48 false (.mv (.t 50))),(Qh 52 51 true 1 1),(Qn 53 51 true 52),(Qg 54 51 true (.mv (.t 3))),(Qg 55 51 true (.bin .sub (.t 54) (.c (.iv 1)))),(Qg 56 51 true (.idx 2 (.t 53) (.t 55))),(Qg 57 51 true (.loadA 2 (.t 56))),(Qg 58 51 true (.loadA 2 (.t 4))),(Qg 59 51 true (.call 25 [(.t 57),(.t 58)])),(Qg 60 51 true (.not (.t 59))),(Qg 61 48 false (.pick (.t 51) (.t 60) (.c .ff))),(Qq 62 48 61)] [[],[0],[1],[2],[3],[4,3],[3],[6,3],[5,7,3],[3,8],[9,3],[10],[11,10],[10],[13,10],[12,14,10],[10,15],[16,10],[17],[18,17],[19,17,17],[20],[21,20],[20],[23,20],[22,24,20],[25,20],[20],[26,27,20,20],[28,20],[20,29,17],[17,30]] [[1],[0,2],[1,3],[2,4,5,6,7,8,9],[3,5],[3,4,8],[3,7],[3,6,8],[3,5,7,9],[3,8,10],[9,11,12,13,14,15,16],[10,12],[10,11,15],[10,14],[10,13,15],[10,12,14,16],[10,15,17],[16,18,19,20,30,31],[17,19],[17,18,20],[17,19,21,22,23,24,25,26,27,28,29,30],[20,22],[20,21,25],[20,24],[20,23,25],[20,22,24,26],[20,25,28],[20,28],[20,26,27,29],[20,28,30],[17,20,29,31],[17,30]]) (.ite (.t 62) (.seq (.reg [(Qa 2 (.mv (.c .ff)))]) (.ret)) (.skip))))) (.reg [(Qm 24 3),(Qv 25 24 1),(Qm 3 25)]))
@[go_sem] def e9:EC:=.seq (.reg [(Qx 1 24 2 0),(Qa 2 (.mv (.c .ff)))]) (.seq (.seq (.reg [(Qf 5 0 1),(Ql 6 5),(Qa 7 (.bin .lss (.t 6) (.c (.iv 0)))),(Qm 8 7),(Qh 9 8 false 0 1),(Qn 10 8 false 9),(Qg 11 8 false (.bin .gtr (.t 10) (.c (.iv 64)))),(Qq 12 8 11),(Qm 13 12),(Qh 14 13 false 1 1),(Qn 15 13 false 14),(Qg 16 13 false (.len (.t 15))),(Qg 17 13 false (.bin .gtr (.t 16) (.c (.iv 400)))),(Qq 18 13 17)]) (.ite (.t 18) (.seq (.reg [(Qa 2 (.mv (.c .ff)))]) (.ret)) (.skip))) (.seq (.seq (.reg [(Qi 3 0)]) (.blk 0 (.loop e9_L0))) (.seq (.reg [(Qa 2 (.mv (.c .tt)))]) (.ret))))
theorem ok9:FnOK Tryz.prog 9 Tryz.f9 e9 [.t 2] 1 62:=⟨by kernel_rfl,⟨_,rfl,by kernel_rfl⟩,by kernel_rfl,by kernel_rfl⟩
noncomputable def Ziq:Unit→Option Bool
| ()=>
 some true
noncomputable def Zjq (x8:Int):Bool→Option (Int ⊕ Bool)
| x12=>
 ifb x12 (
 Option.map Sum.inr (some false)) (
 some (.inl (wr (x8+1))))
noncomputable def Zkq (x1:Graph):Int→Option (Int ⊕ Bool)
| x8=>
 ifb (decide (x8<(ln Edge.row x1.Edges))) (
 (at_ x1.Edges x8).bind fun x9=>
 ifb (decide (x9.A<0)) (
 (Zjq x8) true) (
 ifb (decide (x9.B≤x9.A)) (
 (Zjq x8) true) (
 ifb (decide (x1.N≤x9.B)) (
 (Zjq x8) true) (
 ifb (decide (0<x8)) (
 (at_ x1.Edges (wr (x8-1))).bind fun x10=>
 (Zgq x10 x9).bind fun x11=>
 (Zjq x8) (!x11)) (
 (Zjq x8) false))))) (
 Option.map Sum.inr (Ziq ()))
noncomputable def Zlq (x1:Graph):Bool→Option Bool
| x2=>
 ifb x2 (
 some false) (
 loop (Zkq x1) 0)
noncomputable def Zmq (x1:Graph):Option Bool:=
 ifb (decide (x1.N<0)) (
 (Zlq x1) true) (
 ifb (decide (64<x1.N)) (
 (Zlq x1) true) (
 (Zlq x1) (decide (400<(ln Edge.row x1.Edges)))))
theorem Znq (x1:Graph) (r:Bool) (h:Zmq x1=some r):Zy2 Tryz.prog 9 [.agg (Graph.row x1)] (.bv r):=by
 refine Z23 ok9 rfl rfl fun w0 H0=>?_
 rw [Zmq] at h
 refine Zt2 12 ?_;dsimp only [go_sem];refine An ?_;refine Zu4 (fun (x2:Bool)=>(⟨(.any :: .ptr 0 0::an 16 (.bv x2::an 44 [])),[some ⟨24,[.iv x1.N,.sl 2 (List.map Edge.row x1.Edges)]⟩],[]⟩:St)) (Zlq x1) r ?_ fun J1=>?_
 ·intro x2 h;rw [Zlq] at h;(try dsimp only);refine Zw4 h rfl (fun _ h=>?_) fun _ h=>?_
  ·refine Zt2 4 ?_;dsimp only [go_sem];refine An ?_;exact Z45 (res:=fun (r:Bool)=>.bv r) ok9 h
  ·refine Zt2 6 ?_;dsimp only [go_sem];refine An ?_;refine Zu4 (fun (_:Unit)=>(⟨(an 63 []),[],[]⟩:St)) Ziq r ?_ fun J2=>?_
   ·rintro ⟨⟩ h;rw [Ziq] at h;(try dsimp only);refine Zt2 4 ?_;dsimp only [go_sem];refine An ?_;exact Z45 (res:=fun (r:Bool)=>.bv r) ok9 h
   ·refine Zt2 1 ?_;dsimp only [go_sem];refine An ?_;refine Zv4 h (fun (x8:Int)=>(⟨(.any :: .ptr 0 0 :: .any :: .iv x8::an 59 []),[some ⟨24,[.iv x1.N,.sl 2 (List.map Edge.row x1.Edges)]⟩],[]⟩:St)) (by simp [go_sem]) (by intro x8;first | rfl | simp [go_sem]) ?_;rintro n1 x8 y1 h hin1 hout1;rw [Zkq] at h;(try dsimp only);refine Zt2 9 ?_;dsimp only [go_sem];refine An ?_;refine Zw4 h rfl (fun _ h=>?_) fun _ h=>?_
    ·refine Zt2 8 ?_;dsimp only [go_sem];refine An ?_;obtain ⟨x9,ex9,h⟩:=Bs h;refine Zz4 Edge.row ex9 trivial rfl rfl rfl ?_;refine Zt2 5 ?_;dsimp only [go_sem];refine An ?_;refine Zu4 (fun (x12:Bool)=>(⟨(.any :: .ptr 0 0 :: .any :: .iv x8::an 58 [.bv x12]),[some ⟨24,[.iv x1.N,.sl 2 (List.map Edge.row x1.Edges)]⟩],[]⟩:St)) (Zjq x8) y1 ?_ fun J3=>?_
     ·intro x12 h;rw [Zjq] at h;(try dsimp only);refine Zw4 h rfl (fun _ h=>?_) fun _ h=>?_
      ·refine Zt2 4 ?_;dsimp only [go_sem];refine An ?_;exact Z45 (res:=fun (r:Bool)=>.bv r) ok9 (Zt4 h hout1)
      ·refine Zt2 7 ?_;dsimp only [go_sem];refine An ?_;exact Z55 h hin1
     ·refine Zs3 (by kernel_rfl) fun all hall hs hnap haf=>?_;dsimp only [go_sem];refine Zq5 hall hs haf hnap 4 28 [4,28] [(31,[.ptr 1 0,.iv x9.A,.bv (decide (x9.A<0)),.bv (decide (x9.A<0))])] (by kernel_rfl) ?_;dsimp only [go_sem];refine Ze5 34 h rfl (fun _ h=>?_) fun _ h=>?_
      ·dsimp only [go_sem];refine Zq5 hall hs haf hnap 28 0 [32] [(35,[.un,.un,.un,.un,.un,.tt,.tt,.un,.un,.un,.un,.un,.tt,.tt,.un,.un,.un,.un,.un,.un,.un,.un,.un,.un,.un,.un,.un,.tt])] (by kernel_rfl) ?_;dsimp only [go_sem];refine Z24 rfl ?_ _;exact Z65 J3 (s:=true) h
      ·dsimp only [go_sem];refine Zq5 hall hs haf hnap 7 21 [11,21] [(35,[.ptr 1 0,.iv x9.A,.ptr 1 1,.iv x9.B,.bv (decide (x9.B≤x9.A)),.bv (decide (x9.B≤x9.A)),.bv (decide (x9.B≤x9.A))])] (by kernel_rfl) ?_;dsimp only [go_sem];refine Ze5 41 h rfl (fun _ h=>?_) fun _ h=>?_
       ·dsimp only [go_sem];refine Zq5 hall hs haf hnap 21 0 [32] [(42,[.un,.un,.un,.un,.un,.tt,.tt,.un,.un,.un,.un,.un,.un,.un,.un,.un,.un,.un,.un,.un,.tt])] (by kernel_rfl) ?_;dsimp only [go_sem];refine Z24 rfl ?_ _;exact Z65 J3 (s:=true) h
       ·dsimp only [go_sem];refine Zq5 hall hs haf hnap 7 14 [18,14] [(42,[.ptr 1 1,.iv x9.B,.ptr 0 0,.iv x1.N,.bv (decide (x1.N≤x9.B)),.bv (decide (x1.N≤x9.B)),.bv (decide (x1.N≤x9.B))])] (by kernel_rfl) ?_;dsimp only [go_sem];refine Ze5 48 h rfl (fun _ h=>?_) fun _ h=>?_
        ·dsimp only [go_sem];refine Zq5 hall hs haf hnap 14 0 [32] [(49,[.un,.un,.un,.un,.un,.un,.un,.un,.un,.un,.un,.un,.un,.tt])] (by kernel_rfl) ?_;dsimp only [go_sem];refine Z24 rfl ?_ _;exact Z65 J3 (s:=true) h
        ·dsimp only [go_sem];refine Zq5 hall hs haf hnap 3 11 [21,11] [(49,[.iv x8,.bv (decide (0<x8)),.bv (decide (0<x8))])] (by kernel_rfl) ?_;dsimp only [go_sem];refine Ze5 51 h rfl (fun _ h=>?_) fun _ h=>?_
         ·dsimp only [go_sem];refine Zq5 hall hs haf hnap 5 6 [25,2,1,4] [(52,[.ptr 0 1,.sl 2 (List.map Edge.row x1.Edges),.iv x8,.iv (wr (x8-1))]),(2,[.agg [.iv x9.A,.iv x9.B]])] (by kernel_rfl) ?_;dsimp only [go_sem];obtain ⟨x10,ex10,h⟩:=Bs h;refine Z05 hall hs haf hnap 25 Edge.row ex10 rfl rfl trivial rfl rfl rfl rfl ?_;refine Zp5 hall hs haf hnap 1 4 ?_;dsimp only [go_sem];refine An ?_;refine Z34 28 rfl ?_;obtain ⟨x11,ex11,h⟩:=Bs h;refine Z84 hall rfl trivial (Zhq x10 x9 _ ex11) (h:=?_);dsimp only [go_sem]
          refine Zq5 hall hs haf hnap 3 0 [32] [(60,[.bv (!x11),.bv (!x11),.bv (!x11)])] (by kernel_rfl) ?_;dsimp only [go_sem];refine Z24 rfl ?_ _;exact Z65 J3 (s:=!x11) h
         ·dsimp only [go_sem];refine Zq5 hall hs haf hnap 11 0 [32] [(52,[.un,.un,.un,.un,.un,.un,.un,.un,.un,.ff,.ff])] (by kernel_rfl) ?_;dsimp only [go_sem];refine Z24 rfl ?_ _;exact Z65 J3 (s:=false) h
    ·refine Zt2 1 ?_;dsimp only [go_sem];refine An ?_;exact Z65 J2 (s:=()) (Zt4 h hout1)
 ·refine Z35 8 h rfl (fun _ h=>?_) fun _ h=>?_
  ·dsimp only [go_sem];refine Zt2 11 ?_;dsimp only [go_sem];refine An ?_;exact Z65 J1 (s:=true) h
  ·dsimp only [go_sem];refine Zt2 5 ?_;dsimp only [go_sem];refine An ?_;refine Z35 13 h rfl (fun _ h=>?_) fun _ h=>?_
   ·dsimp only [go_sem];refine Zt2 6 ?_;dsimp only [go_sem];refine An ?_;exact Z65 J1 (s:=true) h
   ·dsimp only [go_sem];refine Zt2 6 ?_;dsimp only [go_sem];refine An ?_;exact Z65 J1 (s:=decide (400<(ln Edge.row x1.Edges))) h
set_option maxRecDepth 100000
set_option maxHeartbeats 4000000
@[go_sem] def e62_L0:EC:=.seq (.seq (.reg [(Qm 9 7),(Qf 10 1 3),(Ql 11 10),(Qa 12 (.len (.t 11))),(Qa 13 (.bin .lss (.t 9) (.t 12)))]) (.ite (.t 13) (.skip) (.exit 0))) (.seq (.blk 1 (.seq (.reg [(Qf 16 1 3),(Ql 17 16),(Qm 18 7),(Qk 19 2 17 18),(Qe 20 2 19),(Qa 8 (.alloc 77 [.iv 0,.iv 0])),(Qs 2 8 20)]) (.seq (.reg [(Qf 21 0 8),(Ql 22 21),(Qm 23 1),(Qa 24 (.bin .eql (.t 22) (.t 23))),(Qm 25 24),(Qh 26 25 true 1 8),(Qn 27 25 true 26),(Qg 28 25 true (.mv (.t 2))),(Qg 29 25 true (.bin .eql (.t 27) (.t 28))),(Qp 30 25 29),(Qm 31 30),(Qg 32 31 true (.mv (.t 1))),(Qg 33 31 true (.mv (.t 2))),(Qg 34 31 true (.bin .leq (.t 32) (.t 33))),(Qp 35 31 34),(Qm 36 35),(Qh 37 36 false 0 8),(Qn 38 36 false 37),(Qg 39 36 false (.mv (.t 2))),(Qg 40 36 false (.bin .eql (.t 38) (.t 39))),(Qg 41 36 false (.mv (.t 40))),(Qh 42 41 true 1 8),(Qn 43 41 true 42),(Qg 44 41 true (.mv (.t 1))),(Qg 45 41 true (.bin .eql (.t 43) (.t 44))),(Qg 46 36 false (.pick (.t 41) (.t 45) (.c .ff))),(Qg 47 36 false (.mv (.t 46))),(Qg 48 47 true (.mv (.t 2))),(Qg 49 47 true (.mv (.t 1))),(Qg 50 47 true (.bin .lss (.t 48) (.t 49))),(Qg 51 36 false (.pick (.t 47) (.t 50) (.c .ff))),(Qq 52 36 51)]) (.ite (.t 52) (.seq (.reg [(Qa 6 (.mv (.c .tt)))]) (.ret)) (.skip))))) (.reg [(Qm 14 7),(Qv 15 14 1),(Qm 7 15)]))
@[go_sem] def e62:EC:=.seq (.reg [(Qx 3 24 2 0),(Qa 6 (.mv (.c .ff)))]) (.seq (.seq (.reg [(Qi 7 0)]) (.blk 0 (.loop e62_L0))) (.seq (.reg [(Qa 6 (.mv (.c .ff)))]) (.ret)))
theorem ok62:FnOK Tryz.prog 62 Tryz.f62 e62 [.t 6] 3 50:=⟨by kernel_rfl,⟨_,rfl,by kernel_rfl⟩,by kernel_rfl,by kernel_rfl⟩
noncomputable def Zoq:Unit→Option Bool
| ()=>
 some false
noncomputable def Zpq (x7:Int):Bool→Option (Int ⊕ Bool)
| x9=>
 ifb x9 (
 Option.map Sum.inr (some true)) (
 some (.inl (wr (x7+1))))
noncomputable def Zqq (x1:Graph) (x2:Int) (x3:Int):Int→Option (Int ⊕ Bool)
| x7=>
 ifb (decide (x7<(ln Edge.row x1.Edges))) (
 (at_ x1.Edges x7).bind fun x8=>
 ifb (decide (x8.A=x2)) (
 ifb (decide (x8.B=x3)) (
 ifb (decide (x2≤x3)) (
 (Zpq x7) true) (
 ifb (decide (x8.A=x3)) (
 ifb (decide (x8.B=x2)) (
 (Zpq x7) (decide (x3<x2))) (
 (Zpq x7) false)) (
 (Zpq x7) false))) (
 ifb (decide (x8.A=x3)) (
 ifb (decide (x8.B=x2)) (
 (Zpq x7) (decide (x3<x2))) (
 (Zpq x7) false)) (
 (Zpq x7) false))) (
 ifb (decide (x8.A=x3)) (
 ifb (decide (x8.B=x2)) (
 (Zpq x7) (decide (x3<x2))) (
 (Zpq x7) false)) (
 (Zpq x7) false))) (
 Option.map Sum.inr (Zoq ()))
noncomputable def Zrq (x1:Graph) (x2:Int) (x3:Int):Option Bool:=
 loop (Zqq x1 x2 x3) 0
theorem Zsq (x1:Graph) (x2:Int) (x3:Int) (r:Bool) (h:Zrq x1 x2 x3=some r):Zy2 Tryz.prog 62 [.agg (Graph.row x1),.iv x2,.iv x3] (.bv r):=by
 refine Z23 ok62 rfl rfl fun w0 H0=>?_
 rw [Zrq] at h
 refine Zt2 10 ?_;dsimp only [go_sem];refine An ?_;refine Zu4 (fun (_:Unit)=>(⟨(an 53 []),[],[]⟩:St)) Zoq r ?_ fun J1=>?_
 ·rintro ⟨⟩ h;rw [Zoq] at h;(try dsimp only);refine Zt2 4 ?_;dsimp only [go_sem];refine An ?_;exact Z45 (res:=fun (r:Bool)=>.bv r) ok62 h
 ·refine Zt2 1 ?_;dsimp only [go_sem];refine An ?_;refine Zv4 h (fun (x7:Int)=>(⟨(.any :: .iv x2 :: .iv x3 :: .ptr 0 0::an 3 (.iv x7::an 45 [])),[some ⟨24,[.iv x1.N,.sl 2 (List.map Edge.row x1.Edges)]⟩],[]⟩:St)) (by simp [go_sem]) (by intro x7;first | rfl | simp [go_sem]) ?_;rintro n1 x7 y1 h hin1 hout1;rw [Zqq] at h;(try dsimp only);refine Zt2 9 ?_;dsimp only [go_sem];refine An ?_;refine Zw4 h rfl (fun _ h=>?_) fun _ h=>?_
  ·refine Zt2 8 ?_;dsimp only [go_sem];refine An ?_;obtain ⟨x8,ex8,h⟩:=Bs h;refine Zz4 Edge.row ex8 trivial rfl rfl rfl ?_;refine Zt2 11 ?_;dsimp only [go_sem];refine An ?_;refine Zu4 (fun (x9:Bool)=>(⟨(.any :: .iv x2 :: .iv x3 :: .ptr 0 0::an 3 (.iv x7::an 44 [.bv x9])),[some ⟨24,[.iv x1.N,.sl 2 (List.map Edge.row x1.Edges)]⟩],[]⟩:St)) (Zpq x7) y1 ?_ fun J2=>?_
   ·intro x9 h;rw [Zpq] at h;(try dsimp only);refine Zw4 h rfl (fun _ h=>?_) fun _ h=>?_
    ·refine Zt2 4 ?_;dsimp only [go_sem];refine An ?_;exact Z45 (res:=fun (r:Bool)=>.bv r) ok62 (Zt4 h hout1)
    ·refine Zt2 7 ?_;dsimp only [go_sem];refine An ?_;exact Z55 h hin1
   ·refine Z35 25 h rfl (fun _ h=>?_) fun _ h=>?_
    ·dsimp only [go_sem];refine Zt2 6 ?_;dsimp only [go_sem];refine An ?_;refine Z35 31 h rfl (fun _ h=>?_) fun _ h=>?_
     ·dsimp only [go_sem];refine Zt2 5 ?_;dsimp only [go_sem];refine An ?_;refine Z35 36 h rfl (fun _ h=>?_) fun _ h=>?_
      ·dsimp only [go_sem];refine Zt2 17 ?_;dsimp only [go_sem];refine An ?_;exact Z65 J2 (s:=true) h
      ·dsimp only [go_sem];refine Zt2 5 ?_;dsimp only [go_sem];refine An ?_;refine Z35 41 h rfl (fun _ h=>?_) fun _ h=>?_
       ·dsimp only [go_sem];refine Zt2 6 ?_;dsimp only [go_sem];refine An ?_;refine Z35 47 h rfl (fun _ h=>?_) fun _ h=>?_
        ·dsimp only [go_sem];refine Zt2 6 ?_;dsimp only [go_sem];refine An ?_;exact Z65 J2 (s:=decide (x3<x2)) h
        ·dsimp only [go_sem];refine Zt2 6 ?_;dsimp only [go_sem];refine An ?_;exact Z65 J2 (s:=false) h
       ·dsimp only [go_sem];refine Zt2 12 ?_;dsimp only [go_sem];refine An ?_;exact Z65 J2 (s:=false) h
     ·dsimp only [go_sem];refine Zt2 10 ?_;dsimp only [go_sem];refine An ?_;refine Z35 41 h rfl (fun _ h=>?_) fun _ h=>?_
      ·dsimp only [go_sem];refine Zt2 6 ?_;dsimp only [go_sem];refine An ?_;refine Z35 47 h rfl (fun _ h=>?_) fun _ h=>?_
       ·dsimp only [go_sem];refine Zt2 6 ?_;dsimp only [go_sem];refine An ?_;exact Z65 J2 (s:=decide (x3<x2)) h
       ·dsimp only [go_sem];refine Zt2 6 ?_;dsimp only [go_sem];refine An ?_;exact Z65 J2 (s:=false) h
      ·dsimp only [go_sem];refine Zt2 12 ?_;dsimp only [go_sem];refine An ?_;exact Z65 J2 (s:=false) h
    ·dsimp only [go_sem];refine Zt2 16 ?_;dsimp only [go_sem];refine An ?_;refine Z35 41 h rfl (fun _ h=>?_) fun _ h=>?_
     ·dsimp only [go_sem];refine Zt2 6 ?_;dsimp only [go_sem];refine An ?_;refine Z35 47 h rfl (fun _ h=>?_) fun _ h=>?_
      ·dsimp only [go_sem];refine Zt2 6 ?_;dsimp only [go_sem];refine An ?_;exact Z65 J2 (s:=decide (x3<x2)) h
      ·dsimp only [go_sem];refine Zt2 6 ?_;dsimp only [go_sem];refine An ?_;exact Z65 J2 (s:=false) h
     ·dsimp only [go_sem];refine Zt2 12 ?_;dsimp only [go_sem];refine An ?_;exact Z65 J2 (s:=false) h
  ·refine Zt2 1 ?_;dsimp only [go_sem];refine An ?_;exact Z65 J1 (s:=()) (Zt4 h hout1)
set_option maxRecDepth 100000
set_option maxHeartbeats 4000000
@[go_sem] def e26_L0:EC:=.seq (.seq (.reg [(Qm 8 6),(Qf 9 0 2),(Ql 10 9),(Qa 11 (.bin .lss (.t 8) (.t 10))),(Qm 12 11),(Qg 13 12 true (.loadA 2 (.t 2))),(Qg 14 12 true (.call 9 [(.t 13)])),(Qp 15 12 14)]) (.ite (.t 15) (.skip) (.exit 0))) (.seq (.blk 1 (.seq (.reg [(Qe 18 2 2),(Qm 19 1),(Qm 20 6),(Qa 21 (.call 62 [(.t 18),(.t 19),(.t 20)]))]) (.ite (.t 21) (.reg [(Qm 22 5),(Qm 23 6),(Qa 24 (.bsl 3 1 1 [.iv 0] [(0,(.t 23))])),(Qa 25 (.app 3 1 8 (.t 22) (.t 24))),(Qm 5 25)]) (.skip)))) (.reg [(Qm 16 6),(Qv 17 16 1),(Qm 6 17)]))
@[go_sem] def e26:EC:=.seq (.reg [(Qx 2 24 2 0),(Qa 4 (.mv (.c .nl)))]) (.seq (.reg [(Qa 7 (.bsl 3 1 0 [.iv 0] [])),(Qm 5 7)]) (.seq (.seq (.reg [(Qi 6 0)]) (.blk 0 (.loop e26_L0))) (.seq (.reg [(Qm 26 5),(Qm 4 26)]) (.ret))))
theorem ok26:FnOK Tryz.prog 26 Tryz.f26 e26 [.t 4] 2 25:=⟨by kernel_rfl,⟨_,rfl,by kernel_rfl⟩,by kernel_rfl,by kernel_rfl⟩
noncomputable def Ztq:(List Int)→Option (List Int)
| x23=>
 some x23
noncomputable def Zuq (x10:Int):(List Int)→Option ((Int×(List Int)) ⊕ (List Int))
| x16=>
 some (.inl (wr (x10+1),x16))
noncomputable def Zvq (x1:Graph) (x2:Int) (x10:Int) (x11:(List Int)):Bool→Option ((Int×(List Int)) ⊕ (List Int))
| x13=>
 ifb x13 (
 (Zrq x1 x2 x10).bind fun x14=>
 ifb x14 (
 (Zh4 8 x11 ([x10])).bind fun x15=>
 (Zuq x10) x15) (
 (Zuq x10) x11)) (
 Option.map Sum.inr (Ztq x11))
noncomputable def Zwq (x1:Graph) (x2:Int):(Int×(List Int))→Option ((Int×(List Int)) ⊕ (List Int))
| (x10,x11)=>
 ifb (decide (x10<x1.N)) (
 (Zmq x1).bind fun x12=>
 (Zvq x1 x2 x10 x11) x12) (
 (Zvq x1 x2 x10 x11) false)
noncomputable def Zxq (x1:Graph) (x2:Int):Option (List Int):=
 loop (Zwq x1 x2) (0,([]:List Int))
theorem Zyq (x1:Graph) (x2:Int) (r:(List Int)) (h:Zxq x1 x2=some r):FunO Tryz.prog 26 [.agg (Graph.row x1),.iv x2] 3 1 (List.map Zb5 r):=by
 refine Zj5 ok26 rfl fun w0 H0=>?_
 rw [Zxq] at h
 refine Zt2 15 ?_;dsimp only [go_sem];refine An ?_;refine Zu4 (fun (x23:(List Int))=>(⟨(an 5 (.osl 0::an 21 [])),[],[some ⟨3,1,List.map Zb5 x23⟩]⟩:St)) Ztq r ?_ fun J1=>?_
 ·intro x23 h;rw [Ztq] at h;(try dsimp only);refine Zt2 5 ?_;dsimp only [go_sem];refine An ?_;exact Zr5 Zb5 ok26 h rfl rfl
 ·refine Zt2 1 ?_;dsimp only [go_sem];refine An ?_;refine Zv4 h (fun ((x10,x11):(Int×(List Int)))=>(⟨(.any :: .iv x2 :: .ptr 0 0 :: .any :: .any :: .osl 0 :: .iv x10::an 20 []),[some ⟨24,[.iv x1.N,.sl 2 (List.map Edge.row x1.Edges)]⟩],[some ⟨3,1,List.map Zb5 x11⟩]⟩:St)) (by simp [go_sem]) (by rintro ⟨x10,x11⟩;first | rfl | simp [go_sem]) ?_;rintro n1 ⟨x10,x11⟩ y1 h hin1 hout1;rw [Zwq] at h;(try dsimp only);refine Zt2 8 ?_;dsimp only [go_sem];refine An ?_
  refine Zu4 (fun (x13:Bool)=>(⟨(.any :: .iv x2 :: .ptr 0 0 :: .any :: .any :: .osl 0 :: .iv x10::an 8 (.bv x13::an 11 [])),[some ⟨24,[.iv x1.N,.sl 2 (List.map Edge.row x1.Edges)]⟩],[some ⟨3,1,List.map Zb5 x11⟩]⟩:St)) (Zvq x1 x2 x10 x11) y1 ?_ fun J2=>?_
  ·intro x13 h;rw [Zvq] at h;(try dsimp only);refine Zw4 h rfl (fun _ h=>?_) fun _ h=>?_
   ·refine Zt2 8 ?_;dsimp only [go_sem];refine An ?_;obtain ⟨x14,ex14,h⟩:=Bs h;refine Z73 trivial (Zsq x1 x2 x10 _ ex14) (h:=?_);refine Zt2 1 ?_;dsimp only [go_sem];refine An ?_;refine Zu4 (fun (x16:(List Int))=>(⟨(.any :: .iv x2 :: .ptr 0 0 :: .any :: .any :: .osl 0 :: .iv x10::an 20 []),[some ⟨24,[.iv x1.N,.sl 2 (List.map Edge.row x1.Edges)]⟩],[some ⟨3,1,List.map Zb5 x16⟩]⟩:St)) (Zuq x10) y1 ?_ fun J3=>?_
    ·intro x16 h;rw [Zuq] at h;(try dsimp only);refine Zt2 6 ?_;dsimp only [go_sem];refine An ?_;exact Z55 h hin1
    ·refine Zw4 h rfl (fun _ h=>?_) fun _ h=>?_
     ·refine Zt2 4 ?_;dsimp only [go_sem];refine An ?_;obtain ⟨x15,ex15,h⟩:=Bs h;refine Z15 Zb5 ex15 trivial rfl rfl rfl ?_;refine Zt2 2 ?_;dsimp only [go_sem];refine An ?_;refine Zd4 2 0 rfl rfl rfl ?_;dsimp only [go_sem];exact Z65 J3 (s:=x15) h
     ·refine Zt2 1 ?_;dsimp only [go_sem];refine An ?_;exact Z65 J3 (s:=x11) h
   ·refine Zt2 1 ?_;dsimp only [go_sem];refine An ?_;exact Z65 J1 (s:=x11) (Zt4 h hout1)
  ·refine Z35 12 h rfl (fun _ h=>?_) fun _ h=>?_
   ·dsimp only [go_sem];refine Zt2 1 ?_;dsimp only [go_sem];refine An ?_;obtain ⟨x12,ex12,h⟩:=Bs h;refine Z73 trivial (Znq x1 _ ex12) (h:=?_);refine Zt2 2 ?_;dsimp only [go_sem];refine An ?_;exact Z65 J2 (s:=x12) h
   ·dsimp only [go_sem];refine Zt2 4 ?_;dsimp only [go_sem];refine An ?_;exact Z65 J2 (s:=false) h
theorem Zzq (x1:Graph) (x2:Int) (r:(List Int)) (h:Zxq x1 x2=some r):Zy2 Tryz.prog 26 [.agg (Graph.row x1),.iv x2] (.sl 1 (List.map Zb5 r)):=(Zyq x1 x2 r h).sealed
set_option maxRecDepth 100000
set_option maxHeartbeats 4000000
@[go_sem] def e95_L0:EC:=.seq (.seq (.reg [(Qm 7 6),(Qm 8 0),(Qa 9 (.len (.t 8))),(Qa 10 (.bin .lss (.t 7) (.t 9)))]) (.ite (.t 10) (.skip) (.exit 0))) (.seq (.blk 1 (.seq (.drw [(Qm 13 0),(Qm 14 6),(Qk 15 1 13 14),(Ql 16 15),(Qm 17 1),(Qa 18 (.bin .lss (.t 16) (.t 17))),(Qm 19 18),(Qg 20 19 true (.mv (.t 0))),(Qg 21 19 true (.mv (.t 6))),(Qg 22 19 true (.slice 1 (.t 20) none (some (.t 21)))),(Qg 23 19 true (.mv (.t 0))),(Qg 24 19 true (.mv (.t 6))),(Qg 25 19 true (.idx 1 (.t 23) (.t 24))),(Qn 26 19 true 25),(Qg 27 19 true (.call 30 [(.t 22),(.t 26)])),(Qg 28 19 true (.not (.t 27))),(Qp 29 19 28)] [[],[],[0,1],[2],[],[3,4],[5],[6],[6],[7,8,6],[6],[6],[10,11,6],[12,6],[9,13,6,6],[14,6],[6,15]] [[2],[2],[0,1,3],[2,5],[5],[3,4,6],[5,7,8,9,10,11,12,13,14,15,16],[6,9],[6,9],[6,7,8,14],[6,12],[6,12],[6,10,11,13],[6,12,14],[6,9,13,15],[6,14,16],[6,15]]) (.ite (.t 29) (.reg [(Qm 30 5),(Qv 31 30 1),(Qm 5 31)]) (.skip)))) (.reg [(Qm 11 6),(Qv 12 11 1),(Qm 6 12)]))
@[go_sem] def e95:EC:=.seq (.reg [(Qi 4 0)]) (.seq (.reg [(Qi 5 0)]) (.seq (.seq (.reg [(Qi 6 0)]) (.blk 0 (.loop e95_L0))) (.seq (.reg [(Qm 32 5),(Qm 4 32)]) (.ret))))
theorem ok95:FnOK Tryz.prog 95 Tryz.f95 e95 [.t 4] 2 31:=⟨by kernel_rfl,⟨_,rfl,by kernel_rfl⟩,by kernel_rfl,by kernel_rfl⟩
noncomputable def Z0r:Int→Option Int
| x25=>
 some x25
noncomputable def Z1r (x12:Int):Int→Option ((Int×Int) ⊕ Int)
| x18=>
 some (.inl (x18,wr (x12+1)))
noncomputable def Z2r (x11:Int) (x12:Int):Bool→Option ((Int×Int) ⊕ Int)
| x17=>
 ifb x17 (
 (Z1r x12) (wr (x11+1))) (
 (Z1r x12) x11)
noncomputable def Z3r (x1:(List Int)) (x2:Int):(Int×Int)→Option ((Int×Int) ⊕ Int)
| (x11,x12)=>
 ifb (decide (x12<(ln Zb5 x1))) (
 (at_ x1 x12).bind fun x13=>
 ifb (decide (x13<x2)) (
 (at_ x1 x12).bind fun x14=>
 (Zi4 x1 0 x12).bind fun x15=>
 (Z7a x15 x14).bind fun x16=>
 (Z2r x11 x12) (!x16)) (
 (Z2r x11 x12) false)) (
 Option.map Sum.inr (Z0r x11))
noncomputable def Z4r (x1:(List Int)) (x2:Int):Option Int:=
 loop (Z3r x1 x2) (0,0)
theorem Z5r (x1:(List Int)) (x2:Int) (r:Int) (h:Z4r x1 x2=some r):Zy2 Tryz.prog 95 [.sl 1 (List.map Zb5 x1),.iv x2] (.iv r):=by
 refine Z23 ok95 rfl rfl fun w0 H0=>?_
 rw [Z4r] at h
 refine Zt2 13 ?_;dsimp only [go_sem];refine An ?_;refine Zu4 (fun (x25:Int)=>(⟨(an 5 (.iv x25::an 27 [])),[],[]⟩:St)) Z0r r ?_ fun J1=>?_
 ·intro x25 h;rw [Z0r] at h;(try dsimp only);refine Zt2 5 ?_;dsimp only [go_sem];refine An ?_;exact Z45 (res:=fun (r:Int)=>.iv r) ok95 h
 ·refine Zt2 1 ?_;dsimp only [go_sem];refine An ?_;refine Zv4 h (fun ((x11,x12):(Int×Int))=>(⟨(.sl 1 (List.map Zb5 x1) :: .iv x2::an 3 (.iv x11 :: .iv x12::an 26 [])),[],[]⟩:St)) (by simp [go_sem]) (by rintro ⟨x11,x12⟩;first | rfl | simp [go_sem]) ?_;rintro n1 ⟨x11,x12⟩ y1 h hin1 hout1;rw [Z3r] at h;(try dsimp only);refine Zt2 8 ?_;dsimp only [go_sem];refine An ?_;refine Zw4 h rfl (fun _ h=>?_) fun _ h=>?_
  ·refine Zt2 4 ?_;dsimp only [go_sem];refine An ?_;refine Zu4 (fun (x17:Bool)=>(⟨(.sl 1 (List.map Zb5 x1) :: .iv x2::an 3 (.iv x11 :: .iv x12::an 22 (.bv x17::an 3 []))),[],[]⟩:St)) (Z2r x11 x12) y1 ?_ fun J2=>?_
   ·intro x17 h;rw [Z2r] at h;(try dsimp only);refine Zu4 (fun (x18:Int)=>(⟨(.sl 1 (List.map Zb5 x1) :: .iv x2::an 3 (.iv x18 :: .iv x12::an 26 [])),[],[]⟩:St)) (Z1r x12) y1 ?_ fun J3=>?_
    ·intro x18 h;rw [Z1r] at h;(try dsimp only);refine Zt2 6 ?_;dsimp only [go_sem];refine An ?_;exact Z55 h hin1
    ·refine Zw4 h rfl (fun _ h=>?_) fun _ h=>?_
     ·refine Zt2 5 ?_;dsimp only [go_sem];refine An ?_;exact Z65 J3 (s:=wr (x11+1)) h
     ·refine Zt2 1 ?_;dsimp only [go_sem];refine An ?_;exact Z65 J3 (s:=x11) h
   ·refine Zs3 (by kernel_rfl) fun all hall hs hnap haf=>?_;dsimp only [go_sem];refine Zp5 hall hs haf hnap 3 14 ?_;dsimp only [go_sem];refine An ?_;obtain ⟨x13,ex13,h⟩:=Bs h;refine Z05 hall hs haf hnap 2 Zb5 ex13 rfl rfl trivial rfl rfl rfl rfl ?_;refine Zp5 hall hs haf hnap 3 10 ?_;dsimp only [go_sem];refine An ?_;refine Ze5 19 h rfl (fun _ h=>?_) fun _ h=>?_
    ·dsimp only [go_sem];refine Zq5 hall hs haf hnap 4 6 [9,1,2,5] [(20,[.sl 1 (List.map Zb5 x1),.iv x12]),(1,[.sl 1 (List.map Zb5 x1),.iv x12])] (by kernel_rfl) ?_;dsimp only [go_sem];obtain ⟨x14,ex14,h⟩:=Bs h;refine Z05 hall hs haf hnap 12 Zb5 ex14 rfl rfl trivial rfl rfl rfl rfl ?_;refine Zp5 hall hs haf hnap 1 4 ?_;dsimp only [go_sem];refine An ?_;obtain ⟨x15,ex15,h⟩:=Bs h;refine Zi5 hall hs haf hnap 9 Zb5 ex15 rfl rfl trivial rfl rfl rfl rfl rfl ?_;dsimp only [go_sem];refine Z34 14 rfl ?_;obtain ⟨x16,ex16,h⟩:=Bs h
     refine Z84 hall rfl trivial (Z8a x15 x14 _ ex16) (h:=?_);dsimp only [go_sem];refine Zp5 hall hs haf hnap 2 0 ?_;dsimp only [go_sem];refine An ?_;refine Z24 rfl ?_ _;exact Z65 J2 (s:=!x16) h
    ·dsimp only [go_sem];refine Zq5 hall hs haf hnap 10 0 [17] [(20,[.un,.un,.un,.un,.un,.un,.un,.un,.un,.ff])] (by kernel_rfl) ?_;dsimp only [go_sem];refine Z24 rfl ?_ _;exact Z65 J2 (s:=false) h
  ·refine Zt2 1 ?_;dsimp only [go_sem];refine An ?_;exact Z65 J1 (s:=x11) (Zt4 h hout1)
set_option maxRecDepth 100000
set_option maxHeartbeats 4000000
@[go_sem] def e65_L0:EC:=.seq (.seq (.reg [(Qm 7 4),(Qm 8 0),(Qa 9 (.len (.t 8))),(Qa 10 (.bin .lss (.t 7) (.t 9)))]) (.ite (.t 10) (.skip) (.exit 0))) (.seq (.blk 1 (.seq (.seq (.reg [(Qm 13 3),(Qm 14 0),(Qm 15 4),(Qk 16 1 14 15),(Ql 17 16),(Qa 18 (.call 30 [(.t 13),(.t 17)]))]) (.ite (.t 18) (.exit 1) (.skip))) (.seq (.reg [(Qm 19 3),(Qm 20 0),(Qm 21 4),(Qk 22 1 20 21),(Ql 23 22),(Qa 24 (.call 95 [(.t 19),(.t 23)])),(Qm 5 24)]) (.drw [(Qa 25 (.bsl 3 1 0 [.iv 0] [])),(Qm 26 3),(Qm 27 5),(Qa 28 (.slice 1 (.t 26) none (some (.t 27)))),(Qa 29 (.app 3 1 8 (.t 25) (.t 28))),(Qm 30 0),(Qm 31 4),(Qk 32 1 30 31),(Ql 33 32),(Qa 34 (.bsl 3 1 1 [.iv 0] [(0,(.t 33))])),(Qa 35 (.app 3 1 8 (.t 29) (.t 34))),(Qm 36 3),(Qm 37 5),(Qa 38 (.slice 1 (.t 36) (some (.t 37)) none)),(Qa 39 (.app 3 1 8 (.t 35) (.t 38))),(Qm 3 39)] [[],[],[],[1,2],[0,3],[],[],[5,6],[7],[8],[4,9,4],[],[],[11,12],[10,13,10],[14,14,0,1,2,3,4,5,6,7,8,9,10,11,12,13,14]] [[4],[3,15],[3],[1,2,4],[0,3,10],[7],[7],[5,6,8],[7,9],[8,10],[4,9,14],[13,15],[13],[11,12,14],[10,13,15],[1,11,14]])))) (.reg [(Qm 11 4),(Qv 12 11 1),(Qm 4 12)]))
@[go_sem] def e65:EC:=.seq (.reg [(Qa 2 (.mv (.c .nl)))]) (.seq (.reg [(Qa 6 (.bsl 3 1 0 [.iv 0] [])),(Qm 3 6)]) (.seq (.seq (.reg [(Qi 4 0)]) (.blk 0 (.loop e65_L0))) (.seq (.reg [(Qm 40 3),(Qm 2 40)]) (.ret))))
theorem ok65:FnOK Tryz.prog 65 Tryz.f65 e65 [.t 2] 1 40:=⟨by kernel_rfl,⟨_,rfl,by kernel_rfl⟩,by kernel_rfl,by kernel_rfl⟩
noncomputable def Z6r:(List Int)→Option (List Int)
| x35=>
 some x35
noncomputable def Z7r (x16:Int):(List Int)→Option ((Int×(List Int)) ⊕ (List Int))
| x29=>
 some (.inl (wr (x16+1),x29))
noncomputable def Z8r (x1:(List Int)):(Int×(List Int))→Option ((Int×(List Int)) ⊕ (List Int))
| (x16,x17)=>
 ifb (decide (x16<(ln Zb5 x1))) (
 (at_ x1 x16).bind fun x18=>
 (Z7a x17 x18).bind fun x19=>
 ifb x19 (
 (Z7r x16) x17) (
 (at_ x1 x16).bind fun x20=>
 (Z4r x17 x20).bind fun x21=>
 (at_ x1 x16).bind fun x22=>
 (Zi4 x17 0 x21).bind fun x23=>
 (Zi4 x17 x21 (ln Zb5 x17)).bind fun x24=>
 (Zh4 8 (([]:List Int)) x23).bind fun x25=>
 (Zh4 8 x25 ([x22])).bind fun x27=>
 (Zh4 8 x27 x24).bind fun x28=>
 (Z7r x16) x28)) (
 Option.map Sum.inr (Z6r x17))
noncomputable def Z9r (x1:(List Int)):Option (List Int):=
 loop (Z8r x1) (0,([]:List Int))
theorem Zar (x1:(List Int)) (r:(List Int)) (h:Z9r x1=some r):FunO Tryz.prog 65 [.sl 1 (List.map Zb5 x1)] 3 1 (List.map Zb5 r):=by
 refine Zj5 ok65 rfl fun w0 H0=>?_
 rw [Z9r] at h
 refine Zt2 14 ?_;dsimp only [go_sem];refine An ?_;refine Zu4 (fun (x35:(List Int))=>(⟨(an 3 (.osl 0::an 37 [])),[],[some ⟨3,1,List.map Zb5 x35⟩]⟩:St)) Z6r r ?_ fun J1=>?_
 ·intro x35 h;rw [Z6r] at h;(try dsimp only);refine Zt2 5 ?_;dsimp only [go_sem];refine An ?_;exact Zr5 Zb5 ok65 h rfl rfl
 ·refine Zt2 1 ?_;dsimp only [go_sem];refine An ?_;refine Zv4 h (fun ((x16,x17):(Int×(List Int)))=>(⟨(.sl 1 (List.map Zb5 x1) :: .any :: .any :: .osl 0 :: .iv x16::an 36 []),[],[some ⟨3,1,List.map Zb5 x17⟩]⟩:St)) (by simp [go_sem]) (by rintro ⟨x16,x17⟩;first | rfl | simp [go_sem]) ?_;rintro n1 ⟨x16,x17⟩ y1 h hin1 hout1;rw [Z8r] at h;(try dsimp only);refine Zt2 8 ?_;dsimp only [go_sem];refine An ?_;refine Zw4 h rfl (fun _ h=>?_) fun _ h=>?_
  ·refine Zt2 2 ?_;dsimp only [go_sem];refine An ?_;refine Zu4 (fun (x29:(List Int))=>(⟨(.sl 1 (List.map Zb5 x1) :: .any :: .any :: .osl 0 :: .iv x16::an 36 []),[],[some ⟨3,1,List.map Zb5 x29⟩]⟩:St)) (Z7r x16) y1 ?_ fun J2=>?_
   ·intro x29 h;rw [Z7r] at h;(try dsimp only);refine Zt2 5 ?_;dsimp only [go_sem];refine An ?_;exact Z55 h hin1
   ·refine Zt2 7 ?_;dsimp only [go_sem];refine An ?_;obtain ⟨x18,ex18,h⟩:=Bs h;refine Zz4 Zb5 ex18 trivial rfl rfl rfl ?_;refine Zt2 1 ?_;dsimp only [go_sem];refine An ?_;obtain ⟨x19,ex19,h⟩:=Bs h;refine Z85 trivial ((Z75.refl _).slice 0 rfl) (Z8a x17 x18 _ ex19) (h:=?_);refine Zt2 1 ?_;dsimp only [go_sem];refine An ?_;refine Zw4 h rfl (fun _ h=>?_) fun _ h=>?_
    ·refine Zt2 1 ?_;dsimp only [go_sem];refine An ?_;exact Z65 J2 (s:=x17) h
    ·refine Zt2 6 ?_;dsimp only [go_sem];refine An ?_;obtain ⟨x20,ex20,h⟩:=Bs h;refine Zz4 Zb5 ex20 trivial rfl rfl rfl ?_;refine Zt2 1 ?_;dsimp only [go_sem];refine An ?_;obtain ⟨x21,ex21,h⟩:=Bs h;refine Z85 trivial ((Z75.refl _).slice 0 rfl) (Z5r x17 x20 _ ex21) (h:=?_);refine Zt2 2 ?_;dsimp only [go_sem];refine An ?_;refine Zk3 0 rfl ?_;dsimp only [go_sem];refine Zs3 (by kernel_rfl) fun all hall hs hnap haf=>?_;dsimp only [go_sem]
     refine Zq5 hall hs haf hnap 6 10 [0,1,2,2,2,4,2,3] [(26,[.sl 1 (List.map Zb5 x17),.iv x21]),(2,[.sl 1 (List.map Zb5 x1),.iv x16]),(4,[.sl 1 (List.map Zb5 x17),.iv x21])] (by kernel_rfl) ?_;dsimp only [go_sem];obtain ⟨x22,ex22,h⟩:=Bs h;refine Z05 hall hs haf hnap 7 Zb5 ex22 rfl rfl trivial rfl rfl rfl rfl ?_;refine Zp5 hall hs haf hnap 1 8 ?_;dsimp only [go_sem];refine An ?_;obtain ⟨x23,ex23,h⟩:=Bs h;refine Zi5 hall hs haf hnap 3 Zb5 ex23 rfl rfl trivial rfl rfl rfl rfl rfl ?_;dsimp only [go_sem];obtain ⟨x24,ex24,h⟩:=Bs h
     refine Zi5 hall hs haf hnap 13 Zb5 ex24 rfl rfl trivial rfl rfl rfl rfl rfl ?_;dsimp only [go_sem];refine Z44 0 9 rfl ?_ ?_
     ·refine Z74 hall rfl trivial ?_;dsimp only [go_sem];obtain ⟨x25,ex25,h⟩:=Bs h;refine Z44 4 9 rfl ?_ ?_
      ·refine Z25 Zb5 ex25 hall rfl trivial rfl rfl rfl ?_;dsimp only [go_sem];refine Z34 9 rfl ?_;refine Z74 hall rfl trivial ?_;dsimp only [go_sem];refine Z34 10 rfl ?_;obtain ⟨x27,ex27,h⟩:=Bs h;refine Z25 Zb5 ex27 hall rfl trivial rfl rfl rfl ?_;dsimp only [go_sem];refine Z34 14 rfl ?_;obtain ⟨x28,ex28,h⟩:=Bs h;refine Z25 Zb5 ex28 hall rfl trivial rfl rfl rfl ?_;dsimp only [go_sem];refine Zp5 hall hs haf hnap 1 0 ?_;dsimp only [go_sem];refine An ?_;refine Z24 rfl ?_ _;refine Zt2 1 ?_;dsimp only [go_sem];refine An ?_
       refine Zd4 5 0 rfl rfl rfl ?_;dsimp only [go_sem];exact Z65 J2 (s:=x28) h
      ·refine Z74 hall rfl trivial ?_;dsimp only [go_sem];refine Z34 4 rfl ?_;refine Z25 Zb5 ex25 hall rfl trivial rfl rfl rfl ?_;dsimp only [go_sem];refine Z34 10 rfl ?_;obtain ⟨x27,ex27,h⟩:=Bs h;refine Z25 Zb5 ex27 hall rfl trivial rfl rfl rfl ?_;dsimp only [go_sem];refine Z34 14 rfl ?_;obtain ⟨x28,ex28,h⟩:=Bs h;refine Z25 Zb5 ex28 hall rfl trivial rfl rfl rfl ?_;dsimp only [go_sem];refine Zp5 hall hs haf hnap 1 0 ?_;dsimp only [go_sem];refine An ?_;refine Z24 rfl ?_ _;refine Zt2 1 ?_;dsimp only [go_sem];refine An ?_
       refine Zd4 5 0 rfl rfl rfl ?_;dsimp only [go_sem];exact Z65 J2 (s:=x28) h
     ·refine Z74 hall rfl trivial ?_;dsimp only [go_sem];refine Z34 0 rfl ?_;refine Z74 hall rfl trivial ?_;dsimp only [go_sem];refine Z34 4 rfl ?_;obtain ⟨x25,ex25,h⟩:=Bs h;refine Z25 Zb5 ex25 hall rfl trivial rfl rfl rfl ?_;dsimp only [go_sem];refine Z34 10 rfl ?_;obtain ⟨x26,ex26,h⟩:=Bs h;refine Z25 Zb5 ex26 hall rfl trivial rfl rfl rfl ?_;dsimp only [go_sem];refine Z34 14 rfl ?_;obtain ⟨x27,ex27,h⟩:=Bs h;refine Z25 Zb5 ex27 hall rfl trivial rfl rfl rfl ?_;dsimp only [go_sem];refine Zp5 hall hs haf hnap 1 0 ?_
      dsimp only [go_sem];refine An ?_;refine Z24 rfl ?_ _;refine Zt2 1 ?_;dsimp only [go_sem];refine An ?_;refine Zd4 5 0 rfl rfl rfl ?_;dsimp only [go_sem];exact Z65 J2 (s:=x27) h
  ·refine Zt2 1 ?_;dsimp only [go_sem];refine An ?_;exact Z65 J1 (s:=x17) (Zt4 h hout1)
theorem Zbr (x1:(List Int)) (r:(List Int)) (h:Z9r x1=some r):Zy2 Tryz.prog 65 [.sl 1 (List.map Zb5 x1)] (.sl 1 (List.map Zb5 r)):=(Zar x1 r h).sealed
set_option maxRecDepth 100000
set_option maxHeartbeats 4000000
@[go_sem] def e31:EC:=.seq (.reg [(Qa 4 (.mv (.c .nl)))]) (.seq (.reg [(Qa 5 (.bsl 3 1 0 [.iv 0] [])),(Qm 6 0),(Qa 7 (.app 3 1 8 (.t 5) (.t 6))),(Qm 8 1),(Qa 9 (.app 3 1 8 (.t 7) (.t 8))),(Qa 10 (.call 65 [(.t 9)])),(Qm 4 10)]) (.ret))
theorem ok31:FnOK Tryz.prog 31 Tryz.f31 e31 [.t 4] 2 9:=⟨by kernel_rfl,⟨_,rfl,by kernel_rfl⟩,by kernel_rfl,by kernel_rfl⟩
noncomputable def Zcr (x1:(List Int)) (x2:(List Int)):Option (List Int):=
 (Zh4 8 (([]:List Int)) x1).bind fun x3=>
 (Zh4 8 x3 x2).bind fun x4=>
 (Z9r x4).bind fun x5=>
 some x5
theorem Zdr (x1:(List Int)) (x2:(List Int)) (r:(List Int)) (h:Zcr x1 x2=some r):Zy2 Tryz.prog 31 [.sl 1 (List.map Zb5 x1),.sl 1 (List.map Zb5 x2)] (.sl 1 (List.map Zb5 r)):=by
 refine Z23 ok31 rfl rfl fun w0 H0=>?_
 rw [Zcr] at h
 refine Zt2 8 ?_;dsimp only [go_sem];refine An ?_;obtain ⟨x3,ex3,h⟩:=Bs h;refine Z15 Zb5 ex3 trivial rfl rfl rfl ?_;refine Zt2 1 ?_;dsimp only [go_sem];refine An ?_;obtain ⟨x4,ex4,h⟩:=Bs h;refine Z15 Zb5 ex4 trivial rfl rfl rfl ?_;refine Zk3 2 rfl ?_;dsimp only [go_sem];obtain ⟨x5,ex5,h⟩:=Bs h;refine Z73 trivial (Zbr x4 _ ex5) (h:=?_);refine Zt2 2 ?_;dsimp only [go_sem];refine An ?_;exact Z45 (res:=fun (r:(List Int))=>.sl 1 (List.map Zb5 r)) ok31 h
set_option maxRecDepth 100000
set_option maxHeartbeats 4000000
@[go_sem] def e32_L0:EC:=.seq (.seq (.reg [(Qm 10 8),(Qm 11 0),(Qa 12 (.len (.t 11))),(Qa 13 (.bin .lss (.t 10) (.t 12)))]) (.ite (.t 13) (.skip) (.exit 0))) (.seq (.blk 1 (.seq (.reg [(Qm 16 1),(Qm 17 0),(Qm 18 8),(Qk 19 1 17 18),(Ql 20 19),(Qa 21 (.call 30 [(.t 16),(.t 20)])),(Qm 22 2),(Qa 23 (.bq false (.t 21) (.t 22)))]) (.ite (.t 23) (.reg [(Qm 24 7),(Qm 25 0),(Qm 26 8),(Qk 27 1 25 26),(Ql 28 27),(Qa 29 (.bsl 3 1 1 [.iv 0] [(0,(.t 28))])),(Qa 30 (.app 3 1 8 (.t 24) (.t 29))),(Qm 7 30)]) (.skip)))) (.reg [(Qm 14 8),(Qv 15 14 1),(Qm 8 15)]))
@[go_sem] def e32:EC:=.seq (.reg [(Qa 6 (.mv (.c .nl)))]) (.seq (.reg [(Qa 9 (.bsl 3 1 0 [.iv 0] [])),(Qm 7 9)]) (.seq (.seq (.reg [(Qi 8 0)]) (.blk 0 (.loop e32_L0))) (.seq (.reg [(Qm 31 7),(Qa 32 (.call 65 [(.t 31)])),(Qm 6 32)]) (.ret))))
theorem ok32:FnOK Tryz.prog 32 Tryz.f32 e32 [.t 6] 3 30:=⟨by kernel_rfl,⟨_,rfl,by kernel_rfl⟩,by kernel_rfl,by kernel_rfl⟩
noncomputable def Zer:(List Int)→Option (List Int)
| x25=>
 (Z9r x25).bind fun x26=>
 some x26
noncomputable def Zfr (x11:Int):(List Int)→Option ((Int×(List Int)) ⊕ (List Int))
| x17=>
 some (.inl (wr (x11+1),x17))
noncomputable def Zgr (x1:(List Int)) (x2:(List Int)) (x3:Bool):(Int×(List Int))→Option ((Int×(List Int)) ⊕ (List Int))
| (x11,x12)=>
 ifb (decide (x11<(ln Zb5 x1))) (
 (at_ x1 x11).bind fun x13=>
 (Z7a x2 x13).bind fun x14=>
 ifb (x14==x3) (
 (at_ x1 x11).bind fun x15=>
 (Zh4 8 x12 ([x15])).bind fun x16=>
 (Zfr x11) x16) (
 (Zfr x11) x12)) (
 Option.map Sum.inr (Zer x12))
noncomputable def Zhr (x1:(List Int)) (x2:(List Int)) (x3:Bool):Option (List Int):=
 loop (Zgr x1 x2 x3) (0,([]:List Int))
theorem Zir (x1:(List Int)) (x2:(List Int)) (x3:Bool) (r:(List Int)) (h:Zhr x1 x2 x3=some r):Zy2 Tryz.prog 32 [.sl 1 (List.map Zb5 x1),.sl 1 (List.map Zb5 x2),.bv x3] (.sl 1 (List.map Zb5 r)):=by
 refine Z23 ok32 rfl rfl fun w0 H0=>?_
 rw [Zhr] at h
 refine Zt2 14 ?_;dsimp only [go_sem];refine An ?_;refine Zu4 (fun (x25:(List Int))=>(⟨(an 7 (.osl 0::an 25 [])),[],[some ⟨3,1,List.map Zb5 x25⟩]⟩:St)) Zer r ?_ fun J1=>?_
 ·intro x25 h;rw [Zer] at h;(try dsimp only);refine Zt2 3 ?_;dsimp only [go_sem];refine An ?_;refine Zk3 0 rfl ?_;dsimp only [go_sem];obtain ⟨x26,ex26,h⟩:=Bs h;refine Z73 trivial (Zbr x25 _ ex26) (h:=?_);refine Zt2 2 ?_;dsimp only [go_sem];refine An ?_;exact Z45 (res:=fun (r:(List Int))=>.sl 1 (List.map Zb5 r)) ok32 h
 ·refine Zt2 1 ?_;dsimp only [go_sem];refine An ?_;refine Zv4 h (fun ((x11,x12):(Int×(List Int)))=>(⟨(.sl 1 (List.map Zb5 x1) :: .sl 1 (List.map Zb5 x2) :: .bv x3::an 4 (.osl 0 :: .iv x11::an 24 [])),[],[some ⟨3,1,List.map Zb5 x12⟩]⟩:St)) (by simp [go_sem]) (by rintro ⟨x11,x12⟩;first | rfl | simp [go_sem]) ?_;rintro n1 ⟨x11,x12⟩ y1 h hin1 hout1;rw [Zgr] at h;(try dsimp only);refine Zt2 8 ?_;dsimp only [go_sem];refine An ?_;refine Zw4 h rfl (fun _ h=>?_) fun _ h=>?_
  ·refine Zt2 8 ?_;dsimp only [go_sem];refine An ?_;obtain ⟨x13,ex13,h⟩:=Bs h;refine Zz4 Zb5 ex13 trivial rfl rfl rfl ?_;refine Zt2 1 ?_;dsimp only [go_sem];refine An ?_;obtain ⟨x14,ex14,h⟩:=Bs h;refine Z73 trivial (Z8a x2 x13 _ ex14) (h:=?_);refine Zt2 3 ?_;dsimp only [go_sem];refine An ?_;refine Zu4 (fun (x17:(List Int))=>(⟨(.sl 1 (List.map Zb5 x1) :: .sl 1 (List.map Zb5 x2) :: .bv x3::an 4 (.osl 0 :: .iv x11::an 24 [])),[],[some ⟨3,1,List.map Zb5 x17⟩]⟩:St)) (Zfr x11) y1 ?_ fun J2=>?_
   ·intro x17 h;rw [Zfr] at h;(try dsimp only);refine Zt2 6 ?_;dsimp only [go_sem];refine An ?_;exact Z55 h hin1
   ·refine Zw4 h rfl (fun _ h=>?_) fun _ h=>?_
    ·refine Zt2 4 ?_;dsimp only [go_sem];refine An ?_;obtain ⟨x15,ex15,h⟩:=Bs h;refine Zz4 Zb5 ex15 trivial rfl rfl rfl ?_;refine Zt2 2 ?_;dsimp only [go_sem];refine An ?_;obtain ⟨x16,ex16,h⟩:=Bs h;refine Z15 Zb5 ex16 trivial rfl rfl rfl ?_;refine Zt2 2 ?_;dsimp only [go_sem];refine An ?_;refine Zd4 2 0 rfl rfl rfl ?_;dsimp only [go_sem];exact Z65 J2 (s:=x16) h
    ·refine Zt2 1 ?_;dsimp only [go_sem];refine An ?_;exact Z65 J2 (s:=x12) h
  ·refine Zt2 1 ?_;dsimp only [go_sem];refine An ?_;exact Z65 J1 (s:=x12) (Zt4 h hout1)
theorem s_ahead (x y:Edge):Zgq x y=some (x.lt y):=by
 simp only [Zgq,Zfq,Edge.lt]
 by_cases h1:x.A<y.A
 ·simp [h1]
 ·by_cases h2:x.A=y.A<;>simp [h1,h2]
theorem Zjr (g:Graph):Zmq g=some (okG g):=by
 simp only [Zmq,Zlq]
 by_cases h1:g.N<0
 ·have:¬0≤g.N:=by omega
  simp [h1,okG,this]
 by_cases h2:64<g.N
 ·have:¬g.N≤64:=by omega
  simp [h1,h2,okG,this]
 by_cases h3:400<g.Edges.length
 ·have:¬g.Edges.length≤400:=by omega
  have h3':(400:Int)<ln Edge.row g.Edges:=by rw [Zd5];omega
  simp [h1,h2,h3',okG,this]
 have h3':¬(400:Int)<ln Edge.row g.Edges:=by rw [Zd5];omega
 have e1:0≤g.N:=by omega
 have e2:g.N≤64:=by omega
 have e3:g.Edges.length≤400:=by omega
 simp only [h1,h2,h3',decide_false,Zf6,okG,e1,e2,e3,decide_true,Bool.true_and]
 have key:=Zya g.Edges (Zkq g) false true (fun e=>!e.ok g.N) (by omega) (fun k x hx=>by
  have hw:wr ((k:Int)+1)=((k+1:Nat):Int):=Zm6 hx (by omega)
  simp only [Zkq,Zj6 hx,Ze6,Zh6 hx,Option.bind_some,Zjq,hw,Edge.ok]
  by_cases k1:x.A<0
  ·have:¬0≤x.A:=by omega
   simp [k1,this]
  ·have k1':0≤x.A:=by omega
   by_cases k2:x.B≤x.A
   ·have:¬x.A<x.B:=by omega
    simp [k1,k2,this]
   ·have k2':x.A<x.B:=by omega
    by_cases k3:g.N≤x.B
    ·have:¬x.B<g.N:=by omega
     simp [k1,k2,k3,this]
    ·have k3':x.B<g.N:=by omega
     simp only [k1,k2,k3,k1',k2',k3',decide_false,decide_true,Zf6,Bool.and_self,Bool.not_true,Bool.false_or]
     cases k with
     | zero=>simp
     | succ k=>
       have hk:=(List.getElem?_eq_some_iff.1 hx).1
       have hy:g.Edges[k]?=some g.Edges[k]:=List.getElem?_eq_getElem (by omega)
       have h0:decide ((0:Int)<((k+1:Nat):Int))=true:=decide_eq_true (by omega)
       simp only [h0,Ze6,Zza (show k≤4000000000000000000 by omega),Zh6 hy,hy,Option.bind_some,s_ahead]
       cases g.Edges[k].lt x<;>simp)
  (by simp only [Zkq,Zk6,Zf6,Ziq,Option.map_some])
 rw [key]
 have:g.Edges.all (fun x=>!!Edge.ok g.N x)=g.Edges.all (Edge.ok g.N):=by simp
 rw [this]
 cases g.Edges.all (Edge.ok g.N)&&risB g.Edges<;>rfl
def hasB (g:Graph) (a b:Int):Bool:=g.Edges.any fun e=>(decide (e.A=a)&&(decide (e.B=b)&&decide (a≤b)))||(decide (e.A=b)&&(decide (e.B=a)&&decide (b<a)))
theorem s_r03Has (g:Graph) (a b:Int) (hl:g.Edges.length≤1000000):Zrq g a b=some (hasB g a b):=by
 unfold Zrq hasB
 rw [Zs6 g.Edges (Zqq g a b) (fun e=>(decide (e.A=a)&&(decide (e.B=b)&&decide (a≤b)))||(decide (e.A=b)&&(decide (e.B=a)&&decide (b<a)))) true false (by omega) (fun k e he=>by
  have hw:wr ((k:Int)+1)=((k+1:Nat):Int):=Zm6 he (by omega)
  simp only [Zqq,Zj6 he,Ze6,Zh6 he,Option.bind_some,Zpq,hw]
  generalize decide (e.A=a)=p1;generalize decide (e.B=b)=p2;generalize decide (a≤b)=p3;generalize decide (e.A=b)=p4;generalize decide (e.B=a)=p5;generalize decide (b<a)=p6
  cases p1<;>cases p2<;>cases p3<;>cases p4<;>cases p5<;>cases p6<;>rfl)
  (by simp only [Zqq,Zk6,Zf6,Zoq,Option.map_some])]
 generalize List.any _ _=p
 cases p<;>rfl
theorem hasB_iff {g:Graph} (h:okG g=true) {a b:Int}:hasB g a b=true↔b∈Z5b g a:=by
 rw [mem_nearL h]
 obtain ⟨_,_,_,h4,_⟩:=Z0b h
 simp only [hasB,List.any_eq_true,Bool.or_eq_true,Bool.and_eq_true,decide_eq_true_eq]
 constructor
 ·rintro ⟨e,he,(⟨rfl,rfl,_⟩ | ⟨rfl,rfl,_⟩)⟩
  ·exact .inl he
  ·exact .inr he
 ·rintro (he | he)
  ·have:=h4 _ he;dsimp only at this
   exact ⟨_,he,.inl ⟨rfl,rfl,by omega⟩⟩
  ·have:=h4 _ he;dsimp only at this
   exact ⟨_,he,.inr ⟨rfl,rfl,by omega⟩⟩
theorem Zkr {α:Type} (f:Nat→α) (k:Nat):(List.range (k+1)).map f=(List.range k).map f++[f k]:=by simp [List.range_succ]
theorem near_filter {g:Graph} (hg:okG g=true) (a:Int):Z5b g a=((List.range g.N.toNat).map (fun k:Nat=>(k:Int))).filter (fun b=>hasB g a b):=by
 refine pw_ext (fun x=>by omega) (fun x y h=>by omega) (nearL_pw hg a) ?_ fun x=>?_
 ·refine List.Pairwise.filter _ ?_
  rw [List.pairwise_map]
  exact List.pairwise_lt_range.imp fun h=>by omega
 ·rw [List.mem_filter,List.mem_map,hasB_iff hg]
  constructor
  ·intro h
   obtain ⟨h1,h2,_⟩:=Z8b hg h
   exact ⟨⟨x.toNat,by simp;omega,by omega⟩,h⟩
  ·exact fun h=>h.2
theorem Zlr (p:Int→Bool) (k:Nat):(((List.range (k+1)).map (fun k:Nat=>(k:Int))).filter p)=((List.range k).map (fun k:Nat=>(k:Int))).filter p++(if p k then [(k:Int)] else []):=by
 rw [Zkr,List.filter_append]
 cases h:p k<;>simp [h]
theorem s_r03Near (g:Graph) (hg:okG g=true) (a:Int):Zxq g a=some (Z5b g a):=by
 obtain ⟨g1,g2,g3,_,_⟩:=Z0b hg
 rw [near_filter hg]
 refine loop_nat g.N.toNat (Zwq g a) (fun k=>((k:Int),((List.range k).map (fun k:Nat=>(k:Int))).filter (fun b=>hasB g a b))) _ (fun k hk=>?_) ?_
 ·have hlen:(((List.range k).map (fun k:Nat=>(k:Int))).filter (fun b=>hasB g a b)).length≤64:=by
   have:=List.length_filter_le (fun b=>hasB g a b) ((List.range k).map (fun k:Nat=>(k:Int)))
   simp only [List.length_map,List.length_range] at this
   omega
  dsimp only [Zwq]
  rw [decide_eq_true (by omega),Ze6,Zjr,hg,Option.bind_some]
  dsimp only [Zvq]
  rw [Ze6,s_r03Has g a k (by omega),Option.bind_some,Zlr]
  cases hh:hasB g a k with
  | false=>
    rw [Zf6]
    dsimp only [Zuq]
    rw [Zl6 (by omega)];simp
  | true=>
    rw [Ze6,Zi6 _ _ (by omega) (by simp only [List.length_singleton];omega),Option.bind_some]
    dsimp only [Zuq]
    rw [Zl6 (by omega)];simp
 ·dsimp only [Zwq]
  rw [decide_eq_false (by omega),Zf6]
  rfl
theorem split_lt (v:Int):∀ {l:List Int},l.Pairwise (· < ·)→l.filter (fun x=>decide (x<v))++l.filter (fun x=>!decide (x<v))=l
 | [],_=>rfl
 | x::l,h=>by
   rw [List.pairwise_cons] at h
   by_cases hx:x<v
   ·have:=split_lt v h.2
    simp only [List.filter_cons,decide_eq_true hx,if_true,Bool.not_true]
    simpa using this
   ·have e1:(x::l).filter (fun x=>decide (x<v))=[]:=List.filter_eq_nil_iff.2 fun y hy=>by
     rcases List.mem_cons.1 hy with rfl | hy
     ·simpa using hx
     ·have:=h.1 y hy;simp;omega
    have e2:(x::l).filter (fun x=>!decide (x<v))=x::l:=List.filter_eq_self.2 fun y hy=>by
     rcases List.mem_cons.1 hy with rfl | hy
     ·simpa using hx
     ·have:=h.1 y hy;simp;omega
    rw [e1,e2];rfl
theorem s_r01Place (l:List Int) (v:Int) (hl:l.length≤1000000) (h:l.Pairwise (· < ·)):Z4r l v=some (((l.filter fun x=>decide (x<v)).length:Nat):Int):=by
 unfold Z4r
 refine Zla l (Z3r l v) (fun pre=>(((pre.filter fun x=>decide (x<v)).length:Nat),(pre.length:Int))) _ (fun pre x post hp=>?_) ?_
 ·have hx:=Zma hp
  have hm:=Zna hp
  have hf:(pre.filter fun x=>decide (x<v)).length≤pre.length:=List.length_filter_le _ _
  have hno:x∉pre:=fun hm=>by
   rw [hp,List.pairwise_append] at h
   have:=h.2.2 x hm x (by simp);omega
  have e1:Zi4 l 0 (pre.length:Int)=some pre:=by
   unfold Zi4
   rw [if_pos ⟨by omega,by omega,by omega⟩,hp];simp
  dsimp only [Z3r]
  rw [Zj6 hx,Ze6,Zh6 hx,Option.bind_some,List.filter_append,List.length_append,Zpa]
  by_cases hv:x<v
  ·rw [decide_eq_true hv,Ze6,Option.bind_some,e1,Option.bind_some,Z2b pre x (by omega),Option.bind_some,decide_eq_false hno]
   dsimp only [Z2r,Z1r]
   rw [Bool.not_false,Ze6,Zl6 (by omega),Zl6 (by omega)]
   simp [hv]
  ·rw [decide_eq_false hv,Zf6]
   dsimp only [Z2r,Z1r]
   rw [Zf6,Zl6 (by omega)]
   simp [hv]
 ·dsimp only [Z3r]
  rw [Zk6,Zf6];rfl
def insU (l:List Int) (v:Int):List Int:=if v∈l then l else l.filter (fun x=>decide (x<v))++v::l.filter (fun x=>!decide (x<v))
theorem insU_spec {l:List Int} (h:l.Pairwise (· < ·)) (v:Int):(insU l v).Pairwise (· < ·)∧(insU l v).length≤l.length+1∧∀x,x∈insU l v↔x∈l∨x=v:=by
 unfold insU
 by_cases hv:v∈l
 ·rw [if_pos hv]
  exact ⟨h,by omega,fun x=>⟨.inl,fun hx=>by rcases hx with hx | rfl<;>assumption⟩⟩
 ·rw [if_neg hv]
  have hs:=split_lt v h
  refine ⟨?_,?_,fun x=>?_⟩
  ·rw [List.pairwise_append,List.pairwise_cons]
   refine ⟨h.filter _,⟨fun y hy=>?_,h.filter _⟩,fun x hx y hy=>?_⟩
   ·rw [List.mem_filter] at hy
    have:=hy.2
    have hne:y≠v:=fun e=>hv (e ▸ hy.1)
    simp at this;omega
   ·rw [List.mem_filter] at hx
    have h1:=hx.2
    rcases List.mem_cons.1 hy with rfl | hy
    ·simpa using h1
    ·rw [List.mem_filter] at hy
     have h2:=hy.2
     simp at h1 h2;omega
  ·have:=congrArg List.length hs
   simp only [List.length_append,List.length_cons] at this ⊢
   omega
  ·rw [List.mem_append,List.mem_cons,List.mem_filter,List.mem_filter]
   by_cases hx:x<v
   ·simp [hx]
   ·simp only [hx,decide_false,Bool.false_eq_true,and_false,false_or,Bool.not_false,and_true]
    exact Or.comm
theorem Zmr {α:Type} {A B l:List α} (h:A++B=l):l.take A.length=A∧l.drop A.length=B:=by subst h;simp
theorem s_r01Of (l:List Int) (hl:l.length≤5000):Z9r l=some (Z7b l):=by
 have spec:∀pre:List Int,(pre.foldl insU []).Pairwise (· < ·)∧(pre.foldl insU []).length≤pre.length∧∀x,x∈pre.foldl insU []↔x∈pre:=fun pre=>by
  have key:∀(r acc:List Int),acc.Pairwise (· < ·)→(r.foldl insU acc).Pairwise (· < ·)∧(r.foldl insU acc).length≤acc.length+r.length∧∀x,x∈r.foldl insU acc↔x∈acc∨x∈r:=fun r=>by
   induction r with
   | nil=>intro acc h;exact ⟨h,by simp,by simp⟩
   | cons v r ih=>
     intro acc h
     obtain ⟨a1,a2,a3⟩:=insU_spec h v
     obtain ⟨b1,b2,b3⟩:=ih _ a1
     refine ⟨b1,by rw [List.foldl_cons,List.length_cons];omega,fun x=>?_⟩
     rw [List.foldl_cons,b3,a3,List.mem_cons,or_assoc]
  obtain ⟨h1,h2,h3⟩:=key pre [] List.Pairwise.nil
  exact ⟨h1,by simpa using h2,fun x=>by rw [h3];simp⟩
 have e:l.foldl insU []=Z7b l:=by
  obtain ⟨h1,_,h3⟩:=spec l
  obtain ⟨k1,k2⟩:=Z0e l
  exact pw_ext (fun x=>by omega) (fun x y h=>by omega) h1 k1 fun x=>by rw [h3,k2]
 unfold Z9r
 rw [←e]
 refine Zla l (Z8r l) (fun pre=>((pre.length:Int),pre.foldl insU [])) _ (fun pre x post hp=>?_) ?_
 ·have hx:=Zma hp
  have hm:=Zna hp
  obtain ⟨h1,h2,_⟩:=spec pre
  generalize hacc:pre.foldl insU []=acc at h1 h2
  have hsn:(pre++[x]).foldl insU []=insU acc x:=by rw [List.foldl_append,hacc];rfl
  have hf:(acc.filter fun y=>decide (y<x)).length≤acc.length:=List.length_filter_le _ _
  have hs:=split_lt x h1
  have hsl:=congrArg List.length hs
  rw [List.length_append] at hsl
  have e1:Zi4 acc 0 (((acc.filter fun y=>decide (y<x)).length:Nat):Int)=some (acc.filter fun y=>decide (y<x)):=by
   unfold Zi4
   rw [if_pos ⟨by omega,by omega,by omega⟩]
   rw [Int.toNat_natCast,(Zmr hs).1];rfl
  have e2:Zi4 acc (((acc.filter fun y=>decide (y<x)).length:Nat):Int) (acc.length:Int)=some (acc.filter fun y=>!decide (y<x)):=by
   unfold Zi4
   rw [if_pos ⟨by omega,by omega,by omega⟩]
   rw [Int.toNat_natCast,Int.toNat_natCast,List.take_length,(Zmr hs).2]
  dsimp only [Z8r]
  rw [Zj6 hx,Ze6,Zh6 hx,Option.bind_some,Z2b acc x (by omega),Option.bind_some,hsn,Zpa]
  unfold insU
  by_cases hv:x∈acc
  ·rw [decide_eq_true hv,Ze6,if_pos hv]
   dsimp only [Z7r];rw [Zl6 (by omega)]
  ·rw [decide_eq_false hv,Zf6,if_neg hv,Option.bind_some,s_r01Place acc x (by omega) h1,Option.bind_some,Option.bind_some,e1,Option.bind_some,Zd5,e2,Option.bind_some,
    Zi6 _ _ (by omega) (by simp;omega),Option.bind_some,Zi6 _ _ (by omega) (by simp;omega),Option.bind_some,Zi6 _ _ (by omega) (by simp;omega),Option.bind_some]
   dsimp only [Z7r];rw [Zl6 (by omega)]
   simp
 ·dsimp only [Z8r]
  rw [Zk6,Zf6];rfl
theorem s_r01Union (a b:List Int) (ha:a.length≤2000) (hb:b.length≤2000):Zcr a b=some (Z7b (a++b)):=by
 simp only [Zcr]
 rw [Zi6 _ _ (by omega) (by simp;omega),Option.bind_some,List.nil_append,Zi6 _ _ (by omega) (by omega),Option.bind_some,s_r01Of _ (by simp;omega),Option.bind_some]
theorem s_r01Pick (a b:List Int) (z:Bool) (ha:a.length≤4000) (hb:b.length≤4000):Zhr a b z=some (Z7b (a.filter fun x=>decide (x∈b)==z)):=by
 simp only [Zhr]
 refine Zla a _ (fun pre=>((pre.length:Int),pre.filter fun x=>decide (x∈b)==z)) _ (fun pre x post h=>?_) ?_
 ·have hx:=Zma h
  have hm:=Zna h
  have hf:(pre.filter fun x=>decide (x∈b)==z).length≤pre.length:=List.length_filter_le _ _
  dsimp only [Zgr]
  rw [Zj6 hx,Ze6,Zh6 hx,Option.bind_some,Option.bind_some,Z2b b x (by omega),Option.bind_some,Zi6 _ _ (by omega) (by simp only [List.length_singleton];omega),Option.bind_some,Zpa,List.filter_append]
  simp only [Zfr,Zl6 (show pre.length≤4000000000000000000 by omega)]
  cases hz:decide (x∈b)==z<;>simp [hz]
 ·have hf:(a.filter fun x=>decide (x∈b)==z).length≤a.length:=List.length_filter_le _ _
  dsimp only [Zgr]
  rw [Zk6,Zf6]
  dsimp only [Zer]
  rw [s_r01Of _ (by omega)];rfl
set_option maxRecDepth 100000
set_option maxHeartbeats 4000000
@[go_sem] def e66_L0:EC:=.seq (.seq (.reg [(Qm 4 3),(Qm 5 0),(Qa 6 (.len (.t 5))),(Qa 7 (.bin .lss (.t 4) (.t 6)))]) (.ite (.t 7) (.skip) (.exit 0))) (.seq (.blk 1 (.seq (.drw [(Qm 10 0),(Qm 11 3),(Qk 12 1 10 11),(Ql 13 12),(Qa 14 (.bin .lss (.t 13) (.c (.iv 0)))),(Qm 15 14),(Qg 16 15 false (.mv (.t 3))),(Qg 17 15 false (.bin .gtr (.t 16) (.c (.iv 0)))),(Qg 18 15 false (.mv (.t 17))),(Qg 19 18 true (.mv (.t 0))),(Qg 20 18 true (.mv (.t 3))),(Qg 21 18 true (.bin .sub (.t 20) (.c (.iv 1)))),(Qg 22 18 true (.idx 1 (.t 19) (.t 21))),(Qn 23 18 true 22),(Qg 24 18 true (.mv (.t 0))),(Qg 25 18 true (.mv (.t 3))),(Qg 26 18 true (.idx 1 (.t 24) (.t 25))),(Qn 27 18 true 26),(Qg 28 18 true (.bin .geq (.t 23) (.t 27))),(Qg 29 15 false (.pick (.t 18) (.t 28) (.c .ff))),(Qq 30 15 29)] [[],[],[0,1],[2],[3],[4],[5],[6,5],[7,5,5],[8],[8],[10,8],[9,11,8],[12,8],[8],[8],[14,15,8],[16,8],[13,17,8],[8,18,5],[5,19]] [[2],[2],[0,1,3],[2,4],[3,5],[4,6,7,8,19,20],[5,7],[5,6,8],[5,7,9,10,11,12,13,14,15,16,17,18,19],[8,12],[8,11],[8,10,12],[8,9,11,13],[8,12,18],[8,16],[8,16],[8,14,15,17],[8,16,18],[8,13,17,19],[5,8,18,20],[5,19]]) (.ite (.t 30) (.seq (.reg [(Qa 2 (.mv (.c .ff)))]) (.ret)) (.skip)))) (.reg [(Qm 8 3),(Qv 9 8 1),(Qm 3 9)]))
@[go_sem] def e66:EC:=.seq (.reg [(Qa 2 (.mv (.c .ff)))]) (.seq (.seq (.reg [(Qi 3 0)]) (.blk 0 (.loop e66_L0))) (.seq (.reg [(Qm 31 0),(Qa 32 (.len (.t 31))),(Qa 33 (.bin .leq (.t 32) (.c (.iv 64)))),(Qm 2 33)]) (.ret)))
theorem ok66:FnOK Tryz.prog 66 Tryz.f66 e66 [.t 2] 1 33:=⟨by kernel_rfl,⟨_,rfl,by kernel_rfl⟩,by kernel_rfl,by kernel_rfl⟩
noncomputable def Znr (x1:(List Int)):Unit→Option Bool
| ()=>
 some (decide ((ln Zb5 x1)≤64))
noncomputable def Zor (x7:Int):Bool→Option (Int ⊕ Bool)
| x11=>
 ifb x11 (
 Option.map Sum.inr (some false)) (
 some (.inl (wr (x7+1))))
noncomputable def Zpr (x1:(List Int)):Int→Option (Int ⊕ Bool)
| x7=>
 ifb (decide (x7<(ln Zb5 x1))) (
 (at_ x1 x7).bind fun x8=>
 ifb (decide (x8<0)) (
 (Zor x7) true) (
 ifb (decide (0<x7)) (
 (at_ x1 (wr (x7-1))).bind fun x9=>
 (at_ x1 x7).bind fun x10=>
 (Zor x7) (decide (x10≤x9))) (
 (Zor x7) false))) (
 Option.map Sum.inr ((Znr x1) ()))
noncomputable def Zqr (x1:(List Int)):Option Bool:=
 loop (Zpr x1) 0
theorem Zrr (x1:(List Int)) (r:Bool) (h:Zqr x1=some r):Zy2 Tryz.prog 66 [.sl 1 (List.map Zb5 x1)] (.bv r):=by
 refine Z23 ok66 rfl rfl fun w0 H0=>?_
 rw [Zqr] at h
 refine Zt2 9 ?_;dsimp only [go_sem];refine An ?_;refine Zu4 (fun (_:Unit)=>(⟨(.sl 1 (List.map Zb5 x1)::an 33 []),[],[]⟩:St)) (Znr x1) r ?_ fun J1=>?_
 ·rintro ⟨⟩ h;rw [Znr] at h;(try dsimp only);refine Zt2 7 ?_;dsimp only [go_sem];refine An ?_;exact Z45 (res:=fun (r:Bool)=>.bv r) ok66 h
 ·refine Zt2 1 ?_;dsimp only [go_sem];refine An ?_;refine Zv4 h (fun (x7:Int)=>(⟨(.sl 1 (List.map Zb5 x1) :: .any :: .any :: .iv x7::an 30 []),[],[]⟩:St)) (by simp [go_sem]) (by intro x7;first | rfl | simp [go_sem]) ?_;rintro n1 x7 y1 h hin1 hout1;rw [Zpr] at h;(try dsimp only);refine Zt2 8 ?_;dsimp only [go_sem];refine An ?_;refine Zw4 h rfl (fun _ h=>?_) fun _ h=>?_
  ·refine Zt2 4 ?_;dsimp only [go_sem];refine An ?_;refine Zu4 (fun (x11:Bool)=>(⟨(.sl 1 (List.map Zb5 x1) :: .any :: .any :: .iv x7::an 26 (.bv x11::an 3 [])),[],[]⟩:St)) (Zor x7) y1 ?_ fun J2=>?_
   ·intro x11 h;rw [Zor] at h;(try dsimp only);refine Zw4 h rfl (fun _ h=>?_) fun _ h=>?_
    ·refine Zt2 4 ?_;dsimp only [go_sem];refine An ?_;exact Z45 (res:=fun (r:Bool)=>.bv r) ok66 (Zt4 h hout1)
    ·refine Zt2 7 ?_;dsimp only [go_sem];refine An ?_;exact Z55 h hin1
   ·refine Zs3 (by kernel_rfl) fun all hall hs hnap haf=>?_;dsimp only [go_sem];refine Zp5 hall hs haf hnap 2 19 ?_;dsimp only [go_sem];refine An ?_;obtain ⟨x8,ex8,h⟩:=Bs h;refine Z05 hall hs haf hnap 2 Zb5 ex8 rfl rfl trivial rfl rfl rfl rfl ?_;refine Zq5 hall hs haf hnap 3 15 [6,15] [(13,[.iv x8,.bv (decide (x8<0)),.bv (decide (x8<0))])] (by kernel_rfl) ?_;dsimp only [go_sem];refine Ze5 15 h rfl (fun _ h=>?_) fun _ h=>?_
    ·dsimp only [go_sem];refine Zq5 hall hs haf hnap 15 0 [21] [(16,[.un,.un,.un,.un,.un,.un,.un,.un,.un,.un,.un,.un,.un,.un,.tt])] (by kernel_rfl) ?_;dsimp only [go_sem];refine Z24 rfl ?_ _;exact Z65 J2 (s:=true) h
    ·dsimp only [go_sem];refine Zq5 hall hs haf hnap 3 12 [9,12] [(16,[.iv x7,.bv (decide (0<x7)),.bv (decide (0<x7))])] (by kernel_rfl) ?_;dsimp only [go_sem];refine Ze5 18 h rfl (fun _ h=>?_) fun _ h=>?_
     ·dsimp only [go_sem];refine Zq5 hall hs haf hnap 5 7 [12,2,2,5] [(19,[.sl 1 (List.map Zb5 x1),.iv x7,.iv (wr (x7-1))]),(2,[.sl 1 (List.map Zb5 x1),.iv x7])] (by kernel_rfl) ?_;dsimp only [go_sem];obtain ⟨x9,ex9,h⟩:=Bs h;refine Z05 hall hs haf hnap 12 Zb5 ex9 rfl rfl trivial rfl rfl rfl rfl ?_;refine Zp5 hall hs haf hnap 1 5 ?_;dsimp only [go_sem];refine An ?_;obtain ⟨x10,ex10,h⟩:=Bs h;refine Z05 hall hs haf hnap 16 Zb5 ex10 rfl rfl trivial rfl rfl rfl rfl ?_
      refine Zq5 hall hs haf hnap 4 0 [21] [(27,[.iv x10,.bv (decide (x10≤x9)),.bv (decide (x10≤x9)),.bv (decide (x10≤x9))])] (by kernel_rfl) ?_;dsimp only [go_sem];refine Z24 rfl ?_ _;exact Z65 J2 (s:=decide (x10≤x9)) h
     ·dsimp only [go_sem];refine Zq5 hall hs haf hnap 12 0 [21] [(19,[.un,.un,.un,.un,.un,.un,.un,.un,.un,.un,.ff,.ff])] (by kernel_rfl) ?_;dsimp only [go_sem];refine Z24 rfl ?_ _;exact Z65 J2 (s:=false) h
  ·refine Zt2 1 ?_;dsimp only [go_sem];refine An ?_;exact Z65 J1 (s:=()) (Zt4 h hout1)
set_option maxRecDepth 100000
set_option maxHeartbeats 4000000
@[go_sem] def e63_L0:EC:=.seq (.seq (.reg [(Qm 14 3),(Qf 15 1 1),(Ql 16 15),(Qa 17 (.len (.t 16))),(Qa 18 (.bin .lss (.t 14) (.t 17)))]) (.ite (.t 18) (.skip) (.exit 0))) (.seq (.blk 1 (.seq (.reg [(Qf 21 1 1),(Ql 22 21),(Qm 23 3),(Qk 24 4 22 23),(Qe 25 4 24),(Qa 4 (.alloc 74 [.iv 0,.nl,.iv 0,.iv 0])),(Qs 4 4 25)]) (.seq (.seq (.drw [(Qf 26 0 4),(Ql 27 26),(Qa 28 (.bin .lss (.t 27) (.c (.iv 1)))),(Qm 29 28),(Qh 30 29 false 0 4),(Qn 31 29 false 30),(Qh 32 29 false 0 1),(Qn 33 29 false 32),(Qg 34 29 false (.bin .gtr (.t 31) (.t 33))),(Qq 35 29 34),(Qm 36 35),(Qg 37 36 false (.mv (.t 3))),(Qg 38 36 false (.bin .gtr (.t 37) (.c (.iv 0)))),(Qg 39 36 false (.mv (.t 38))),(Qh 40 39 true 1 1),(Qn 41 39 true 40),(Qg 42 39 true (.mv (.t 3))),(Qg 43 39 true (.bin .sub (.t 42) (.c (.iv 1)))),(Qg 44 39 true (.idx 4 (.t 41) (.t 43))),(Qh 45 39 true 0 44),(Qn 46 39 true 45),(Qh 47 39 true 0 4),(Qn 48 39 true 47),(Qg 49 39 true (.bin .geq (.t 46) (.t 48))),(Qg 50 36 false (.pick (.t 39) (.t 49) (.c .ff))),(Qq 51 36 50),(Qm 52 51),(Qh 53 52 false 1 4),(Qn 54 52 false 53),(Qg 55 52 false (.call 66 [(.t 54)])),(Qg 56 52 false (.not (.t 55))),(Qq 57 52 56),(Qm 58 57),(Qh 59 58 false 3 4),(Qn 60 58 false 59),(Qg 61 58 false (.bin .lss (.t 60) (.c (.iv 0)))),(Qq 62 58 61)] [[],[0],[1],[2],[3],[4,3],[3],[6,3],[5,7,3],[3,8],[9,3],[10],[11,10],[12,10,10],[13],[14,13],[13],[16,13],[15,17,13],[18,13],[19,13],[13],[21,13],[20,22,13],[13,23,10],[10,24],[25,13],[26],[27,26],[28,26,26],[29,26],[26,30],[31,29],[32],[33,32],[34,32],[32,35]] [[1],[0,2],[1,3],[2,4,5,6,7,8,9],[3,5],[3,4,8],[3,7],[3,6,8],[3,5,7,9],[3,8,10],[9,11,12,13,24,25],[10,12],[10,11,13],[10,12,14,15,16,17,18,19,20,21,22,23,24],[13,15],[13,14,18],[13,17],[13,16,18],[13,15,17,19],[13,18,20],[13,19,23],[13,22],[13,21,23],[13,20,22,24],[10,13,23,25],[10,24,26],[25,27,28,29,30,31],[26,28],[26,27,29],[26,28,30],[26,29,31],[26,30,32],[31,33,34,35,36],[32,34],[32,33,35],[32,34,36],[32,35]]) (.ite (.t 62) (.seq (.reg [(Qa 2 (.mv (.c .ff)))]) (.ret)) (.skip))) (.seq (.seq (.reg [(Qf 63 2 4),(Ql 64 63),(Qa 65 (.bin .eql (.t 64) (.c (.iv 0)))),(Qm 66 65),(Qh 67 66 true 3 4),(Qn 68 66 true 67),(Qg 69 66 true (.bin .eql (.t 68) (.c (.iv 0)))),(Qp 70 66 69)]) (.ite (.t 70) (.exit 1) (.skip))) (.seq (.reg [(Qf 71 2 4),(Ql 72 71),(Qa 73 (.bin .neq (.t 72) (.c (.iv 1)))),(Qm 74 73),(Qg 75 74 false (.mv (.t 3))),(Qg 76 74 false (.bin .gtr (.t 75) (.c (.iv 0)))),(Qq 77 74 76)]) (.ite (.t 77) (.seq (.reg [(Qa 2 (.mv (.c .ff)))]) (.ret)) (.skip))))))) (.reg [(Qm 19 3),(Qv 20 19 1),(Qm 3 20)]))
@[go_sem] def e63:EC:=.seq (.reg [(Qx 1 64 2 0),(Qa 2 (.mv (.c .ff)))]) (.seq (.seq (.reg [(Qf 5 0 1),(Ql 6 5),(Qa 7 (.bin .lss (.t 6) (.c (.iv 0)))),(Qm 8 7),(Qh 9 8 false 1 1),(Qn 10 8 false 9),(Qg 11 8 false (.len (.t 10))),(Qg 12 8 false (.bin .gtr (.t 11) (.c (.iv 8)))),(Qq 13 8 12)]) (.ite (.t 13) (.seq (.reg [(Qa 2 (.mv (.c .ff)))]) (.ret)) (.skip))) (.seq (.seq (.reg [(Qi 3 0)]) (.blk 0 (.loop e63_L0))) (.seq (.reg [(Qa 2 (.mv (.c .tt)))]) (.ret))))
theorem ok63:FnOK Tryz.prog 63 Tryz.f63 e63 [.t 2] 1 77:=⟨by kernel_rfl,⟨_,rfl,by kernel_rfl⟩,by kernel_rfl,by kernel_rfl⟩
noncomputable def Zsr:Unit→Option Bool
| ()=>
 some true
noncomputable def Ztr (x11:Int):Unit→Option (Int ⊕ Bool)
| ()=>
 some (.inl (wr (x11+1)))
noncomputable def Zur (x11:Int):Bool→Option (Int ⊕ Bool)
| x18=>
 ifb x18 (
 Option.map Sum.inr (some false)) (
 (Ztr x11) ())
noncomputable def Zvr (x11:Int) (x12:Sess):Bool→Option (Int ⊕ Bool)
| x17=>
 ifb x17 (
 (Ztr x11) ()) (
 ifb (!decide (x12.State=1)) (
 (Zur x11) true) (
 (Zur x11) (decide (0<x11))))
noncomputable def Zwr (x11:Int) (x12:Sess):Bool→Option (Int ⊕ Bool)
| x16=>
 ifb x16 (
 Option.map Sum.inr (some false)) (
 ifb (decide (x12.State=0)) (
 (Zvr x11 x12) (decide (x12.Age=0))) (
 (Zvr x11 x12) false))
noncomputable def Zxr (x1:Book):Int→Option (Int ⊕ Bool)
| x11=>
 ifb (decide (x11<(ln Sess.row x1.Sess))) (
 (at_ x1.Sess x11).bind fun x12=>
 ifb (decide (x12.ID<1)) (
 (Zwr x11 x12) true) (
 ifb (decide (x1.Last<x12.ID)) (
 (Zwr x11 x12) true) (
 ifb (decide (0<x11)) (
 (at_ x1.Sess (wr (x11-1))).bind fun x13=>
 ifb (decide (x12.ID≤x13.ID)) (
 (Zwr x11 x12) true) (
 (Zqr x12.Need).bind fun x14=>
 ifb (!x14) (
 (Zwr x11 x12) true) (
 (Zwr x11 x12) (decide (x12.Age<0))))) (
 (Zqr x12.Need).bind fun x15=>
 ifb (!x15) (
 (Zwr x11 x12) true) (
 (Zwr x11 x12) (decide (x12.Age<0))))))) (
 Option.map Sum.inr (Zsr ()))
noncomputable def Zyr (x1:Book):Bool→Option Bool
| x2=>
 ifb x2 (
 some false) (
 loop (Zxr x1) 0)
noncomputable def Zzr (x1:Book):Option Bool:=
 ifb (decide (x1.Last<0)) (
 (Zyr x1) true) (
 (Zyr x1) (decide (8<(ln Sess.row x1.Sess))))
theorem Z0s (x1:Book) (r:Bool) (h:Zzr x1=some r):Zy2 Tryz.prog 63 [.agg (Book.row x1)] (.bv r):=by
 refine Z23 ok63 rfl rfl fun w0 H0=>?_
 rw [Zzr] at h
 refine Zt2 12 ?_;dsimp only [go_sem];refine An ?_;refine Zu4 (fun (x2:Bool)=>(⟨(.any :: .ptr 0 0::an 11 (.bv x2::an 64 [])),[some ⟨64,[.iv x1.Last,.sl 4 (List.map Sess.row x1.Sess)]⟩],[]⟩:St)) (Zyr x1) r ?_ fun J1=>?_
 ·intro x2 h;rw [Zyr] at h;(try dsimp only);refine Zw4 h rfl (fun _ h=>?_) fun _ h=>?_
  ·refine Zt2 4 ?_;dsimp only [go_sem];refine An ?_;exact Z45 (res:=fun (r:Bool)=>.bv r) ok63 h
  ·refine Zt2 6 ?_;dsimp only [go_sem];refine An ?_;refine Zu4 (fun (_:Unit)=>(⟨(an 78 []),[],[]⟩:St)) Zsr r ?_ fun J2=>?_
   ·rintro ⟨⟩ h;rw [Zsr] at h;(try dsimp only);refine Zt2 4 ?_;dsimp only [go_sem];refine An ?_;exact Z45 (res:=fun (r:Bool)=>.bv r) ok63 h
   ·refine Zt2 1 ?_;dsimp only [go_sem];refine An ?_;refine Zv4 h (fun (x11:Int)=>(⟨(.any :: .ptr 0 0 :: .any :: .iv x11::an 74 []),[some ⟨64,[.iv x1.Last,.sl 4 (List.map Sess.row x1.Sess)]⟩],[]⟩:St)) (by simp [go_sem]) (by intro x11;first | rfl | simp [go_sem]) ?_;rintro n1 x11 y1 h hin1 hout1;rw [Zxr] at h;(try dsimp only);refine Zt2 9 ?_;dsimp only [go_sem];refine An ?_;refine Zw4 h rfl (fun _ h=>?_) fun _ h=>?_
    ·refine Zt2 2 ?_;dsimp only [go_sem];refine An ?_;refine Zu4 (fun (_:Unit)=>(⟨(.any :: .ptr 0 0 :: .any :: .iv x11::an 74 []),[some ⟨64,[.iv x1.Last,.sl 4 (List.map Sess.row x1.Sess)]⟩],[]⟩:St)) (Ztr x11) y1 ?_ fun J3=>?_
     ·rintro ⟨⟩ h;rw [Ztr] at h;(try dsimp only);refine Zt2 5 ?_;dsimp only [go_sem];refine An ?_;exact Z55 h hin1
     ·refine Zt2 6 ?_;dsimp only [go_sem];refine An ?_;obtain ⟨x12,ex12,h⟩:=Bs h;refine Zz4 Sess.row ex12 trivial rfl rfl rfl ?_;refine Zt2 6 ?_;dsimp only [go_sem];refine An ?_;refine Zu4 (fun (x16:Bool)=>(⟨(.any :: .ptr 0 0 :: .any :: .iv x11 :: .ptr 1 0::an 57 (.bv x16::an 15 [])),[some ⟨64,[.iv x1.Last,.sl 4 (List.map Sess.row x1.Sess)]⟩,some ⟨74,[.iv x12.ID,.sl 1 (List.map Zb5 x12.Need),.iv x12.State,.iv x12.Age]⟩],[]⟩:St)) (Zwr x11 x12) y1 ?_ fun J4=>?_
      ·intro x16 h;rw [Zwr] at h;(try dsimp only);refine Zw4 h rfl (fun _ h=>?_) fun _ h=>?_
       ·refine Zt2 4 ?_;dsimp only [go_sem];refine An ?_;exact Z45 (res:=fun (r:Bool)=>.bv r) ok63 (Zt4 h hout1)
       ·refine Zt2 8 ?_;dsimp only [go_sem];refine An ?_;refine Zu4 (fun (x17:Bool)=>(⟨(.any :: .ptr 0 0 :: .any :: .iv x11 :: .ptr 1 0::an 65 (.bv x17::an 7 [])),[some ⟨64,[.iv x1.Last,.sl 4 (List.map Sess.row x1.Sess)]⟩,some ⟨74,[.iv x12.ID,.sl 1 (List.map Zb5 x12.Need),.iv x12.State,.iv x12.Age]⟩],[]⟩:St)) (Zvr x11 x12) y1 ?_ fun J5=>?_
        ·intro x17 h;rw [Zvr] at h;(try dsimp only);refine Zw4 h rfl (fun _ h=>?_) fun _ h=>?_
         ·refine Zt2 1 ?_;dsimp only [go_sem];refine An ?_;exact Z65 J3 (s:=()) h
         ·refine Zt2 7 ?_;dsimp only [go_sem];refine An ?_;refine Zu4 (fun (x18:Bool)=>(⟨(.any :: .ptr 0 0 :: .any :: .iv x11::an 73 [.bv x18]),[some ⟨64,[.iv x1.Last,.sl 4 (List.map Sess.row x1.Sess)]⟩],[]⟩:St)) (Zur x11) y1 ?_ fun J6=>?_
          ·intro x18 h;rw [Zur] at h;(try dsimp only);refine Zw4 h rfl (fun _ h=>?_) fun _ h=>?_
           ·refine Zt2 4 ?_;dsimp only [go_sem];refine An ?_;exact Z45 (res:=fun (r:Bool)=>.bv r) ok63 (Zt4 h hout1)
           ·refine Zt2 2 ?_;dsimp only [go_sem];refine An ?_;exact Z65 J3 (s:=()) h
          ·refine Z35 74 h rfl (fun _ h=>?_) fun _ h=>?_
           ·dsimp only [go_sem];refine Zt2 4 ?_;dsimp only [go_sem];refine An ?_;exact Z65 J6 (s:=true) h
           ·dsimp only [go_sem];refine Zt2 4 ?_;dsimp only [go_sem];refine An ?_;exact Z65 J6 (s:=decide (0<x11)) h
        ·refine Z35 66 h rfl (fun _ h=>?_) fun _ h=>?_
         ·dsimp only [go_sem];refine Zt2 5 ?_;dsimp only [go_sem];refine An ?_;exact Z65 J5 (s:=decide (x12.Age=0)) h
         ·dsimp only [go_sem];refine Zt2 5 ?_;dsimp only [go_sem];refine An ?_;exact Z65 J5 (s:=false) h
      ·refine Zs3 (by kernel_rfl) fun all hall hs hnap haf=>?_;dsimp only [go_sem];refine Zq5 hall hs haf hnap 4 33 [4,33] [(26,[.ptr 1 0,.iv x12.ID,.bv (decide (x12.ID<1)),.bv (decide (x12.ID<1))])] (by kernel_rfl) ?_;dsimp only [go_sem];refine Ze5 29 h rfl (fun _ h=>?_) fun _ h=>?_
       ·dsimp only [go_sem];refine Zq5 hall hs haf hnap 33 0 [37] [(30,[.un,.un,.un,.un,.un,.tt,.tt,.un,.un,.un,.un,.un,.un,.un,.un,.un,.un,.un,.un,.un,.un,.tt,.tt,.un,.un,.un,.un,.tt,.tt,.un,.un,.un,.tt])] (by kernel_rfl) ?_;dsimp only [go_sem];refine Z24 rfl ?_ _;exact Z65 J4 (s:=true) h
       ·dsimp only [go_sem];refine Zq5 hall hs haf hnap 7 26 [11,26] [(30,[.ptr 1 0,.iv x12.ID,.ptr 0 0,.iv x1.Last,.bv (decide (x1.Last<x12.ID)),.bv (decide (x1.Last<x12.ID)),.bv (decide (x1.Last<x12.ID))])] (by kernel_rfl) ?_;dsimp only [go_sem];refine Ze5 36 h rfl (fun _ h=>?_) fun _ h=>?_
        ·dsimp only [go_sem];refine Zq5 hall hs haf hnap 26 0 [37] [(37,[.un,.un,.un,.un,.un,.un,.un,.un,.un,.un,.un,.un,.un,.un,.tt,.tt,.un,.un,.un,.un,.tt,.tt,.un,.un,.un,.tt])] (by kernel_rfl) ?_;dsimp only [go_sem];refine Z24 rfl ?_ _;exact Z65 J4 (s:=true) h
        ·dsimp only [go_sem];refine Zq5 hall hs haf hnap 3 23 [14,23] [(37,[.iv x11,.bv (decide (0<x11)),.bv (decide (0<x11))])] (by kernel_rfl) ?_;dsimp only [go_sem];refine Ze5 39 h rfl (fun _ h=>?_) fun _ h=>?_
         ·dsimp only [go_sem];refine Zq5 hall hs haf hnap 6 17 [18,3,2,14] [(40,[.ptr 0 1,.sl 4 (List.map Sess.row x1.Sess),.iv x11,.iv (wr (x11-1))]),(3,[.ptr 1 0,.iv x12.ID])] (by kernel_rfl) ?_;dsimp only [go_sem];obtain ⟨x13,ex13,h⟩:=Bs h;refine Z05 hall hs haf hnap 18 Sess.row ex13 rfl rfl trivial rfl rfl rfl rfl ?_
          refine Zq5 hall hs haf hnap 6 10 [27,10] [(45,[.elt [.iv x13.ID,.sl 1 (List.map Zb5 x13.Need),.iv x13.State,.iv x13.Age] 0,.iv x13.ID]),(2,[.bv (decide (x12.ID≤x13.ID)),.bv (decide (x12.ID≤x13.ID)),.bv (decide (x12.ID≤x13.ID)),.bv (decide (x12.ID≤x13.ID))])] (by kernel_rfl) ?_;dsimp only [go_sem];refine Ze5 52 h rfl (fun _ h=>?_) fun _ h=>?_
          ·dsimp only [go_sem];refine Zq5 hall hs haf hnap 10 0 [37] [(53,[.un,.un,.un,.un,.tt,.tt,.un,.un,.un,.tt])] (by kernel_rfl) ?_;dsimp only [go_sem];refine Z24 rfl ?_ _;exact Z65 J4 (s:=true) h
          ·dsimp only [go_sem];refine Zq5 hall hs haf hnap 2 8 [29,8] [(53,[.ptr 1 1,.sl 1 (List.map Zb5 x12.Need)])] (by kernel_rfl) ?_;dsimp only [go_sem];refine Z34 29 rfl ?_;obtain ⟨x14,ex14,h⟩:=Bs h;refine Z84 hall rfl trivial (Zrr x12.Need _ ex14) (h:=?_);dsimp only [go_sem];refine Zq5 hall hs haf hnap 3 4 [33,4] [(56,[.bv (!x14),.bv (!x14),.bv (!x14)])] (by kernel_rfl) ?_;dsimp only [go_sem];refine Ze5 58 h rfl (fun _ h=>?_) fun _ h=>?_
           ·dsimp only [go_sem];refine Zq5 hall hs haf hnap 4 0 [37] [(59,[.un,.un,.un,.tt])] (by kernel_rfl) ?_;dsimp only [go_sem];refine Z24 rfl ?_ _;exact Z65 J4 (s:=true) h
           ·dsimp only [go_sem];refine Zq5 hall hs haf hnap 4 0 [37] [(59,[.ptr 1 3,.iv x12.Age,.bv (decide (x12.Age<0)),.bv (decide (x12.Age<0))])] (by kernel_rfl) ?_;dsimp only [go_sem];refine Z24 rfl ?_ _;exact Z65 J4 (s:=decide (x12.Age<0)) h
         ·dsimp only [go_sem];refine Zq5 hall hs haf hnap 15 8 [29,8] [(40,[.un,.un,.un,.un,.un,.un,.un,.un,.un,.un,.ff,.ff,.ff,.ptr 1 1,.sl 1 (List.map Zb5 x12.Need)])] (by kernel_rfl) ?_;dsimp only [go_sem];refine Z34 29 rfl ?_;obtain ⟨x15,ex15,h⟩:=Bs h;refine Z84 hall rfl trivial (Zrr x12.Need _ ex15) (h:=?_);dsimp only [go_sem];refine Zq5 hall hs haf hnap 3 4 [33,4] [(56,[.bv (!x15),.bv (!x15),.bv (!x15)])] (by kernel_rfl) ?_;dsimp only [go_sem];refine Ze5 58 h rfl (fun _ h=>?_) fun _ h=>?_
          ·dsimp only [go_sem];refine Zq5 hall hs haf hnap 4 0 [37] [(59,[.un,.un,.un,.tt])] (by kernel_rfl) ?_;dsimp only [go_sem];refine Z24 rfl ?_ _;exact Z65 J4 (s:=true) h
          ·dsimp only [go_sem];refine Zq5 hall hs haf hnap 4 0 [37] [(59,[.ptr 1 3,.iv x12.Age,.bv (decide (x12.Age<0)),.bv (decide (x12.Age<0))])] (by kernel_rfl) ?_;dsimp only [go_sem];refine Z24 rfl ?_ _;exact Z65 J4 (s:=decide (x12.Age<0)) h
    ·refine Zt2 1 ?_;dsimp only [go_sem];refine An ?_;exact Z65 J2 (s:=()) (Zt4 h hout1)
 ·refine Z35 8 h rfl (fun _ h=>?_) fun _ h=>?_
  ·dsimp only [go_sem];refine Zt2 6 ?_;dsimp only [go_sem];refine An ?_;exact Z65 J1 (s:=true) h
  ·dsimp only [go_sem];refine Zt2 6 ?_;dsimp only [go_sem];refine An ?_;exact Z65 J1 (s:=decide (8<(ln Sess.row x1.Sess))) h
set_option maxRecDepth 100000
set_option maxHeartbeats 4000000
@[go_sem] def e35:EC:=.seq (.reg [(Qx 3 64 2 0),(Qa 6 (.alloc 64 [.iv 0,.nl])),(Qi 7 0)]) (.seq (.seq (.reg [(Qe 8 2 3),(Qa 9 (.call 63 [(.t 8)])),(Qa 10 (.not (.t 9)))]) (.ite (.t 10) (.seq (.reg [(Qa 11 (.build [.iv 0,.nl] [])),(Qs 2 6 11),(Qi 7 170)]) (.ret)) (.skip))) (.seq (.seq (.reg [(Qm 12 1),(Qf 13 0 3),(Ql 14 13),(Qa 15 (.bin .leq (.t 12) (.t 14)))]) (.ite (.t 15) (.seq (.reg [(Qa 16 (.build [.iv 0,.nl] [])),(Qs 2 6 16),(Qi 7 171)]) (.ret)) (.skip))) (.seq (.reg [(Qm 17 2),(Qa 18 (.call 65 [(.t 17)])),(Qm 2 18)]) (.seq (.seq (.reg [(Qm 19 2),(Qa 20 (.call 66 [(.t 19)])),(Qa 21 (.not (.t 20)))]) (.ite (.t 21) (.seq (.reg [(Qa 22 (.build [.iv 0,.nl] [])),(Qs 2 6 22),(Qi 7 172)]) (.ret)) (.skip))) (.seq (.seq (.reg [(Qf 23 1 3),(Ql 24 23),(Qa 25 (.len (.t 24))),(Qa 26 (.bin .geq (.t 25) (.c (.iv 8))))]) (.ite (.t 26) (.seq (.reg [(Qa 27 (.build [.iv 0,.nl] [])),(Qs 2 6 27),(Qi 7 173)]) (.ret)) (.skip))) (.seq (.reg [(Qm 28 1),(Qf 29 0 3),(Qs 1 29 28)]) (.seq (.reg [(Qa 30 (.bsl 74 4 0 [.iv 0,.nl,.iv 0,.iv 0] [])),(Qf 31 1 3),(Ql 32 31),(Qa 33 (.app 74 4 48 (.t 30) (.t 32))),(Qm 34 1),(Qm 35 2),(Qa 36 (.build [.iv 0,.nl,.iv 0,.iv 0] [(0,1,(.t 34)),(1,1,(.t 35))])),(Qa 37 (.bsl 74 4 1 [.iv 0,.nl,.iv 0,.iv 0] [(0,(.t 36))])),(Qa 38 (.app 74 4 48 (.t 33) (.t 37))),(Qf 39 1 3),(Qs 1 39 38)]) (.seq (.reg [(Qe 40 2 3),(Qs 2 6 40),(Qi 7 0)]) (.ret)))))))))
theorem ok35:FnOK Tryz.prog 35 Tryz.f35 e35 [.c 6 (some 2),.t 7] 3 38:=⟨by kernel_rfl,⟨_,rfl,by kernel_rfl⟩,by kernel_rfl,by kernel_rfl⟩
noncomputable def Z1s (x1:Book) (x2:Int) (x3:(List Int)):Option (Book×Int):=
 (Zzr x1).bind fun x4=>
 ifb (!x4) (
 some ((Book.mk 0 (([]:(List Sess)))),170)) (
 ifb (decide (x2≤x1.Last)) (
 some ((Book.mk 0 (([]:(List Sess)))),171)) (
 (Z9r x3).bind fun x5=>
 (Zqr x5).bind fun x6=>
 ifb (!x6) (
 some ((Book.mk 0 (([]:(List Sess)))),172)) (
 ifb (decide (8≤(ln Sess.row x1.Sess))) (
 some ((Book.mk 0 (([]:(List Sess)))),173)) (
 (Zh4 48 (([]:List Sess)) x1.Sess).bind fun x7=>
 (Zh4 48 x7 ([(Sess.mk x2 x5 0 0)])).bind fun x8=>
 some ((Book.mk x2 x8),0)))))
theorem Z2s (x1:Book) (x2:Int) (x3:(List Int)) (r:(Book×Int)) (h:Z1s x1 x2 x3=some r):Zy2 Tryz.prog 35 [.agg (Book.row x1),.iv x2,.sl 1 (List.map Zb5 x3)] (.tup [.agg (Book.row r.1),.iv r.2]):=by
 refine Z23 ok35 rfl rfl fun w0 H0=>?_
 rw [Z1s] at h
 refine Zt2 10 ?_;dsimp only [go_sem];refine An ?_;obtain ⟨x4,ex4,h⟩:=Bs h;refine Z73 trivial (Z0s x1 _ ex4) (h:=?_);refine Zt2 2 ?_;dsimp only [go_sem];refine An ?_;refine Zw4 h rfl (fun _ h=>?_) fun _ h=>?_
 ·refine Zt2 6 ?_;dsimp only [go_sem];refine An ?_;exact Z45 (res:=fun (r:(Book×Int))=>.tup [.agg (Book.row r.1),.iv r.2]) ok35 h
 ·refine Zt2 9 ?_;dsimp only [go_sem];refine An ?_;refine Zw4 h rfl (fun _ h=>?_) fun _ h=>?_
  ·refine Zt2 6 ?_;dsimp only [go_sem];refine An ?_;exact Z45 (res:=fun (r:(Book×Int))=>.tup [.agg (Book.row r.1),.iv r.2]) ok35 h
  ·refine Zt2 4 ?_;dsimp only [go_sem];refine An ?_;obtain ⟨x5,ex5,h⟩:=Bs h;refine Z73 trivial (Zbr x3 _ ex5) (h:=?_);refine Zt2 6 ?_;dsimp only [go_sem];refine An ?_;obtain ⟨x6,ex6,h⟩:=Bs h;refine Z73 trivial (Zrr x5 _ ex6) (h:=?_);refine Zt2 2 ?_;dsimp only [go_sem];refine An ?_;refine Zw4 h rfl (fun _ h=>?_) fun _ h=>?_
   ·refine Zt2 6 ?_;dsimp only [go_sem];refine An ?_;exact Z45 (res:=fun (r:(Book×Int))=>.tup [.agg (Book.row r.1),.iv r.2]) ok35 h
   ·refine Zt2 9 ?_;dsimp only [go_sem];refine An ?_;refine Zw4 h rfl (fun _ h=>?_) fun _ h=>?_
    ·refine Zt2 6 ?_;dsimp only [go_sem];refine An ?_;exact Z45 (res:=fun (r:(Book×Int))=>.tup [.agg (Book.row r.1),.iv r.2]) ok35 h
    ·refine Zt2 12 ?_;dsimp only [go_sem];refine An ?_;obtain ⟨x7,ex7,h⟩:=Bs h;refine Z15 Sess.row ex7 trivial rfl rfl rfl ?_;refine Zt2 4 ?_;dsimp only [go_sem];refine An ?_;obtain ⟨x8,ex8,h⟩:=Bs h;refine Z15 Sess.row ex8 trivial rfl rfl rfl ?_;refine Zt2 9 ?_;dsimp only [go_sem];refine An ?_;refine Zk3 3 rfl ?_;dsimp only [go_sem];exact Z45 (res:=fun (r:(Book×Int))=>.tup [.agg (Book.row r.1),.iv r.2]) ok35 h
set_option maxRecDepth 100000
set_option maxHeartbeats 4000000
@[go_sem] def e67:EC:=.seq (.reg [(Qx 1 64 2 0),(Qa 2 (.mv (.c .ff)))]) (.seq (.reg [(Qf 3 1 1),(Ql 4 3),(Qa 5 (.len (.t 4))),(Qa 6 (.bin .gtr (.t 5) (.c (.iv 0)))),(Qm 7 6),(Qh 8 7 true 1 1),(Qn 9 7 true 8),(Qg 10 7 true (.idx 4 (.t 9) (.c (.iv 0)))),(Qh 11 7 true 2 10),(Qn 12 7 true 11),(Qg 13 7 true (.bin .eql (.t 12) (.c (.iv 1)))),(Qp 14 7 13),(Qm 2 14)]) (.ret))
theorem ok67:FnOK Tryz.prog 67 Tryz.f67 e67 [.t 2] 1 14:=⟨by kernel_rfl,⟨_,rfl,by kernel_rfl⟩,by kernel_rfl,by kernel_rfl⟩
noncomputable def Z3s:Bool→Option Bool
| x3=>
 some x3
noncomputable def Z4s (x1:Book):Option Bool:=
 ifb (decide (0<(ln Sess.row x1.Sess))) (
 (at_ x1.Sess 0).bind fun x2=>
 Z3s (decide (x2.State=1))) (
 Z3s false)
theorem Z5s (x1:Book) (r:Bool) (h:Z4s x1=some r):Zy2 Tryz.prog 67 [.agg (Book.row x1)] (.bv r):=by
 refine Z23 ok67 rfl rfl fun w0 H0=>?_
 rw [Z4s] at h
 refine Zt2 12 ?_;dsimp only [go_sem];refine An ?_;refine Zu4 (fun (x3:Bool)=>(⟨(.any :: .any :: .bv x3::an 12 []),[],[]⟩:St)) Z3s r ?_ fun J1=>?_
 ·intro x3 h;rw [Z3s] at h;(try dsimp only);exact Z45 (res:=fun (r:Bool)=>.bv r) ok67 h
 ·refine Z35 7 h rfl (fun _ h=>?_) fun _ h=>?_
  ·dsimp only [go_sem];refine Zt2 2 ?_;dsimp only [go_sem];refine An ?_;obtain ⟨x2,ex2,h⟩:=Bs h;refine Zz4 Sess.row ex2 trivial rfl rfl rfl ?_;refine Zt2 6 ?_;dsimp only [go_sem];refine An ?_;exact Z65 J1 (s:=decide (x2.State=1)) h
  ·dsimp only [go_sem];refine Zt2 9 ?_;dsimp only [go_sem];refine An ?_;exact Z65 J1 (s:=false) h
set_option maxRecDepth 100000
set_option maxHeartbeats 4000000
@[go_sem] def e36:EC:=.seq (.reg [(Qx 1 64 2 0),(Qa 2 (.alloc 64 [.iv 0,.nl])),(Qi 3 0),(Qi 4 0)]) (.seq (.seq (.reg [(Qe 6 2 1),(Qa 7 (.call 63 [(.t 6)])),(Qa 8 (.not (.t 7)))]) (.ite (.t 8) (.seq (.reg [(Qa 9 (.build [.iv 0,.nl] [])),(Qs 2 2 9),(Qi 3 0),(Qi 4 170)]) (.ret)) (.skip))) (.seq (.seq (.reg [(Qf 10 1 1),(Ql 11 10),(Qa 12 (.len (.t 11))),(Qa 13 (.bin .eql (.t 12) (.c (.iv 0)))),(Qm 14 13),(Qg 15 14 false (.loadA 2 (.t 1))),(Qg 16 14 false (.call 67 [(.t 15)])),(Qq 17 14 16)]) (.ite (.t 17) (.seq (.reg [(Qa 18 (.build [.iv 0,.nl] [])),(Qs 2 2 18),(Qi 3 0),(Qi 4 175)]) (.ret)) (.skip))) (.seq (.reg [(Qa 19 (.bsl 74 4 0 [.iv 0,.nl,.iv 0,.iv 0] [])),(Qf 20 1 1),(Ql 21 20),(Qa 22 (.app 74 4 48 (.t 19) (.t 21))),(Qm 5 22)]) (.seq (.reg [(Qm 23 5),(Qa 24 (.idx 4 (.t 23) (.c (.iv 0)))),(Qf 25 2 24),(Qb (.store 1 (.t 25) (.c (.iv 1))))]) (.seq (.drw [(Qf 26 0 1),(Ql 27 26),(Qm 28 5),(Qa 29 (.build [.iv 0,.nl] [(0,1,(.t 27)),(1,1,(.t 28))])),(Qm 30 5),(Qa 31 (.idx 4 (.t 30) (.c (.iv 0)))),(Qf 32 0 31),(Ql 33 32),(Qs 2 2 29),(Qm 3 33),(Qi 4 0)] [[],[0],[],[1,2],[],[4],[5],[6],[3,0,1,2,3],[7,8,0,1,2,3,4,5,6,7,8],[9,0,1,2,3,4,5,6,7,8,9]] [[1],[0,3],[3],[1,2,8],[5],[4,6],[5,7],[6,9],[3],[7],[]]) (.ret))))))
theorem ok36:FnOK Tryz.prog 36 Tryz.f36 e36 [.c 2 (some 2),.t 3,.t 4] 1 33:=⟨by kernel_rfl,⟨_,rfl,by kernel_rfl⟩,by kernel_rfl,by kernel_rfl⟩
noncomputable def Z6s (x1:Book):Bool→Option (Book×Int×Int)
| x4=>
 ifb x4 (
 some ((Book.mk 0 (([]:(List Sess)))),0,175)) (
 (Zh4 48 (([]:List Sess)) x1.Sess).bind fun x5=>
 (at_ x5 0).bind fun x6=>
 some ((Book.mk x1.Last (x5.set (Int.toNat (0)) ((Sess.mk x6.ID x6.Need 1 x6.Age)))),x6.ID,0))
noncomputable def Z7s (x1:Book):Option (Book×Int×Int):=
 (Zzr x1).bind fun x2=>
 ifb (!x2) (
 some ((Book.mk 0 (([]:(List Sess)))),0,170)) (
 ifb (decide ((ln Sess.row x1.Sess)=0)) (
 (Z6s x1) true) (
 (Z4s x1).bind fun x3=>
 (Z6s x1) x3))
theorem Z8s (x1:Book) (r:(Book×Int×Int)) (h:Z7s x1=some r):Zy2 Tryz.prog 36 [.agg (Book.row x1)] (.tup [.agg (Book.row r.1),.iv r.2.1,.iv r.2.2]):=by
 refine Z23 ok36 rfl rfl fun w0 H0=>?_
 rw [Z7s] at h
 refine Zt2 11 ?_;dsimp only [go_sem];refine An ?_;obtain ⟨x2,ex2,h⟩:=Bs h;refine Z73 trivial (Z0s x1 _ ex2) (h:=?_);refine Zt2 2 ?_;dsimp only [go_sem];refine An ?_;refine Zw4 h rfl (fun _ h=>?_) fun _ h=>?_
 ·refine Zt2 7 ?_;dsimp only [go_sem];refine An ?_;exact Z45 (res:=fun (r:(Book×Int×Int))=>.tup [.agg (Book.row r.1),.iv r.2.1,.iv r.2.2]) ok36 h
 ·refine Zt2 9 ?_;dsimp only [go_sem];refine An ?_;refine Zu4 (fun (x4:Bool)=>(⟨(.any :: .ptr 0 0 :: .ptr 1 0::an 14 (.bv x4::an 16 [])),[some ⟨64,[.iv x1.Last,.sl 4 (List.map Sess.row x1.Sess)]⟩,some ⟨64,[.iv 0,.nl]⟩],[]⟩:St)) (Z6s x1) r ?_ fun J1=>?_
  ·intro x4 h;rw [Z6s] at h;(try dsimp only);refine Zw4 h rfl (fun _ h=>?_) fun _ h=>?_
   ·refine Zt2 7 ?_;dsimp only [go_sem];refine An ?_;exact Z45 (res:=fun (r:(Book×Int×Int))=>.tup [.agg (Book.row r.1),.iv r.2.1,.iv r.2.2]) ok36 h
   ·refine Zt2 6 ?_;dsimp only [go_sem];refine An ?_;obtain ⟨x5,ex5,h⟩:=Bs h;refine Z15 Sess.row ex5 trivial rfl rfl rfl ?_;refine Zt2 5 ?_;dsimp only [go_sem];refine An ?_;obtain ⟨x6,ex6,h⟩:=Bs h;refine Zs5 Sess.row ex6 trivial rfl rfl rfl ?_;refine Zt2 1 ?_;dsimp only [go_sem];refine An ?_;refine Zz5 [.iv 1] Sess.row (y':=(Sess.mk x6.ID x6.Need 1 x6.Age)) ex6 trivial rfl rfl rfl (by first | exact Zg4 _ | simp [go_sem]) rfl rfl rfl rfl ?_;refine Zt2 2 ?_;dsimp only [go_sem];refine An ?_
    refine Zs3 (by kernel_rfl) fun all hall hs hnap haf=>?_;dsimp only [go_sem];refine Zp5 hall hs haf hnap 5 6 ?_;dsimp only [go_sem];refine An ?_;refine Z44 5 8 rfl ?_ ?_
    ·refine Z76 hall Sess.row (Zt5 ex6) rfl trivial rfl rfl rfl ?_;dsimp only [go_sem];refine Zp5 hall hs haf hnap 1 4 ?_;dsimp only [go_sem];refine An ?_;refine Z44 7 8 rfl ?_ ?_
     ·refine Z86 hall Sess.row (Zt5 ex6) rfl trivial rfl rfl rfl ?_;dsimp only [go_sem];refine Z34 8 rfl ?_;refine Z74 hall rfl trivial ?_;dsimp only [go_sem];refine Zp5 hall hs haf hnap 2 0 ?_;dsimp only [go_sem];refine An ?_;refine Z24 rfl ?_ _;refine Zk3 1 rfl ?_;dsimp only [go_sem];exact Z45 (res:=fun (r:(Book×Int×Int))=>.tup [.agg (Book.row r.1),.iv r.2.1,.iv r.2.2]) ok36 h
     ·refine Z74 hall rfl trivial ?_;dsimp only [go_sem];refine Z34 7 rfl ?_;refine Z86 hall Sess.row (Zt5 ex6) rfl trivial rfl rfl rfl ?_;dsimp only [go_sem];refine Zp5 hall hs haf hnap 2 0 ?_;dsimp only [go_sem];refine An ?_;refine Z24 rfl ?_ _;refine Zk3 1 rfl ?_;dsimp only [go_sem];exact Z45 (res:=fun (r:(Book×Int×Int))=>.tup [.agg (Book.row r.1),.iv r.2.1,.iv r.2.2]) ok36 h
    ·refine Z74 hall rfl trivial ?_;dsimp only [go_sem];refine Z34 5 rfl ?_;refine Z76 hall Sess.row (Zt5 ex6) rfl trivial rfl rfl rfl ?_;dsimp only [go_sem];refine Zp5 hall hs haf hnap 1 3 ?_;dsimp only [go_sem];refine An ?_;refine Z34 7 rfl ?_;refine Z86 hall Sess.row (Zt5 ex6) rfl trivial rfl rfl rfl ?_;dsimp only [go_sem];refine Zp5 hall hs haf hnap 2 0 ?_;dsimp only [go_sem];refine An ?_;refine Z24 rfl ?_ _;refine Zk3 1 rfl ?_;dsimp only [go_sem]
     exact Z45 (res:=fun (r:(Book×Int×Int))=>.tup [.agg (Book.row r.1),.iv r.2.1,.iv r.2.2]) ok36 h
  ·refine Z35 14 h rfl (fun _ h=>?_) fun _ h=>?_
   ·dsimp only [go_sem];refine Zt2 4 ?_;dsimp only [go_sem];refine An ?_;exact Z65 J1 (s:=true) h
   ·dsimp only [go_sem];refine Zt2 1 ?_;dsimp only [go_sem];refine An ?_;obtain ⟨x3,ex3,h⟩:=Bs h;refine Z73 trivial (Z5s x1 _ ex3) (h:=?_);refine Zt2 2 ?_;dsimp only [go_sem];refine An ?_;exact Z65 J1 (s:=x3) h
set_option maxRecDepth 100000
set_option maxHeartbeats 4000000
@[go_sem] def e39_L0:EC:=.seq (.seq (.reg [(Qm 6 5),(Qf 7 1 2),(Ql 8 7),(Qa 9 (.len (.t 8))),(Qa 10 (.bin .lss (.t 6) (.t 9)))]) (.ite (.t 10) (.skip) (.exit 0))) (.seq (.blk 1 (.seq (.reg [(Qf 13 1 2),(Ql 14 13),(Qm 15 5),(Qk 16 4 14 15),(Qf 17 0 16),(Ql 18 17),(Qm 19 1),(Qa 20 (.bin .eql (.t 18) (.t 19)))]) (.ite (.t 20) (.seq (.reg [(Qm 21 5),(Qm 4 21)]) (.ret)) (.skip)))) (.reg [(Qm 11 5),(Qv 12 11 1),(Qm 5 12)]))
@[go_sem] def e39:EC:=.seq (.reg [(Qx 2 64 2 0),(Qi 4 0)]) (.seq (.seq (.reg [(Qi 5 0)]) (.blk 0 (.loop e39_L0))) (.seq (.reg [(Qa 4 (.mv (.c (.iv (-1)))))]) (.ret)))
theorem ok39:FnOK Tryz.prog 39 Tryz.f39 e39 [.t 4] 2 20:=⟨by kernel_rfl,⟨_,rfl,by kernel_rfl⟩,by kernel_rfl,by kernel_rfl⟩
noncomputable def Z9s:Unit→Option Int
| ()=>
 some (-1)
noncomputable def Zas (x1:Book) (x2:Int):Int→Option (Int ⊕ Int)
| x5=>
 ifb (decide (x5<(ln Sess.row x1.Sess))) (
 (at_ x1.Sess x5).bind fun x6=>
 ifb (decide (x6.ID=x2)) (
 Option.map Sum.inr (some x5)) (
 some (.inl (wr (x5+1))))) (
 Option.map Sum.inr (Z9s ()))
noncomputable def Zbs (x1:Book) (x2:Int):Option Int:=
 loop (Zas x1 x2) 0
theorem Zcs (x1:Book) (x2:Int) (r:Int) (h:Zbs x1 x2=some r):Zy2 Tryz.prog 39 [.agg (Book.row x1),.iv x2] (.iv r):=by
 refine Z23 ok39 rfl rfl fun w0 H0=>?_
 rw [Zbs] at h
 refine Zt2 10 ?_;dsimp only [go_sem];refine An ?_;refine Zu4 (fun (_:Unit)=>(⟨(an 22 []),[],[]⟩:St)) Z9s r ?_ fun J1=>?_
 ·rintro ⟨⟩ h;rw [Z9s] at h;(try dsimp only);refine Zt2 4 ?_;dsimp only [go_sem];refine An ?_;exact Z45 (res:=fun (r:Int)=>.iv r) ok39 h
 ·refine Zt2 1 ?_;dsimp only [go_sem];refine An ?_;refine Zv4 h (fun (x5:Int)=>(⟨(.any :: .iv x2 :: .ptr 0 0 :: .any :: .any :: .iv x5::an 16 []),[some ⟨64,[.iv x1.Last,.sl 4 (List.map Sess.row x1.Sess)]⟩],[]⟩:St)) (by simp [go_sem]) (by intro x5;first | rfl | simp [go_sem]) ?_;rintro n1 x5 y1 h hin1 hout1;rw [Zas] at h;(try dsimp only);refine Zt2 9 ?_;dsimp only [go_sem];refine An ?_;refine Zw4 h rfl (fun _ h=>?_) fun _ h=>?_
  ·refine Zt2 8 ?_;dsimp only [go_sem];refine An ?_;obtain ⟨x6,ex6,h⟩:=Bs h;refine Zz4 Sess.row ex6 trivial rfl rfl rfl ?_;refine Zt2 5 ?_;dsimp only [go_sem];refine An ?_;refine Zw4 h rfl (fun _ h=>?_) fun _ h=>?_
   ·refine Zt2 5 ?_;dsimp only [go_sem];refine An ?_;exact Z45 (res:=fun (r:Int)=>.iv r) ok39 (Zt4 h hout1)
   ·refine Zt2 7 ?_;dsimp only [go_sem];refine An ?_;exact Z55 h hin1
  ·refine Zt2 1 ?_;dsimp only [go_sem];refine An ?_;exact Z65 J1 (s:=()) (Zt4 h hout1)
set_option maxRecDepth 100000
set_option maxHeartbeats 4000000
@[go_sem] def e38:EC:=.seq (.reg [(Qx 2 64 2 0),(Qa 4 (.alloc 64 [.iv 0,.nl]))]) (.seq (.drw [(Qa 5 (.bsl 74 4 0 [.iv 0,.nl,.iv 0,.iv 0] [])),(Qf 6 1 2),(Ql 7 6),(Qm 8 1),(Qa 9 (.slice 4 (.t 7) none (some (.t 8)))),(Qa 10 (.app 74 4 48 (.t 5) (.t 9))),(Qf 11 1 2),(Ql 12 11),(Qm 13 1),(Qv 14 13 1),(Qa 15 (.slice 4 (.t 12) (some (.t 14)) none)),(Qa 16 (.app 74 4 48 (.t 10) (.t 15))),(Qf 17 1 2),(Qs 1 17 16)] [[],[],[1],[],[2,3],[0,4],[],[6],[],[8],[7,9],[5,10,5],[0,1,2,3,4,5,6,7,8,9,10,11],[12,11,11,0,1,2,3,4,5,6,7,8,9,10,11]] [[5],[2],[1,4],[4],[2,3,5],[0,4,11],[7],[6,10],[9],[8,10],[7,9,11],[5,10,13],[13],[11,12]]) (.seq (.reg [(Qe 18 2 2),(Qs 2 4 18)]) (.ret)))
theorem ok38:FnOK Tryz.prog 38 Tryz.f38 e38 [.c 4 (some 2)] 2 17:=⟨by kernel_rfl,⟨_,rfl,by kernel_rfl⟩,by kernel_rfl,by kernel_rfl⟩
noncomputable def Zds (x1:Book):(List Sess)→Option Book
| x7=>
 some (Book.mk x1.Last x7)
noncomputable def Zes (x1:Book) (x2:Int):Option Book:=
 (Zi4 x1.Sess 0 x2).bind fun x3=>
 (Zi4 x1.Sess (wr (x2+1)) (ln Sess.row x1.Sess)).bind fun x4=>
 (Zh4 48 (([]:List Sess)) x3).bind fun x5=>
 (Zh4 48 x5 x4).bind fun x6=>
 (Zds x1) x6
theorem Zfs (x1:Book) (x2:Int) (r:Book) (h:Zes x1 x2=some r):Zy2 Tryz.prog 38 [.agg (Book.row x1),.iv x2] (.agg (Book.row r)):=by
 refine Z23 ok38 rfl rfl fun w0 H0=>?_
 rw [Zes] at h
 refine Zt2 6 ?_;dsimp only [go_sem];refine An ?_;refine Zu4 (fun (x7:(List Sess))=>(⟨(.any :: .any :: .ptr 0 0 :: .any :: .ptr 1 0::an 14 []),[some ⟨64,[.iv x1.Last,.osl 2]⟩,some ⟨64,[.iv 0,.nl]⟩],[none,none,some ⟨74,4,List.map Sess.row x7⟩]⟩:St)) (Zds x1) r ?_ fun J1=>?_
 ·intro x7 h;rw [Zds] at h;(try dsimp only);refine Zt2 5 ?_;dsimp only [go_sem];refine An ?_;refine Zk3 2 rfl ?_;dsimp only [go_sem];exact Z45 (res:=fun (r:Book)=>.agg (Book.row r)) ok38 h
 ·refine Zs3 (by kernel_rfl) fun all hall hs hnap haf=>?_;dsimp only [go_sem];refine Zq5 hall hs haf hnap 7 7 [0,1,3,2,4,4] [(6,[.ptr 0 1,.sl 4 (List.map Sess.row x1.Sess),.iv x2]),(2,[.ptr 0 1,.sl 4 (List.map Sess.row x1.Sess),.iv x2,.iv (wr (x2+1))])] (by kernel_rfl) ?_;dsimp only [go_sem];obtain ⟨x3,ex3,h⟩:=Bs h;refine Zi5 hall hs haf hnap 4 Sess.row ex3 rfl rfl trivial rfl rfl rfl rfl rfl ?_;dsimp only [go_sem];obtain ⟨x4,ex4,h⟩:=Bs h;refine Zi5 hall hs haf hnap 10 Sess.row ex4 rfl rfl trivial rfl rfl rfl rfl rfl ?_;dsimp only [go_sem]
  refine Z34 0 rfl ?_;refine Z74 hall rfl trivial ?_;dsimp only [go_sem];refine Z34 5 rfl ?_;obtain ⟨x5,ex5,h⟩:=Bs h;refine Z25 Sess.row ex5 hall rfl trivial rfl rfl rfl ?_;dsimp only [go_sem];refine Z34 11 rfl ?_;obtain ⟨x6,ex6,h⟩:=Bs h;refine Z25 Sess.row ex6 hall rfl trivial rfl rfl rfl ?_;dsimp only [go_sem];refine Zp5 hall hs haf hnap 1 1 ?_;dsimp only [go_sem];refine An ?_;refine Z34 13 rfl ?_;refine Z74 hall rfl trivial ?_;dsimp only [go_sem];refine Z24 rfl ?_ _;exact Z65 J1 (s:=x6) h
set_option maxRecDepth 100000
set_option maxHeartbeats 4000000
@[go_sem] def e37:EC:=.seq (.reg [(Qx 3 64 2 0),(Qa 6 (.alloc 64 [.iv 0,.nl])),(Qi 7 0)]) (.seq (.seq (.reg [(Qe 9 2 3),(Qa 10 (.call 63 [(.t 9)])),(Qa 11 (.not (.t 10)))]) (.ite (.t 11) (.seq (.reg [(Qa 12 (.build [.iv 0,.nl] [])),(Qs 2 6 12),(Qi 7 170)]) (.ret)) (.skip))) (.seq (.reg [(Qe 13 2 3),(Qm 14 1),(Qa 15 (.call 39 [(.t 13),(.t 14)])),(Qm 8 15)]) (.seq (.seq (.reg [(Qm 16 8),(Qa 17 (.bin .lss (.t 16) (.c (.iv 0))))]) (.ite (.t 17) (.seq (.reg [(Qa 18 (.build [.iv 0,.nl] [])),(Qs 2 6 18),(Qi 7 174)]) (.ret)) (.skip))) (.seq (.seq (.reg [(Qf 19 1 3),(Ql 20 19),(Qm 21 8),(Qk 22 4 20 21),(Qf 23 2 22),(Ql 24 23),(Qm 25 2),(Qa 26 (.bin .neq (.t 24) (.t 25)))]) (.ite (.t 26) (.seq (.reg [(Qa 27 (.build [.iv 0,.nl] [])),(Qs 2 6 27),(Qi 7 175)]) (.ret)) (.skip))) (.seq (.reg [(Qe 28 2 3),(Qm 29 8),(Qa 30 (.call 38 [(.t 28),(.t 29)])),(Qs 2 6 30),(Qi 7 0)]) (.ret))))))
theorem ok37:FnOK Tryz.prog 37 Tryz.f37 e37 [.c 6 (some 2),.t 7] 3 28:=⟨by kernel_rfl,⟨_,rfl,by kernel_rfl⟩,by kernel_rfl,by kernel_rfl⟩
noncomputable def Zgs (x1:Book) (x2:Int) (x3:Int):Option (Book×Int):=
 (Zzr x1).bind fun x4=>
 ifb (!x4) (
 some ((Book.mk 0 (([]:(List Sess)))),170)) (
 (Zbs x1 x2).bind fun x5=>
 ifb (decide (x5<0)) (
 some ((Book.mk 0 (([]:(List Sess)))),174)) (
 (at_ x1.Sess x5).bind fun x6=>
 ifb (!decide (x6.State=x3)) (
 some ((Book.mk 0 (([]:(List Sess)))),175)) (
 (Zes x1 x5).bind fun x7=>
 some (x7,0))))
theorem Zhs (x1:Book) (x2:Int) (x3:Int) (r:(Book×Int)) (h:Zgs x1 x2 x3=some r):Zy2 Tryz.prog 37 [.agg (Book.row x1),.iv x2,.iv x3] (.tup [.agg (Book.row r.1),.iv r.2]):=by
 refine Z23 ok37 rfl rfl fun w0 H0=>?_
 rw [Zgs] at h
 refine Zt2 10 ?_;dsimp only [go_sem];refine An ?_;obtain ⟨x4,ex4,h⟩:=Bs h;refine Z73 trivial (Z0s x1 _ ex4) (h:=?_);refine Zt2 2 ?_;dsimp only [go_sem];refine An ?_;refine Zw4 h rfl (fun _ h=>?_) fun _ h=>?_
 ·refine Zt2 6 ?_;dsimp only [go_sem];refine An ?_;exact Z45 (res:=fun (r:(Book×Int))=>.tup [.agg (Book.row r.1),.iv r.2]) ok37 h
 ·refine Zt2 5 ?_;dsimp only [go_sem];refine An ?_;obtain ⟨x5,ex5,h⟩:=Bs h;refine Z73 trivial (Zcs x1 x2 _ ex5) (h:=?_);refine Zt2 8 ?_;dsimp only [go_sem];refine An ?_;refine Zw4 h rfl (fun _ h=>?_) fun _ h=>?_
  ·refine Zt2 6 ?_;dsimp only [go_sem];refine An ?_;exact Z45 (res:=fun (r:(Book×Int))=>.tup [.agg (Book.row r.1),.iv r.2]) ok37 h
  ·refine Zt2 7 ?_;dsimp only [go_sem];refine An ?_;obtain ⟨x6,ex6,h⟩:=Bs h;refine Zz4 Sess.row ex6 trivial rfl rfl rfl ?_;refine Zt2 5 ?_;dsimp only [go_sem];refine An ?_;refine Zw4 h rfl (fun _ h=>?_) fun _ h=>?_
   ·refine Zt2 6 ?_;dsimp only [go_sem];refine An ?_;exact Z45 (res:=fun (r:(Book×Int))=>.tup [.agg (Book.row r.1),.iv r.2]) ok37 h
   ·refine Zt2 5 ?_;dsimp only [go_sem];refine An ?_;obtain ⟨x7,ex7,h⟩:=Bs h;refine Z73 trivial (Zfs x1 x5 _ ex7) (h:=?_);refine Zt2 3 ?_;dsimp only [go_sem];refine An ?_;exact Z45 (res:=fun (r:(Book×Int))=>.tup [.agg (Book.row r.1),.iv r.2]) ok37 h
theorem loop_rise {β:Type} (l:List Int) (good:Int→Bool) (body:Int→Option (Int ⊕ β)) (yes no:β) (h0:∀x,l[0]?=some x→body 0=some (if good x then .inl 1 else .inr no))
  (hs:∀(k:Nat) x y,l[k]?=some x→l[k+1]?=some y→body ((k+1:Nat):Int)=some (if good y&&decide (x<y) then .inl ((k+1+1:Nat):Int) else .inr no))
  (he:body l.length=some (.inr yes)):loop body 0=some (if decide (l.Pairwise (· < ·))&&l.all good then yes else no):=by
 have key:=loop_natI l.length body (fun k=>(k:Int)) (fun k=>some (if decide ((l.drop (k-1)).Pairwise (· < ·))&&(l.drop k).all good then yes else no)) (fun k hk=>?_) ?_
 ·simpa using key
 ·obtain ⟨y,hy⟩:∃y,l[k]?=some y:=⟨_,List.getElem?_eq_getElem hk⟩
  have e2:l.drop k=y::l.drop (k+1):=by
   obtain ⟨h1,rfl⟩:=List.getElem?_eq_some_iff.1 hy
   exact List.drop_eq_getElem_cons h1
  cases k with
  | zero=>
    rw [show ((0:Nat):Int)=0 from rfl,h0 y hy]
    cases hg:good y
    ·right
     refine ⟨no,rfl,?_⟩
     rw [e2,List.all_cons,hg,Bool.false_and,Bool.and_false];rfl
    ·left
     refine ⟨rfl,?_⟩
     rw [show (0:Nat)+1-1=0-1 from rfl,e2,List.all_cons,hg,Bool.true_and]
  | succ k=>
    obtain ⟨x,hx⟩:∃x,l[k]?=some x:=⟨_,List.getElem?_eq_getElem (by omega)⟩
    have e1:l.drop k=x::l.drop (k+1):=by
     obtain ⟨h1,rfl⟩:=List.getElem?_eq_some_iff.1 hx
     exact List.drop_eq_getElem_cons h1
    rw [hs k x y hx hy,show k+1-1=k from rfl,show k+1+1-1=k+1 from rfl,e1,e2,show decide ((x::y::l.drop (k+1+1)).Pairwise (· < ·))=(decide (x<y)&&decide ((y::l.drop (k+1+1)).Pairwise (· < ·))) by rw [Bool.eq_iff_iff,Bool.and_eq_true,decide_eq_true_eq,decide_eq_true_eq,decide_eq_true_eq];exact pw2,List.all_cons]
    by_cases h:x<y
    ·cases hg:good y
     ·right;exact ⟨no,by simp,by simp⟩
     ·left;exact ⟨by simp [h],by simp [h]⟩
    ·right;exact ⟨no,by simp [h],by simp [h]⟩
 ·rw [he]
  have:(l.drop (l.length-1)).Pairwise (· < ·):=by
   have h1:(l.drop (l.length-1)).length≤1:=by rw [List.length_drop];omega
   generalize l.drop (l.length-1)=q at h1
   match q,h1 with
   | [],_=>exact .nil
   | [x],_=>exact List.pairwise_singleton _ _
  rw [decide_eq_true this];simp
theorem s_r17need (n:List Int) (hn:n.length≤1000000):Zqr n=some (Z5h n&&decide (n.Pairwise (· < ·))):=by
 simp only [Zqr]
 have j2:∀(k:Nat) z,k≤1000000→Zor (k:Int) z=if z then some (.inr false) else some (.inl ((k+1:Nat):Int)):=fun k z hk=>by
  simp only [Zor,Zl6 (show k≤4000000000000000000 by omega)];cases z<;>rfl
 rw [loop_rise n (fun p=>decide (0≤p)) (Zpr n) (decide (n.length≤64)) false (fun x hx=>by
     have hx':n[(0:Nat)]?=some x:=hx
     dsimp only [Zpr]
     rw [show (0:Int)=((0:Nat):Int) from rfl,Zj6 hx',Ze6,Zh6 hx',Option.bind_some,j2 0 _ (by omega),j2 0 _ (by omega)]
     by_cases h:x<0
     ·have:¬0≤x:=by omega
      simp [h,this]
     ·have:0≤x:=by omega
      simp [h,this]) (fun k x y hx hy=>by
     have hk:=(List.getElem?_eq_some_iff.1 hy).1
     dsimp only [Zpr]
     rw [Zj6 hy,Ze6,Zh6 hy,Option.bind_some,Zza (by omega),Zh6 hx,Option.bind_some,Option.bind_some,j2 (k+1) _ (by omega),j2 (k+1) _ (by omega),j2 (k+1) _ (by omega),decide_eq_true (show (0:Int)<((k+1:Nat):Int) by omega),Ze6]
     by_cases h:y<0
     ·have:¬0≤y:=by omega
      simp [h,this]
     ·have:0≤y:=by omega
      by_cases h2:y≤x
      ·have:¬x<y:=by omega
       simp [h,h2,this]
      ·have h3:x<y:=by omega
       simp [h,h2,this,h3]) (by
     dsimp only [Zpr]
     rw [Zk6,Zf6]
     simp only [Znr,Zd5]
     have:decide (((n.length:Nat):Int)≤64)=decide (n.length≤64):=by rw [decide_eq_decide];omega
     rw [this];rfl)]
 unfold Z5h
 cases n.all (fun p=>decide (0≤p))<;>by_cases h1:n.Pairwise (· < ·)<;>by_cases h2:n.length≤64<;>simp [h1,h2]
theorem Zis (b:Book) (hb:Z9h b):Zzr b=some (Z8h b):=by
 have h1:=hb.1
 have hl:loop (Zxr b) 0=some (Z7h b.Last 0 true b.Sess):=by
  refine Zka b.Sess (Zxr b) (fun pre=>(pre.length:Int)) (fun pre post=>some (Z7h b.Last (Zah pre) pre.isEmpty post)) (fun pre=>pre=[]∨(pre≠ []∧1≤Zah pre)) (fun pre x post h hI=>?_) (fun _=>?_) b.Sess [] rfl (.inl rfl)
  ·have hx:=Zma h
   have hm:=Zna h
   have hN:=hb.2 x (Zoa h)
   have hbody:Zxr b (pre.length:Int)=if Z6h (Zah pre) b.Last pre.isEmpty x then some (.inl ((pre.length+1:Nat):Int)) else some (.inr false):=by
    have j6:∀z,Zur (pre.length:Int) z=if z then some (.inr false) else some (.inl ((pre.length+1:Nat):Int)):=fun z=>by
     simp only [Zur,Ztr,Zl6 (show pre.length≤4000000000000000000 by omega)];cases z<;>rfl
    have j5:∀z,Zvr (pre.length:Int) x z=if z||(decide (x.State=1)&&pre.isEmpty) then some (.inl ((pre.length+1:Nat):Int)) else some (.inr false):=fun z=>by
     have e0:decide ((0:Int)<(pre.length:Int))=!pre.isEmpty:=by cases pre<;>simp<;>omega
     simp only [Zvr,j6,e0,Ztr,Zl6 (show pre.length≤4000000000000000000 by omega)]
     cases z<;>by_cases hs:x.State=1<;>cases pre.isEmpty<;>simp [hs]
    have j4:∀z,Zwr (pre.length:Int) x z=if !z&&((decide (x.State=1)&&pre.isEmpty)||(decide (x.State=0)&&decide (x.Age=0))) then some (.inl ((pre.length+1:Nat):Int)) else some (.inr false):=fun z=>by
     simp only [Zwr,j5]
     cases z
     ·by_cases hs:x.State=0
      ·have:¬x.State=1:=by omega
       by_cases ha:x.Age=0<;>simp [hs,ha]
      ·simp [hs]
     ·rfl
    dsimp only [Zxr]
    rw [Zj6 hx,Ze6,Zh6 hx,Option.bind_some,s_r17need x.Need hN,Option.bind_some]
    simp only [j4]
    have eB:Z6h (Zah pre) b.Last pre.isEmpty x=(decide (Zah pre<x.ID)&&(decide (x.ID≤b.Last)&&(Z5h x.Need&&(decide (x.Need.Pairwise (· < ·))&&(decide (0≤x.Age)&&((decide (x.State=1)&&pre.isEmpty)||(decide (x.State=0)&&decide (x.Age=0)))))))):=rfl
    rw [eB]
    generalize ((decide (x.State=1)&&pre.isEmpty)||(decide (x.State=0)&&decide (x.Age=0)))=fin
    have tail:(if (!(if (Z5h x.Need&&decide (x.Need.Pairwise (· < ·))) then decide (x.Age<0) else true))&&fin then some (Sum.inl ((pre.length+1:Nat):Int)) else some (Sum.inr false))=(if Z5h x.Need&&(decide (x.Need.Pairwise (· < ·))&&(decide (0≤x.Age)&&fin)) then some (Sum.inl ((pre.length+1:Nat):Int)) else some (.inr false)):=by
     cases Z5h x.Need<;>by_cases h2:x.Need.Pairwise (· < ·)<;>by_cases h3:x.Age<0<;>cases fin
     all_goals first | (have h4:¬0≤x.Age:=by omega);simp [h2,h3,h4] | (have h4:0≤x.Age:=by omega);simp [h2,h3,h4]
    have nb:∀u v:Option (Int ⊕ Bool),ifb (!(Z5h x.Need&&decide (x.Need.Pairwise (· < ·)))) u v=if Z5h x.Need&&decide (x.Need.Pairwise (· < ·)) then v else u:=fun u v=>by
     cases Z5h x.Need&&decide (x.Need.Pairwise (· < ·))<;>rfl
    have tail2:ifb (!(Z5h x.Need&&decide (x.Need.Pairwise (· < ·)))) (if (!true)&&fin then some (Sum.inl ((pre.length+1:Nat):Int)) else some (Sum.inr false)) (if (!decide (x.Age<0))&&fin then some (Sum.inl ((pre.length+1:Nat):Int)) else some (Sum.inr false))=(if Z5h x.Need&&(decide (x.Need.Pairwise (· < ·))&&(decide (0≤x.Age)&&fin)) then some (Sum.inl ((pre.length+1:Nat):Int)) else some (.inr false)):=by
     rw [nb,←tail]
     cases Z5h x.Need&&decide (x.Need.Pairwise (· < ·))<;>rfl
    rw [tail2]
    rcases hI with rfl | ⟨hne,hge⟩
    ·rw [show Zah []=0 from rfl]
     rw [show decide ((0:Int)<(([]:List Sess).length:Nat))=false from rfl,Zf6]
     by_cases g1:x.ID<1
     ·have:¬0<x.ID:=by omega
      simp [g1,this]
     ·have g2:0<x.ID:=by omega
      by_cases g3:b.Last<x.ID
      ·have:¬x.ID≤b.Last:=by omega
       simp [g1,g2,g3,this]
      ·have g4:x.ID≤b.Last:=by omega
       rw [decide_eq_false g1,decide_eq_false g3,decide_eq_true g2,decide_eq_true g4,Zf6,Zf6,Bool.true_and,Bool.true_and]
    ·obtain ⟨p',y,rfl⟩:∃p' y,pre=p'++[y]:=⟨pre.dropLast,pre.getLast hne,(List.dropLast_concat_getLast hne).symm⟩
     rw [Zbh] at hge ⊢
     have hy:b.Sess[p'.length]?=some y:=by rw [h];simp
     have e0:decide ((0:Int)<((p'++[y]).length:Nat))=true:=by simp<;>omega
     rw [e0,Ze6,show (((p'++[y]).length:Nat):Int)=((p'.length+1:Nat):Int) by simp,Zza (by simp at hm;omega),Zh6 hy,Option.bind_some]
     by_cases g0:x.ID≤y.ID
     ·have:¬y.ID<x.ID:=by omega
      by_cases g1:x.ID<1
      ·simp [g1,this]
      ·by_cases g3:b.Last<x.ID
       ·simp [g1,g3,this]
       ·simp [g1,g3,g0,this]
     ·have g1:¬x.ID<1:=by omega
      have g2:y.ID<x.ID:=by omega
      by_cases g3:b.Last<x.ID
      ·have:¬x.ID≤b.Last:=by omega
       simp [g1,g2,g3,this]
      ·have g4:x.ID≤b.Last:=by omega
       rw [decide_eq_false g1,decide_eq_false g3,decide_eq_false g0,decide_eq_true g2,decide_eq_true g4,Zf6,Zf6,Zf6,Bool.true_and,Bool.true_and]
   rw [hbody,Zbh,Zpa]
   have e3:(pre++[x]).isEmpty=false:=by simp
   rw [e3]
   show (_∧_∧some (Z6h (Zah pre) b.Last pre.isEmpty x&&Z7h b.Last x.ID false post)=_)∨∃r,_∧some (Z6h (Zah pre) b.Last pre.isEmpty x&&Z7h b.Last x.ID false post)=some r
   cases hB:Z6h (Zah pre) b.Last pre.isEmpty x
   ·right;exact ⟨false,rfl,rfl⟩
   ·left
    have:=(Z8q.1 hB).1
    refine ⟨rfl,.inr ⟨by simp,?_⟩,by rw [Bool.true_and]⟩
    rcases hI with rfl | ⟨_,hge⟩
    ·have:(0:Int)<x.ID:=this
     omega
    ·omega
  ·dsimp only [Zxr]
   rw [Zk6,Zf6];rfl
 simp only [Zzr,Zyr,hl,Z8h,Zd5]
 by_cases h1:b.Last<0
 ·have:¬0≤b.Last:=by omega
  simp [h1,this]
 ·have:0≤b.Last:=by omega
  by_cases h2:b.Sess.length≤8
  ·have h3:¬(8:Int)<b.Sess.length:=by omega
   simp [h1,this,h2,h3]
  ·have h3:(8:Int)<b.Sess.length:=by omega
   simp [h1,this,h2,h3]
theorem s_r17Open (b:Book) (id:Int) (need:List Int) (hb:Z9h b) (hn:need.length≤5000):Z1s b id need=some (Zkh b id need):=by
 have hs:=setL_len need
 have h1:=hb.1
 have hpw:=(Z0e need).1
 simp only [Z1s,Zis b hb,s_r01Of need hn,s_r17need (Z7b need) (by omega),Option.bind_some,Zkh,Zd5]
 rw [Zi6 _ _ (by omega) (by simp;omega),Option.bind_some,List.nil_append,Zi6 _ _ (by omega) (by simp;omega),Option.bind_some,decide_eq_true hpw,Bool.and_true]
 cases hk:Z8h b
 ·rfl
 ·have h8:=(Zdq.1 hk).2.1
  simp only [if_true,Bool.not_true,Zf6]
  by_cases h2:id≤b.Last
  ·simp [h2,Z4h]
  ·cases h3:Z5h (Z7b need)
   ·simp [h2,Z4h]
   ·by_cases h4:b.Sess.length=8
    ·simp [h2,h4,Z4h]
    ·have:¬(8:Int)≤b.Sess.length:=by omega
     simp [h2,h4,this]
theorem s_r17Grant (b:Book) (hb:Z9h b):Z7s b=some (Zlh b):=by
 have h1:=hb.1
 simp only [Z7s,Zis b hb,Option.bind_some,Z6s,Z4s,Z3s,Zlh,Zd5]
 rw [Zi6 _ _ (by omega) (by simp;omega),Option.bind_some,List.nil_append]
 cases hk:Z8h b
 ·rfl
 ·simp only [if_true,Bool.not_true,Zf6]
  cases hs:b.Sess with
  | nil=>simp [Z4h]
  | cons s l=>
    have h0:at_ (s::l) 0=some s:=rfl
    have g1:¬(((s::l).length:Nat):Int)=0:=by simp;omega
    have g2:(0:Int)<(((s::l).length:Nat):Int):=by simp<;>omega
    rw [decide_eq_false g1,Zf6,decide_eq_true g2,Ze6,h0,Option.bind_some,Option.bind_some]
    by_cases h1:s.State=1
    ·simp [h1,Z4h]
    ·simp [h1]
theorem s_r17Find (b:Book) (id:Int) (hb:b.Sess.length≤1000000):Zbs b id=some (plc (Zjh b id)):=by
 simp only [Zbs]
 refine Zq6 b.Sess _ (fun s=>decide (s.ID=id)) (by omega) (fun k x hx=>?_) ?_
 ·simp only [Zas,Zj6 hx,Ze6,Zh6 hx,Option.bind_some,Zm6 hx (show b.Sess.length≤4000000000000000000 by omega)]
  cases decide (x.ID=id)<;>rfl
 ·simp only [Zas,Zk6,Zf6,Z9s,Option.map_some]
theorem Zjs (b:Book) (i:Nat) (hi:i<b.Sess.length) (hb:b.Sess.length≤1000000):Zes b (i:Int)=some ⟨b.Last,b.Sess.take i++b.Sess.drop (i+1)⟩:=by
 simp only [Zes,Zl6 (show i≤4000000000000000000 by omega),Zd5]
 unfold Zi4
 rw [if_pos ⟨by omega,by omega,by omega⟩,Option.bind_some,if_pos ⟨by omega,by omega,by omega⟩,Option.bind_some]
 have e1:(b.Sess.take (Int.toNat (i:Int))).drop (Int.toNat 0)=b.Sess.take i:=by simp
 have e2:(b.Sess.take (Int.toNat ((b.Sess.length:Nat):Int))).drop (Int.toNat ((i+1:Nat):Int))=b.Sess.drop (i+1):=by rw [Int.toNat_natCast,Int.toNat_natCast,List.take_length]
 rw [e1,e2,Zi6 _ _ (by omega) (by simp;omega),Option.bind_some,List.nil_append,Zi6 _ _ (by omega) (by simp;omega),Option.bind_some]
 rfl
theorem s_r17End (b:Book) (id want:Int) (hb:Z9h b):Zgs b id want=some (Zmh b id want):=by
 have h1:=hb.1
 simp only [Zgs,Zis b hb,s_r17Find b id hb.1,Option.bind_some,Zmh]
 cases hk:Z8h b
 ·rfl
 ·simp only [if_true,Bool.not_true,Zf6]
  cases hf:Zjh b id with
  | none=>simp [plc,Z4h]
  | some i=>
    obtain ⟨s,hs,_⟩:=Znh hf
    have hi:=(List.getElem?_eq_some_iff.1 hs).1
    rw [show plc (some i)=(i:Int) from rfl,decide_eq_false (by omega),Zf6,Zh6 hs,Option.bind_some]
    simp only [hs]
    by_cases h2:s.State=want
    ·rw [decide_eq_true h2,Bool.not_true,Zf6,Zjs b i hi hb.1,Option.bind_some,if_pos h2]
    ·simp [h2,Z4h]
set_option maxRecDepth 100000
set_option maxHeartbeats 4000000
@[go_sem] def e28:EC:=.seq (.reg [(Qx 2 35 1 0),(Qa 4 (.mv (.c .ff)))]) (.seq (.reg [(Qm 5 1),(Qa 6 (.bin .geq (.t 5) (.c (.iv 0)))),(Qm 7 6),(Qg 8 7 true (.mv (.t 1))),(Qh 9 7 true 0 2),(Qn 10 7 true 9),(Qg 11 7 true (.len (.t 10))),(Qg 12 7 true (.bin .lss (.t 8) (.t 11))),(Qp 13 7 12),(Qm 4 13)]) (.ret))
theorem ok28:FnOK Tryz.prog 28 Tryz.f28 e28 [.t 4] 2 12:=⟨by kernel_rfl,⟨_,rfl,by kernel_rfl⟩,by kernel_rfl,by kernel_rfl⟩
noncomputable def Zks:Bool→Option Bool
| x3=>
 some x3
noncomputable def Zls (x1:Model) (x2:Int):Option Bool:=
 ifb (decide (0≤x2)) (
 Zks (decide (x2<(ln Place.row x1.Places)))) (
 Zks false)
theorem Zms (x1:Model) (x2:Int) (r:Bool) (h:Zls x1 x2=some r):Zy2 Tryz.prog 28 [.agg (Model.row x1),.iv x2] (.bv r):=by
 refine Z23 ok28 rfl rfl fun w0 H0=>?_
 rw [Zls] at h
 refine Zt2 10 ?_;dsimp only [go_sem];refine An ?_;refine Zu4 (fun (x3:Bool)=>(⟨(an 4 (.bv x3::an 9 [])),[],[]⟩:St)) Zks r ?_ fun J1=>?_
 ·intro x3 h;rw [Zks] at h;(try dsimp only);exact Z45 (res:=fun (r:Bool)=>.bv r) ok28 h
 ·refine Z35 7 h rfl (fun _ h=>?_) fun _ h=>?_
  ·dsimp only [go_sem];refine Zt2 8 ?_;dsimp only [go_sem];refine An ?_;exact Z65 J1 (s:=decide (x2<(ln Place.row x1.Places))) h
  ·dsimp only [go_sem];refine Zt2 8 ?_;dsimp only [go_sem];refine An ?_;exact Z65 J1 (s:=false) h
end NX
end Go.Proofs.YthlodgjekbidcaaGreat
