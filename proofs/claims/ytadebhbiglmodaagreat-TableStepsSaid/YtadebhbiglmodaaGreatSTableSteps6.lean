/-
  Plain laws: the document's diner, and its table. No statement of the seat is proved here.
-/
import Derived.KernelRfl
import Derived.Test.YtadebhbiglmodaaGreatS4
import Derived.Test.YtadebhbiglmodaaGreatSTableSteps5
import Derived.Test.YtadebhbiglmodaaGreatS1
import Derived.Test.YtadebhbiglmodaaGreatS2
import Derived.Test.YtadebhbiglmodaaGreatS3
namespace Go.Proofs.YtadebhbiglmodaaGreat
namespace NX
open Go
theorem Zen (d:Diner):Z0l d=some (okD d):=by
 have key:d.Sides.length≤63→loop (Zyk d) 0=some (Z5e d.ID (-1) d.Sides):=fun hl=>by
  refine loop_ppI d.Sides (Zyk d) (fun pre=>(pre.length:Int)) (fun pre post=>some (Z5e d.ID (lastQ (-1) pre) post)) (fun pre=> -1≤lastQ (-1) pre) (fun pre x post h hI=>?_) (fun _=>?_) d.Sides [] rfl (Int.le_refl _)
  ·have hx:=Z49 h
   have hm:=Z59 h
   have body:Zyk d (pre.length:Int)=Zxk (pre.length:Int) (!sideD d.ID (lastQ (-1) pre) x):=by
    have bad:∀b:Bool,b=false→Zxk (pre.length:Int) (!b)=Zxk (pre.length:Int) true:=fun b e=>by rw [e];rfl
    have tail:ifb (decide (x.Epoch<0)) (Zxk (pre.length:Int) true) (ifb (decide (65535<x.Epoch)) (Zxk (pre.length:Int) true) (ifb (decide (x.State<0)) (Zxk (pre.length:Int) true) (ifb (decide (3<x.State)) (Zxk (pre.length:Int) true) (ifb x.Dirty (Zxk (pre.length:Int) (!x.Fork)) (Zxk (pre.length:Int) false)))))
      =Zxk (pre.length:Int) (!(decide (0≤x.Epoch)&&(decide (x.Epoch≤65535)&&(decide (0≤x.State)&&(decide (x.State≤3)&&!(x.Dirty&&!x.Fork)))))):=by
     rw [show decide (0≤x.Epoch)=!decide (x.Epoch<0) by rw [←decide_not,decide_eq_decide];omega,show decide (x.Epoch≤65535)=!decide (65535<x.Epoch) by rw [←decide_not,decide_eq_decide];omega,
      show decide (0≤x.State)=!decide (x.State<0) by rw [←decide_not,decide_eq_decide];omega,show decide (x.State≤3)=!decide (3<x.State) by rw [←decide_not,decide_eq_decide];omega]
     cases decide (x.Epoch<0) with
     | true=>rfl
     | false=>
       cases decide (65535<x.Epoch) with
       | true=>rfl
       | false=>
         cases decide (x.State<0) with
         | true=>rfl
         | false=>
           cases decide (3<x.State) with
           | true=>rfl
           | false=>cases x.Dirty<;>cases x.Fork<;>rfl
    dsimp only [Zyk]
    rw [Zq5 hx,Zk5,Zo5 hx,Option.bind_some]
    by_cases h1:x.Peer<0
    ·rw [decide_eq_true h1,Zk5,bad]
     unfold sideD;rw [decide_eq_false (by omega)];rfl
    ·rw [decide_eq_false h1,Zl5]
     by_cases h2:x.Peer=d.ID
     ·rw [decide_eq_true h2,Zk5,bad]
      unfold sideD;rw [decide_eq_true h2];simp
     ·rw [decide_eq_false h2,Zl5]
      rcases List.eq_nil_or_concat pre with rfl | ⟨q,y,rfl⟩
      ·rw [show decide ((0:Int)<(([]:List Side).length:Nat))=false from rfl,Zl5,tail]
       have e:lastQ (-1) [] = -1:=rfl
       rw [e]
       unfold sideD
       rw [decide_eq_true (show -1<x.Peer by omega),decide_eq_false h2];rfl
      ·rw [List.concat_eq_append] at *
       have hy:d.Sides[q.length]?=some y:=by rw [h];simp
       rw [decide_eq_true (show (0:Int)<((q++[y]).length:Nat) by rw [Z79];omega),Zk5]
       have e1:wr (((q++[y]).length:Nat)-1)=(q.length:Int):=by rw [Z79] at hm ⊢;rw [Zn5 (by omega) (by omega)];omega
       rw [e1,Zo5 hy,Option.bind_some,Z7e]
       by_cases h3:x.Peer≤y.Peer
       ·rw [decide_eq_true h3,Zk5,bad]
        unfold sideD;rw [decide_eq_false (by omega)];rfl
       ·rw [decide_eq_false h3,Zl5,tail]
        unfold sideD
        rw [decide_eq_true (show y.Peer<x.Peer by omega),decide_eq_false h2];rfl
   rw [body]
   cases hs:sideD d.ID (lastQ (-1) pre) x with
   | true=>
     left
     refine ⟨by dsimp only [Zxk];rw [Bool.not_true,Zl5,Zs5 (by omega),Z79],?_,by rw [Z5e,hs,Z7e,Bool.true_and]⟩
     rw [Z7e]
     unfold sideD at hs
     simp only [Bool.and_eq_true,decide_eq_true_eq] at hs
     omega
   | false=>exact .inr ⟨false,rfl,by rw [Z5e,hs,Bool.false_and]⟩
  ·dsimp only [Zyk]
   rw [Zr5,Zl5]
   rfl
 have j1:Zzk d (decide (63<ln Side.row d.Sides))=some (decide (d.Sides.length<64)&&Z5e d.ID (-1) d.Sides):=by
  dsimp only [Zzk]
  by_cases h:d.Sides.length<64
  ·rw [Z65,decide_eq_false (by omega),Zl5,key (by omega),decide_eq_true h];rfl
  ·rw [Z65,decide_eq_true (by omega),Zk5,decide_eq_false h];rfl
 simp only [Z0l,j1]
 unfold okD
 by_cases h1:d.ID<0
 ·rw [decide_eq_true h1,Zk5,decide_eq_false (show ¬0≤d.ID by omega)];rfl
 ·rw [decide_eq_false h1,Zl5,decide_eq_true (show 0≤d.ID by omega)]
  by_cases p0:d.Phase=0
  ·rw [p0];rfl
  ·by_cases p1:d.Phase=1
   ·rw [p1];rfl
   ·by_cases p2:d.Phase=2
    ·rw [p2];rfl
    ·rw [decide_eq_false p0,decide_eq_false p1,decide_eq_false p2]
     by_cases q:0≤d.Phase
     ·rw [decide_eq_false (show ¬d.Phase≤2 by omega)];simp [Zzk]
     ·rw [decide_eq_false q];simp [Zzk]
theorem Zfn (d:Diner) (i:Nat) (x:Side) (hl:d.Sides.length≤5000) (hi:i<d.Sides.length):Zfl d i x=some ⟨d.ID,d.Phase,d.Sides.set i x⟩:=by
 simp only [Zfl]
 rw [Zp5 _ _ (by omega) (by simp only [List.length_nil];omega),Option.bind_some,List.nil_append,Zo5 (List.getElem?_eq_getElem hi),Option.bind_some,Int.toNat_natCast]
theorem Zgn {α:Type} (q:α→Bool) (x:α) (l:List α):(x::l).findIdx? q=if q x then some 0 else (l.findIdx? q).map (· + 1):=List.findIdx?_cons
theorem Zhn {α β:Type} (l:List α) (body:Int→Option (Int ⊕ β)) (q:α→Bool) (F:Nat→α→Option β) (fin:Option β) (_:l.length≤4000000000000000000)
  (hb:∀(k:Nat) x,l[k]?=some x→body k=if q x then (F k x).map .inr else some (.inl ((k+1:Nat):Int))) (hn:∀(k:Nat) x,l[k]?=some x→q x=true→(F k x).isSome=true) (he:body l.length=fin.map .inr):
  loop body 0=match l.findIdx? q with | some i=>(match l[i]? with | some x=>F i x | none=>fin) | none=>fin:=by
 have:=Z29 l body (fun pre=>(pre.length:Int)) (fun pre post=>match post.findIdx? q with | some i=>(match l[pre.length+i]? with | some x=>F (pre.length+i) x | none=>fin) | none=>fin) (fun pre x post h=>by
  have hx:=Z49 h
  have hbx:=hb _ x hx
  rw [Zgn]
  cases hq:q x with
  | true=>
    rw [hq,if_pos rfl] at hbx
    right
    obtain ⟨r,hr⟩:=Option.isSome_iff_exists.1 (hn _ x hx hq)
    refine ⟨r,by rw [hbx,hr];rfl,?_⟩
    rw [if_pos rfl]
    dsimp only
    rw [Nat.add_zero,hx]
    exact hr
  | false=>
    rw [hq,if_neg (by simp)] at hbx
    left
    refine ⟨by rw [hbx,Z79],?_⟩
    rw [if_neg (by simp),Z79]
    cases post.findIdx? q with
    | none=>rfl
    | some i=>simp only [Option.map_some];rw [show pre.length+(i+1)=pre.length+1+i by omega]) (by
  rw [he];rfl)
 rw [show ((0:Int))=(([]:List α).length:Nat) from rfl,this]
 simp
theorem s_r13Get (d:Diner) (peer:Int) (m:Msg):Zpl d peer m=some (getD' d peer m):=by
 simp only [Zpl,Zen,Option.bind_some,getD']
 cases h:okD d with
 | false=>rfl
 | true=>
   have hl:=Zae h
   rw [Bool.not_true,Zl5,if_pos rfl]
   have F:∀(k:Nat) x,d.Sides[k]?=some x→Znl d m k x false=some (.inr (if decide (m.Kind=1)&&decide (m.Num=0) then (if x.Fork then (Zbe,132) else (⟨d.ID,d.Phase,d.Sides.set k {x with Fork:=true}⟩,0))
    else if decide (m.Kind=2)&&decide (m.Num=0) then (if x.Token then (Zbe,132) else (⟨d.ID,d.Phase,d.Sides.set k {x with Token:=true}⟩,0)) else (Zbe,133))):=fun k x hx=>by
    have hlt:=(List.getElem?_eq_some_iff.1 hx).1
    have j6:∀z,Zkl d k z=some (.inr (⟨d.ID,d.Phase,d.Sides.set k z⟩,0)):=fun z=>by
     dsimp only [Zkl]
     rw [Zfn d k z (by omega) hlt];rfl
    dsimp only [Znl]
    rw [Zl5]
    by_cases n0:m.Num=0
    ·rw [decide_eq_true n0,Bool.not_true,Zl5]
     by_cases k1:m.Kind=1
     ·rw [decide_eq_true k1,Bool.not_true,Zl5]
      dsimp only [Zml]
      rw [Zl5,decide_eq_true k1,Zk5,decide_eq_false (show ¬m.Kind=2 by omega),Zl5]
      cases hf:x.Fork with
      | true=>rfl
      | false=>
        rw [Zl5]
        dsimp only [Zll]
        rw [Zl5,decide_eq_true k1,Zk5,j6]
        rfl
     ·rw [decide_eq_false k1,Bool.not_false,Zk5]
      by_cases k2:m.Kind=2
      ·rw [decide_eq_true k2,Bool.not_true]
       dsimp only [Zml]
       rw [Zl5,decide_eq_false k1,Zl5,decide_eq_true k2,Zk5]
       cases hf:x.Token with
       | true=>rfl
       | false=>
         dsimp only [Zll]
         rw [Zl5,decide_eq_false k1,Zl5,j6]
         rfl
      ·rw [decide_eq_false k2];rfl
    ·rw [decide_eq_false n0,Bool.and_false,Bool.and_false];rfl
   have:=Zhn d.Sides (Zol d peer m) (fun x=>decide (x.Peer=peer)&&decide (x.Epoch=m.Epoch))
    (fun k x=>some (if decide (m.Kind=1)&&decide (m.Num=0) then (if x.Fork then (Zbe,132) else (⟨d.ID,d.Phase,d.Sides.set k {x with Fork:=true}⟩,0))
      else if decide (m.Kind=2)&&decide (m.Num=0) then (if x.Token then (Zbe,132) else (⟨d.ID,d.Phase,d.Sides.set k {x with Token:=true}⟩,0)) else (Zbe,133))) (some (Zbe,131)) (by omega) (fun k x hx=>by
    dsimp only [Zol]
    rw [Zq5 hx,Zk5,Zo5 hx,Option.bind_some]
    have no:Znl d m k x true=some (.inl ((k+1:Nat):Int)):=by
     have:=(List.getElem?_eq_some_iff.1 hx).1
     dsimp only [Znl,Zjl]
     rw [Zk5,Zs5 (by omega)]
    by_cases q1:x.Peer=peer
    ·rw [decide_eq_true q1,Bool.not_true,Zl5,Bool.true_and]
     by_cases q2:x.Epoch=m.Epoch
     ·rw [decide_eq_true q2,Bool.not_true,F k x hx,if_pos rfl];rfl
     ·rw [decide_eq_false q2,Bool.not_false,no,if_neg (by simp)]
    ·rw [decide_eq_false q1,Bool.not_false,Zk5,no,Bool.false_and,if_neg (by simp)]) (fun _ _ _ _=>rfl) (by
    dsimp only [Zol]
    rw [Zr5,Zl5];rfl)
   rw [this]
   cases d.Sides.findIdx? (fun x=>decide (x.Peer=peer)&&decide (x.Epoch=m.Epoch)) with
   | none=>rfl
   | some i=>dsimp only;cases d.Sides[i]?<;>rfl
def Zin (ph:Int) (x:Side):Bool:=x.Fork&&(x.Dirty&&(x.Token&&!decide (ph=2)))
def Zjn (ph:Int) (x:Side):Bool:=!x.Fork&&(x.Token&&decide (ph=1))
theorem s_mail13 (d:Diner) (x:Side) (k:Int):Zrl d x k=some ⟨d.ID,x.Peer,⟨k,x.Epoch,0⟩⟩:=rfl
def oneF (d:Diner) (k:Nat) (x:Side):Diner×List Mail×Bool:=
 if Zin d.Phase x then (⟨d.ID,d.Phase,d.Sides.set k {x with Fork:=false,Dirty:=false}⟩,[⟨d.ID,x.Peer,⟨1,x.Epoch,0⟩⟩],true)
 else (⟨d.ID,d.Phase,d.Sides.set k {x with Token:=false}⟩,[⟨d.ID,x.Peer,⟨2,x.Epoch,0⟩⟩],true)
def oneE (d:Diner):Diner×List Mail×Bool:=if decide (d.Phase=1)&&d.Sides.all (·.Fork) then (⟨d.ID,2,d.Sides.map Zge⟩,[],true) else (d,[],false)
theorem s_one (d:Diner) (hl:d.Sides.length≤63):Z6m d=some (match d.Sides.findIdx? (fun x=>Zin d.Phase x||Zjn d.Phase x) with | some i=>(match d.Sides[i]? with | some x=>oneF d i x | none=>oneE d) | none=>oneE d):=by
 have fin:Z0m d ()=some (oneE d):=by
  dsimp only [Z0m]
  unfold oneE
  by_cases p1:d.Phase=1
  ·rw [decide_eq_true p1,Bool.not_true,Zl5,Bool.true_and]
   have e6:Zyl d ()=some (⟨d.ID,2,d.Sides.map Zge⟩,[],true):=by
    dsimp only [Zyl]
    have:=Z39 d.Sides Zxl (fun pre=>((pre.length:Int),(⟨d.ID,2,pre.map Zge++d.Sides.drop pre.length⟩:Diner))) (⟨d.ID,2,d.Sides.map Zge⟩,[],true) (fun pre x post h=>by
     have hm:=Z59 h
     have hd:d.Sides.drop pre.length=x::post:=by rw [h];simp
     have hd':d.Sides.drop (pre++[x]).length=post:=by rw [h];simp
     have e1:((pre.length:Nat):Int)=(((pre.map Zge).length:Nat):Int):=by simp
     have el:(pre.map Zge++x::post).length=d.Sides.length:=by rw [h];simp
     have hx:(pre.map Zge++x::post)[pre.length]?=some x:=by simp
     dsimp only [Zxl]
     rw [hd,Zq5 hx,Zk5,Zo5 hx,Option.bind_some,Zfn _ pre.length _ (by dsimp only;omega) (by dsimp only;omega),Option.bind_some,hd',Zs5 (by omega),Z79]
     dsimp only
     have e2:=Z69 (pre.map Zge) post x (Zge x)
     rw [←e1,Int.toNat_natCast] at e2
     rw [show ({Peer:=x.Peer,Epoch:=x.Epoch,State:=x.State,Fork:=x.Fork,Dirty:=true,Token:=x.Token,Bottle:=x.Bottle,Ask:=x.Ask}:Side)=Zge x from rfl,e2,List.map_append,List.append_assoc]
     rfl) (by
     have el:(d.Sides.map Zge).length=d.Sides.length:=by simp
     dsimp only [Zxl]
     rw [List.drop_length,List.append_nil,←el,Zr5,Zl5]
     rfl)
    simpa using this
   have key:=Z29 d.Sides (Zzl d) (fun pre=>(pre.length:Int)) (fun _ post=>some (if post.all (·.Fork) then (⟨d.ID,2,d.Sides.map Zge⟩,[],true) else (d,[],false))) (fun pre x post h=>by
    have hx:=Z49 h
    have hm:=Z59 h
    dsimp only [Zzl]
    rw [Zq5 hx,Zk5,Zo5 hx,Option.bind_some,List.all_cons]
    cases hf:x.Fork with
    | true=>left;rw [Bool.not_true,Zl5,Zs5 (by omega),Z79];exact ⟨rfl,rfl⟩
    | false=>right;exact ⟨_,rfl,rfl⟩) (by
    dsimp only [Zzl]
    rw [Zr5,Zl5,e6];rfl)
   exact key
  ·rw [decide_eq_false p1];rfl
 have:=Zhn d.Sides (Z5m d) (fun x=>Zin d.Phase x||Zjn d.Phase x) (fun k x=>some (oneF d k x)) (some (oneE d)) (by omega) (fun k x hx=>by
  have hlt:=(List.getElem?_eq_some_iff.1 hx).1
  have j4:∀z,Z3m d k x z=if z then some (.inr (⟨d.ID,d.Phase,d.Sides.set k {x with Token:=false}⟩,[⟨d.ID,x.Peer,⟨2,x.Epoch,0⟩⟩],true)) else some (.inl ((k+1:Nat):Int)):=fun z=>by
   cases z with
   | true=>
     dsimp only [Z3m]
     rw [Zk5,Zfn d k _ (by omega) hlt,Option.bind_some,s_mail13];rfl
   | false=>dsimp only [Z3m];rw [Zl5,Zs5 (by omega)];rfl
  have j2:∀z,Z4m d k x z=if z then some (.inr (⟨d.ID,d.Phase,d.Sides.set k {x with Fork:=false,Dirty:=false}⟩,[⟨d.ID,x.Peer,⟨1,x.Epoch,0⟩⟩],true)) else Z3m d k x (Zjn d.Phase x):=fun z=>by
   cases z with
   | true=>
     dsimp only [Z4m]
     rw [Zk5,Zfn d k _ (by omega) hlt,Option.bind_some,s_mail13];rfl
   | false=>
     dsimp only [Z4m]
     unfold Zjn
     rw [Zl5]
     cases x.Fork<;>cases x.Token<;>rfl
  have e:Z5m d k=Z4m d k x (Zin d.Phase x):=by
   dsimp only [Z5m]
   rw [Zq5 hx,Zk5,Zo5 hx,Option.bind_some]
   unfold Zin
   cases x.Fork<;>cases x.Dirty<;>cases x.Token<;>rfl
  rw [e,j2,j4]
  unfold oneF
  cases Zin d.Phase x<;>cases Zjn d.Phase x<;>rfl) (fun _ _ _ _=>rfl) (by
  dsimp only [Z5m]
  rw [Zr5,Zl5,fin])
 unfold Z6m
 rw [this]
 cases d.Sides.findIdx? (fun x=>Zin d.Phase x||Zjn d.Phase x) with
 | none=>rfl
 | some i=>dsimp only;cases d.Sides[i]?<;>rfl
noncomputable def F13 (d:Diner) (out:List Mail):Option (Diner×List Mail):=(Z6m d).bind fun r=>loop Zam (r.2.1,r.2.2,d,r.1,out)
theorem F13_go {d d':Diner} {l out:List Mail} (h:Z6m d=some (d',l,true)) (hl:l.length≤10) (ho:out.length≤10000):F13 d out=F13 d' (out++l):=by
 unfold F13
 rw [h,Option.bind_some]
 dsimp only
 rw [Ze4]
 dsimp only [Zam]
 rw [Zk5,Zp5 _ _ (by omega) (by omega),Option.bind_some]
 cases Z6m d'<;>rfl
theorem F13_end {d d':Diner} {l out:List Mail} (h:Z6m d=some (d',l,false)):F13 d out=some (d,out):=by
 unfold F13
 rw [h,Option.bind_some]
 dsimp only
 rw [Ze4]
 dsimp only [Zam]
 rw [Zl5];rfl
theorem one_none {ph:Int} {l:List Side} (h:∀x∈l,(Zin ph x||Zjn ph x)=false):l.findIdx? (fun x=>Zin ph x||Zjn ph x)=none:=by
 rw [List.findIdx?_eq_none_iff];exact h
theorem one_at {ph:Int} {A B:List Side} {x:Side} (h:∀x∈A,(Zin ph x||Zjn ph x)=false) (hx:(Zin ph x||Zjn ph x)=true):(A++x::B).findIdx? (fun x=>Zin ph x||Zjn ph x)=some A.length:=by
 rw [List.findIdx?_append,one_none h,Zgn,hx];simp
theorem fire2_one {ph:Int} {x:Side} (h:Zin ph x=false):Zee ph x=(if Zjn ph x then {x with Token:=false} else x):=by
 have f1:Zde ph x=x:=by unfold Zde;unfold Zin at h;rw [h];rfl
 unfold Zee Zjn
 rw [f1]
 obtain ⟨p,e,st,f,d,t,bo,ak⟩:=x
 cases f<;>cases t<;>cases decide (ph=1)<;>rfl
theorem F13_all (id ph:Int):∀(B A:List Side) (out:List Mail),(∀x∈A,(Zin ph x||Zjn ph x)=false)→A.length+B.length≤63→out.length+2*B.length≤1000→
  F13 ⟨id,ph,A++B⟩ out=some (if decide (ph=1)&&(A++B.map (Zee ph)).all (·.Fork) then ⟨id,2,(A++B.map (Zee ph)).map Zge⟩ else ⟨id,ph,A++B.map (Zee ph)⟩,out++B.flatMap (Zfe id ph))
 | [],A,out,hA,hl,ho=>by
   have h1:=s_one ⟨id,ph,A++[]⟩ (by simp at hl ⊢;omega)
   simp only [List.append_nil,one_none hA,List.map_nil,List.flatMap_nil] at h1 ⊢
   unfold oneE at h1
   dsimp only at h1
   cases hq:decide (ph=1)&&A.all (·.Fork) with
   | false=>
     rw [hq,if_neg (by simp)] at h1
     rw [if_neg (by simp)]
     exact F13_end h1
   | true=>
     rw [hq,if_pos rfl] at h1
     rw [if_pos rfl,F13_go h1 (by simp) (by omega),List.append_nil]
     have h2:=s_one ⟨id,2,A.map Zge⟩ (by simp at hl ⊢;omega)
     rw [one_none (fun x _=>by unfold Zin Zjn;simp)] at h2
     exact F13_end h2
 | x::B,A,out,hA,hl,ho=>by
   have app:∀(y:Side),A++y::B=(A++[y])++B:=fun y=>by simp
   have ih:∀(y:Side) (out':List Mail),(Zin ph y||Zjn ph y)=false→out'.length≤out.length+2→F13 ⟨id,ph,A++y::B⟩ out'=some (if decide (ph=1)&&((A++[y])++B.map (Zee ph)).all (·.Fork) then ⟨id,2,((A++[y])++B.map (Zee ph)).map Zge⟩ else ⟨id,ph,(A++[y])++B.map (Zee ph)⟩,out'++B.flatMap (Zfe id ph)):=fun y out' hy ho'=>by
    rw [app y]
    exact F13_all id ph B (A++[y]) out' (fun z hz=>by
     rcases List.mem_append.1 hz with hz | hz
     ·exact hA z hz
     ·simp at hz;rw [hz];exact hy) (by simp at hl ⊢;omega) (by simp at ho ⊢;omega)
   have hx:∀y:Side,(A++y::B)[A.length]?=some y:=fun y=>by simp
   have st:∀y z:Side,(A++y::B).set A.length z=A++z::B:=fun y z=>by simp
   have fin:∀(y:Side) (out':List Mail),(Zin ph y||Zjn ph y)=false→out'.length≤out.length+2→y=Zee ph x→out'=out++Zfe id ph x→
    F13 ⟨id,ph,A++y::B⟩ out'=some (if decide (ph=1)&&(A++(x::B).map (Zee ph)).all (·.Fork) then ⟨id,2,(A++(x::B).map (Zee ph)).map Zge⟩ else ⟨id,ph,A++(x::B).map (Zee ph)⟩,out++(x::B).flatMap (Zfe id ph)):=fun y out' hy ho' e1 e2=>by
    rw [ih y out' hy ho',e1,e2]
    simp only [List.map_cons,List.flatMap_cons,List.append_assoc,List.singleton_append]
   have tok:∀(y:Side) (out':List Mail),Zin ph y=false→out'.length≤out.length+1→Zee ph x=(if Zjn ph y then {y with Token:=false} else y)→out++Zfe id ph x=out'++(if Zjn ph y then [⟨id,y.Peer,⟨2,y.Epoch,0⟩⟩] else [])→
    F13 ⟨id,ph,A++y::B⟩ out'=some (if decide (ph=1)&&(A++(x::B).map (Zee ph)).all (·.Fork) then ⟨id,2,(A++(x::B).map (Zee ph)).map Zge⟩ else ⟨id,ph,A++(x::B).map (Zee ph)⟩,out++(x::B).flatMap (Zfe id ph)):=fun y out' h1 ho' e1 e2=>by
    cases h2:Zjn ph y with
    | false=>
      rw [h2] at e1 e2
      exact fin y out' (by rw [h1,h2];rfl) (by omega) e1.symm (by rw [e2];simp)
    | true=>
      rw [h2,if_pos rfl] at e1 e2
      have h3:=s_one ⟨id,ph,A++y::B⟩ (by simp at hl ⊢;omega)
      dsimp only at h3
      rw [one_at hA (by rw [h1,h2];rfl)] at h3
      dsimp only at h3
      rw [hx y] at h3
      unfold oneF at h3
      dsimp only at h3
      rw [h1,if_neg (by simp),st] at h3
      rw [F13_go h3 (by simp) (by simp at ho;omega)]
      refine fin _ _ ?_ (by simp;omega) e1.symm e2.symm
      unfold Zin Zjn
      simp
   cases h1:Zin ph x with
   | false=>
     refine tok x out h1 (by omega) ?_ ?_
     ·exact fire2_one h1
     ·have f1:Zde ph x=x:=by unfold Zde;unfold Zin at h1;rw [h1];rfl
      unfold Zfe Zjn
      unfold Zin at h1
      rw [f1,h1]
      cases x.Fork<;>cases x.Token<;>cases decide (ph=1)<;>rfl
   | true=>
     have h3:=s_one ⟨id,ph,A++x::B⟩ (by simp at hl ⊢;omega)
     dsimp only at h3
     rw [one_at hA (by rw [h1];rfl)] at h3
     dsimp only at h3
     rw [hx x] at h3
     unfold oneF at h3
     dsimp only at h3
     rw [h1,if_pos rfl,st] at h3
     rw [F13_go h3 (by simp) (by simp at ho;omega)]
     refine tok _ _ (by unfold Zin;simp) (by simp) ?_ ?_
     ·have f1:Zde ph x={x with Fork:=false,Dirty:=false}:=by unfold Zde;unfold Zin at h1;rw [h1];rfl
      unfold Zee Zjn
      rw [f1]
      cases x.Token<;>cases decide (ph=1)<;>rfl
     ·have f1:Zde ph x={x with Fork:=false,Dirty:=false}:=by unfold Zde;unfold Zin at h1;rw [h1];rfl
      unfold Zfe Zjn
      unfold Zin at h1
      rw [f1,h1]
      cases x.Token<;>cases decide (ph=1)<;>simp
theorem s_r13Fire (d:Diner) (hl:d.Sides.length≤63):Zbm d=some (Zhe d,Zie d):=by
 have e:Zbm d=F13 d []:=rfl
 have:=F13_all d.ID d.Phase d.Sides [] [] (by simp) (by simpa using hl) (by simp;omega)
 rw [e]
 simp only [List.nil_append] at this
 exact this
theorem s_Node (s:Scene) (a:Int):Z3l s a=some (Z8h s a):=by
 simp only [Z3l,Z2l,Z8h,Z65]
 cases decide (0≤a)<;>rfl
theorem Zkn (s:Scene) (hD:Zd9 s.Diners) (hM:s.Mail.length≤900000):Zdl s=some (okS s):=by
 have h5:=hD.1
 have k2:∀ok,loop (Z9l s) (ok,0)=some (ok&&s.Mail.all (Z7h s.Diners.length)):=fun ok=>by
  have:=Z29 s.Mail (Z9l s) (fun pre=>(ok&&pre.all (Z7h s.Diners.length),(pre.length:Int))) (fun _ _=>some (ok&&s.Mail.all (Z7h s.Diners.length))) (fun pre m post h=>.inl ⟨by
   have hx:=Z49 h
   have hm:=Z59 h
   dsimp only [Z9l]
   rw [Zq5 hx,Zk5,Zo5 hx,Option.bind_some,List.all_append,Z79]
   have j4:∀z,Z8l (pre.length:Int) z=some (.inl (z,((pre.length+1:Nat):Int))):=fun z=>by
    dsimp only [Z8l];rw [Zs5 (by omega)]
   cases h1:(ok&&pre.all (Z7h s.Diners.length)) with
   | false=>rw [Zl5,j4,←Bool.and_assoc,h1];rfl
   | true=>
     rw [Zk5,s_Node,Option.bind_some,←Bool.and_assoc,h1,List.all_cons,List.all_nil]
     have e:Z7h s.Diners.length m=(Z8h s m.From&&(Z8h s m.To&&!decide (m.From=m.To))):=by
      rw [Bool.eq_iff_iff]
      unfold Z7h Z8h
      simp only [Bool.not_eq_true',Bool.or_eq_false_iff,Bool.and_eq_true,decide_eq_true_eq,decide_eq_false_iff_not]
      omega
     rw [e]
     cases Z8h s m.From with
     | false=>rw [Zl5,j4];rfl
     | true=>
       rw [Zk5,s_Node,Option.bind_some]
       cases Z8h s m.To with
       | false=>rw [Zl5,j4];rfl
       | true=>rw [Zk5,j4];cases decide (m.From=m.To)<;>rfl,rfl⟩) (by
   dsimp only [Z9l]
   rw [Zr5,Zl5];rfl)
  rw [List.all_nil,Bool.and_true] at this
  exact this
 simp only [Zdl,s_r12Graph _ hD,Option.bind_some]
 have:=Z29 s.Diners (Zcl s) (fun pre=>((Zw9 s.Diners).2&&pre.all okD,(pre.length:Int))) (fun _ _=>some (okS s)) (fun pre d post h=>.inl ⟨by
  have hx:=Z49 h
  have hm:=Z59 h
  have j2:∀z,Zbl (pre.length:Int) z=some (.inl (z,((pre.length+1:Nat):Int))):=fun z=>by
   dsimp only [Zbl];rw [Zs5 (by omega)]
  dsimp only [Zcl]
  rw [Zq5 hx,Zk5,List.all_append,Z79]
  cases h1:((Zw9 s.Diners).2&&pre.all okD) with
  | false=>rw [Zl5,j2,←Bool.and_assoc,h1];rfl
  | true=>rw [Zk5,Zo5 hx,Option.bind_some,Zen,Option.bind_some,j2,←Bool.and_assoc,h1];simp,rfl⟩) (by
  dsimp only [Zcl]
  rw [Zr5,Zl5]
  dsimp only [Zal]
  rw [k2]
  unfold okS
  rw [Bool.and_assoc])
 rw [List.all_nil,Bool.and_true] at this
 exact this
theorem Zln (id:Int) {x y:Side} (hp:y.Peer=x.Peer) (hs:∀q,sideD id q x=true→sideD id q y=true):∀(l:List Side) (q:Int) (i:Nat),l[i]?=some x→Z5e id q l=true→Z5e id q (l.set i y)=true
 | z::l,q,0,h,hk=>by
   have e:z=x:=by simpa using h
   subst e
   rw [List.set_cons_zero]
   simp only [Z5e,Bool.and_eq_true] at hk ⊢
   exact ⟨hs q hk.1,by rw [hp];exact hk.2⟩
 | z::l,q,i+1,h,hk=>by
   rw [List.set_cons_succ]
   simp only [Z5e,Bool.and_eq_true] at hk ⊢
   exact ⟨hk.1,Zln id hp hs l z.Peer i (by simpa using h) hk.2⟩
theorem getD_ok {d:Diner} {p:Int} {m:Msg} (h:okD d=true) (h0:(getD' d p m).2=0):okD (getD' d p m).1=true:=by
 unfold getD' at h0 ⊢
 rw [h,if_pos rfl] at h0 ⊢
 split at h0
 ·simp at h0
 ·rename_i i hi
  split at h0
  ·simp at h0
  ·rename_i x hx
   have key:∀y:Side,y.Peer=x.Peer→(∀q,sideD d.ID q x=true→sideD d.ID q y=true)→okD ⟨d.ID,d.Phase,d.Sides.set i y⟩=true:=fun y hp hs=>by
    simp only [okD,Bool.and_eq_true,decide_eq_true_eq] at h ⊢
    obtain ⟨h1,h2,h3,h4,h5⟩:=h
    exact ⟨h1,h2,h3,by simpa using h4,Zln d.ID hp hs d.Sides _ i hx h5⟩
   have k1:=key {x with Fork:=true} rfl (fun q hq=>by
    unfold sideD at hq ⊢
    simp only [Bool.and_eq_true,Bool.not_eq_true',Bool.and_eq_false_iff] at hq ⊢
    simp_all)
   have k2:=key {x with Token:=true} rfl (fun q hq=>hq)
   split at h0
   ·rename_i q1
    rw [if_pos q1]
    split at h0
    ·simp at h0
    ·rename_i q2;rw [if_neg q2];exact k1
   ·rename_i q1
    rw [if_neg q1]
    split at h0
    ·rename_i q2
     rw [if_pos q2]
     split at h0
     ·simp at h0
     ·rename_i q3;rw [if_neg q3];exact k2
    ·simp at h0
theorem s_Step2 (s:Scene) (hD:Zd9 s.Diners) (hM:s.Mail.length≤20000) (hg:(Zw9 s.Diners).2=true) {w:Int} (hw:Z8h s w=true) (d:Diner) (hd:okD d=true) (M:List Mail) (hMl:M.length≤s.Mail.length):
  Zim s (w,d,M)=some (actS ⟨s.Diners,M⟩ w d,0):=by
 obtain ⟨w0,w1⟩:=Zoi.1 hw
 have hl:=Zae hd
 have hms:=Zje d.Sides d.ID d.Phase
 have h5:=hD.1
 dsimp only [Zim]
 rw [s_r13Fire d (by omega),Option.bind_some]
 dsimp only
 rw [Zp5 _ _ (by omega) (by unfold Zie;omega),Option.bind_some]
 have hL:=Zni (l:=s.Diners) (fun k x hx=>ids hg hx) w.toNat (Zhe d)
 rw [Int.toNat_of_nonneg w0] at hL
 have eL:actS ⟨s.Diners,M⟩ w d=⟨s.Diners.set w.toNat (Zhe d),M++Zie d⟩:=by unfold actS;rw [hL]
 rw [eL]
 have:=Z39 s.Diners (Zhm s w (Zhe d,Zie d) (M++Zie d)) (fun pre=>((pre.length:Int),(s.Diners.set w.toNat (Zhe d)).take pre.length)) (⟨s.Diners.set w.toNat (Zhe d),M++Zie d⟩,0) (fun pre x post h=>by
  have hx:=Z49 h
  have hm:=Z59 h
  have snoc:(s.Diners.set w.toNat (Zhe d)).take (pre.length+1)=(s.Diners.set w.toNat (Zhe d)).take pre.length++[if (pre.length:Int)=w then Zhe d else x]:=by
   rw [List.take_add_one,List.getElem?_set]
   by_cases hq:(pre.length:Int)=w
   ·rw [if_pos (by omega),if_pos (by omega),if_pos hq];rfl
   ·rw [if_neg (by omega),hx,if_neg hq];rfl
  have lt:((s.Diners.set w.toNat (Zhe d)).take pre.length).length≤5000:=by rw [List.length_take,List.length_set];omega
  have j8:∀z,Zgm (pre.length:Int) z=some (.inl (((pre.length+1:Nat):Int),z)):=fun z=>by
   dsimp only [Zgm];rw [Zs5 (by omega)]
  dsimp only [Zhm]
  rw [Zq5 hx,Zk5,Z79,snoc]
  by_cases hq:(pre.length:Int)=w
  ·rw [decide_eq_true hq,Zk5,Zp5 _ _ (by omega) (by simp only [List.length_singleton];omega),Option.bind_some,j8,if_pos hq]
  ·rw [decide_eq_false hq,Zl5,Zo5 hx,Option.bind_some,Zp5 _ _ (by omega) (by simp only [List.length_singleton];omega),Option.bind_some,j8,if_neg hq]) (by
  dsimp only [Zhm]
  rw [Zr5,Zl5]
  dsimp only [Zfm]
  rw [List.take_of_length_le (by simp)];rfl)
 exact this
theorem turn_step (s:Scene) (a p q:Int) (hk:okS s=true) (ht:Z8h s a=true) (d:Diner) (hd:at_ s.Diners a=some d) (hd':s.Diners[a.toNat]?=some d) (h0:0≤q) (h1:q≤2):
  okD ⟨d.ID,q,d.Sides⟩=true∧(Z9h s a fun d=>Zce d p q)=if d.Phase=p then (actS s a ⟨d.ID,q,d.Sides⟩,0) else (Z6h,134):=by
 have hok:okD d=true:=by
  simp only [okS,Bool.and_eq_true,List.all_eq_true] at hk
  exact hk.2.1 d (List.mem_iff_getElem?.2 ⟨_,hd'⟩)
 have hok2:okD ⟨d.ID,q,d.Sides⟩=true:=by
  simp only [okD,Bool.and_eq_true,decide_eq_true_eq] at hok ⊢
  exact ⟨hok.1,h0,h1,hok.2.2.2.1,hok.2.2.2.2⟩
 refine ⟨hok2,?_⟩
 have e:Zce d p q=if d.Phase=p then (⟨d.ID,q,d.Sides⟩,0) else (Zbe,134):=by unfold Zce;rw [hok,if_pos rfl]
 unfold Z9h
 rw [hk,if_pos rfl,ht,if_pos rfl,hd]
 dsimp only
 rw [e]
 unfold actP
 by_cases hp:d.Phase=p
 ·rw [if_pos hp,if_pos hp,if_pos rfl,if_pos hok2]
 ·rw [if_neg hp,if_neg hp,if_neg (show ¬(134:Int)=0 by omega)]
theorem s_Step (s:Scene) (k a b:Int) (hk:k=0∨k=1∨k=2) (hD:Zd9 s.Diners) (hM:s.Mail.length≤20000):Zpm s k a b=some (Zeh s k a b):=by
 have z0:(⟨[],[]⟩:Scene)=Z6h:=rfl
 simp only [Zpm,Zkn s hD (by omega),Option.bind_some]
 cases hok:okS s with
 | false=>
   rw [Bool.not_false,Zk5,z0]
   unfold Zeh Z9h Zch
   rw [hok]
   rcases hk with rfl | rfl | rfl<;>rfl
 | true=>
   have hgp:(Zw9 s.Diners).2=true:=by simp only [okS,Bool.and_eq_true] at hok;exact hok.1
   rw [Bool.not_true,Zl5,s_Node,Option.bind_some]
   have none140:Zom s k a b true=some (Z6h,140):=rfl
   cases hta:Z8h s a with
   | false=>
     rw [Bool.not_false,Zk5,none140]
     unfold Zeh Z9h Zch
     rw [hok,hta]
     rcases hk with rfl | rfl | rfl<;>rfl
   | true=>
     rw [Bool.not_true,Zl5]
     obtain ⟨d,hd,hd'⟩:=Zah hta
     have hcp:Za4 40 ([]:List Mail) s.Mail=some s.Mail:=by rw [Zp5 _ _ (by omega) (by simp only [List.length_nil];omega)];rfl
     by_cases hk2:k=2
     ·subst hk2
      rw [show decide ((2:Int)=2)=true from rfl,Zk5,s_Node,Option.bind_some]
      have eA:Zeh s 2 a b=Zch s a b:=rfl
      rw [eA]
      cases htb:Z8h s b with
      | false=>
        rw [Bool.not_false,none140]
        unfold Zch
        rw [hok,hta,htb];rfl
      | true=>
        obtain ⟨e,he,he'⟩:=Zah htb
        have hoke:okD e=true:=by
         simp only [okS,Bool.and_eq_true,List.all_eq_true] at hok
         exact hok.2.1 e (List.mem_iff_getElem?.2 ⟨_,he'⟩)
        rw [Bool.not_true]
        dsimp only [Zom]
        rw [Zl5,hd,Option.bind_some,hcp,Option.bind_some,show decide ((2:Int)=2)=true from rfl,Zk5]
        have:=Zhn s.Mail (Zmm s a b s.Mail) (fun m=>decide (m.From=a)&&decide (m.To=b)) (fun i m=>Zkm s a b s.Mail i) (some (Z6h,141)) (by omega) (fun i m hm=>by
         have hlt:=(List.getElem?_eq_some_iff.1 hm).1
         dsimp only [Zmm]
         rw [Zq5 hm,Zk5,Zo5 hm,Option.bind_some]
         have j4:Zlm s a b s.Mail i true=some (.inl ((i+1:Nat):Int)):=by
          dsimp only [Zlm];rw [Zk5,Zs5 (by omega)]
         by_cases q1:m.From=a
         ·rw [decide_eq_true q1,Bool.not_true,Zl5,Bool.true_and]
          by_cases q2:m.To=b
          ·rw [decide_eq_true q2,Bool.not_true,if_pos rfl];rfl
          ·rw [decide_eq_false q2,Bool.not_false,j4,if_neg (by simp)]
         ·rw [decide_eq_false q1,Bool.not_false,Zk5,j4,Bool.false_and,if_neg (by simp)]) (fun i m hm hq=>by
         have hlt:=(List.getElem?_eq_some_iff.1 hm).1
         dsimp only [Zkm]
         rw [Z65,decide_eq_false (by omega),Zl5,he,Option.bind_some,Zo5 hm,Option.bind_some,s_r13Get,Option.bind_some]
         dsimp only [Zjm]
         by_cases h0:(getD' e a m.Msg).2=0
         ·have e1:sub_ s.Mail 0 (i:Int)=some (s.Mail.take i):=by
           unfold sub_
           rw [if_pos ⟨by omega,by omega,by omega⟩];simp
          have e2:sub_ s.Mail (wr ((i:Int)+1)) (ln Mail.row s.Mail)=some (s.Mail.drop (i+1)):=by
           rw [Zs5 (by omega),Z65]
           unfold sub_
           rw [if_pos ⟨by omega,by omega,by omega⟩];simp
          rw [decide_eq_true h0,Bool.not_true,Zl5,e1,Option.bind_some,e2,Option.bind_some,Zp5 _ _ (by omega) (by simp;omega),Option.bind_some,Zp5 _ _ (by omega) (by simp;omega),Option.bind_some,List.nil_append,s_Step2 s hD hM hgp htb _ (getD_ok hoke h0) _ (by simp;omega)]
          rfl
         ·rw [decide_eq_false h0];rfl) (by
         dsimp only [Zmm,Zlm]
         rw [Zr5,Zl5,Zl5]
         dsimp only [Zkm]
         rw [Z65,decide_eq_true rfl,Zk5];rfl)
        rw [this]
        unfold Zch
        rw [hok,hta,htb,if_pos rfl,Bool.and_self,if_pos rfl,he]
        have hfi:=Zf9 (fun m:Mail=>decide (m.From=a)&&decide (m.To=b)) s.Mail
        unfold Zbh
        cases hf:s.Mail.findIdx? (fun m=>decide (m.From=a)&&decide (m.To=b)) with
        | none=>rfl
        | some i=>
          rw [hf] at hfi
          obtain ⟨m,hm,_⟩:=hfi
          have hlt:=(List.getElem?_eq_some_iff.1 hm).1
          dsimp only
          rw [hm]
          dsimp only
          dsimp only [Zkm]
          rw [Z65,decide_eq_false (by omega),Zl5,he,Option.bind_some,Zo5 hm,Option.bind_some,s_r13Get,Option.bind_some]
          dsimp only [Zjm]
          unfold actP
          by_cases h0:(getD' e a m.Msg).2=0
          ·have e1:sub_ s.Mail 0 (i:Int)=some (s.Mail.take i):=by
            unfold sub_
            rw [if_pos ⟨by omega,by omega,by omega⟩];simp
           have e2:sub_ s.Mail (wr ((i:Int)+1)) (ln Mail.row s.Mail)=some (s.Mail.drop (i+1)):=by
            rw [Zs5 (by omega),Z65]
            unfold sub_
            rw [if_pos ⟨by omega,by omega,by omega⟩];simp
           rw [decide_eq_true h0,Bool.not_true,Zl5,e1,Option.bind_some,e2,Option.bind_some,Zp5 _ _ (by omega) (by simp;omega),Option.bind_some,Zp5 _ _ (by omega) (by simp;omega),Option.bind_some,List.nil_append,s_Step2 s hD hM hgp htb _ (getD_ok hoke h0) _ (by simp;omega),if_pos h0,if_pos (getD_ok hoke h0)]
          ·rw [decide_eq_false h0,Bool.not_false,Zk5,if_neg h0];rfl
     ·rw [decide_eq_false hk2,Zl5]
      dsimp only [Zom]
      rw [Zl5,hd,Option.bind_some,hcp,Option.bind_some,decide_eq_false hk2,Zl5]
      have main:∀p q:Int,0≤q→q≤2→Znm s a d s.Mail (p,q)=some (Z9h s a fun d=>Zce d p q):=fun p q q0 q2=>by
       obtain ⟨t1,t2⟩:=turn_step s a p q hok hta d hd hd' q0 q2
       rw [t2]
       dsimp only [Znm]
       by_cases hp:d.Phase=p
       ·rw [decide_eq_true hp,Bool.not_true,Zl5,s_Step2 s hD hM hgp hta _ t1 _ (Nat.le_refl _),if_pos hp]
       ·rw [decide_eq_false hp,Bool.not_false,Zk5,if_neg hp];rfl
      rcases hk with rfl | rfl | rfl
      ·rw [show decide ((0:Int)=1)=false from rfl,Zl5,main 0 1 (by omega) (by omega)];rfl
      ·rw [show decide ((1:Int)=1)=true from rfl,Zk5,main 2 0 (by omega) (by omega)];rfl
      ·exact absurd rfl hk2
theorem s_r14Phases (s:Scene) (p:Int) (hD:Zd9 s.Diners):Zbn s p=some (Z0k s.Diners p):=by
 unfold Zbn
 refine Z39 s.Diners (Zan s p) (fun pre=>((pre.length:Int),Z0k pre p)) _ (fun pre d post h=>?_) ?_
 ·have hx:=Z49 h
  have hm:=Z59 h
  have:=hD.1
  have hl:(Z0k pre p).length≤pre.length:=by unfold Z0k;rw [List.length_map];exact List.length_filter_le _ _
  have e:Z0k (pre++[d]) p=if d.Phase=p then Z0k pre p++[d.ID] else Z0k pre p:=by
   unfold Z0k
   by_cases hp:d.Phase=p<;>simp [hp]
  dsimp only [Zan]
  rw [Zq5 hx,Zk5,Zo5 hx,Option.bind_some,e,Z79]
  by_cases hp:d.Phase=p
  ·rw [decide_eq_true hp,Zk5,Option.bind_some,Zp5 _ _ (by omega) (by simp only [List.length_singleton];omega),Option.bind_some,if_pos hp]
   dsimp only [Z9n];rw [Zs5 (by omega)]
  ·rw [decide_eq_false hp,Zl5,if_neg hp]
   dsimp only [Z9n];rw [Zs5 (by omega)]
 ·dsimp only [Zan]
  rw [Zr5,Zl5];rfl
theorem mailB_iff (e:Edge) (k ep:Int) (m:Mail):mailB e k ep m=(((decide (m.From=e.A)&&decide (m.To=e.B))||(decide (m.From=e.B)&&decide (m.To=e.A)))&&(decide (m.Msg.Kind=k)&&decide (m.Msg.Epoch=ep))):=by
 rw [Bool.eq_iff_iff]
 unfold mailB
 simp only [Bool.and_eq_true,Bool.or_eq_true,decide_eq_true_eq]
 omega
theorem s_r14Count (s:Scene) (e:Edge) (k:Int) (hD:Zd9 s.Diners) (hM:s.Mail.length≤900000):Z5n s e k=some (countS s e k:Int):=by
 simp only [Z5n,s_Node,Option.bind_some]
 unfold countS
 have zero:Z4n s e k true=some 0:=rfl
 cases ha:Z8h s e.A with
 | false=>rfl
 | true=>
   cases hb:Z8h s e.B with
   | false=>rfl
   | true=>
     obtain ⟨da,a1,a2⟩:=Zah ha
     obtain ⟨db,b1,b2⟩:=Zah hb
     have la:=hD.2 da (List.mem_iff_getElem?.2 ⟨_,a2⟩)
     have lb:=hD.2 db (List.mem_iff_getElem?.2 ⟨_,b2⟩)
     simp only [Bool.not_true,Zl5,a2,b2,Bool.and_self,if_true]
     have j1:Z4n s e k false=Z2n s e k (sideP (Ze9 da e.B)).2 (sideP (Ze9 da e.B)).1 ((sideP (Ze9 db e.A)).2,(sideP (Ze9 db e.A)).1):=by
      dsimp only [Z4n,Z3n]
      rw [Zl5,a1,Option.bind_some,s_r12Side da e.B (by omega),Option.bind_some,b1,Option.bind_some,s_r12Side db e.A (by omega),Option.bind_some]
     have rest:(k=1∨k=2)→Z4n s e k false=some ((match Ze9 da e.B,Ze9 db e.A with
      | some x,some y=>if decide (x.Epoch=y.Epoch)&&(decide (k=1)||decide (k=2)) then bn (has x k)+bn (has y k)+Zyj s.Mail e k x.Epoch else 0
      | _,_=>0:Nat):Int):=fun hk=>by
      rw [j1]
      cases hx:Ze9 da e.B with
      | none=>rfl
      | some x=>
        cases hy:Ze9 db e.A with
        | none=>rfl
        | some y=>
          dsimp only [sideP,Z2n]
          rw [Bool.not_true,Zl5,Zl5]
          by_cases he:x.Epoch=y.Epoch
          ·rw [decide_eq_true he,Bool.not_true]
           have hk':(decide (k=1)||decide (k=2))=true:=by simpa using hk
           rw [hk',Bool.and_self,if_pos rfl]
           have j8:∀n:Nat,n≤2→Zxm s e k x (n:Int)=some ((n+Zyj s.Mail e k x.Epoch:Nat):Int):=fun n hn=>by
            dsimp only [Zxm]
            refine Z39 s.Mail (Zwm s e k x) (fun pre=>(((n+Zyj pre e k x.Epoch:Nat):Int),(pre.length:Int))) ((n+Zyj s.Mail e k x.Epoch:Nat):Int) (fun pre m post h=>?_) ?_
            ·have hx:=Z49 h
             have hm:=Z59 h
             have hc:=countM_le pre e k x.Epoch
             dsimp only [Zwm]
             rw [Zq5 hx,Zk5,Zo5 hx,Option.bind_some,Zzj,Z79,mailB_iff]
             have step:∀z,Zum ((n+Zyj pre e k x.Epoch:Nat):Int) (pre.length:Int) z=some (.inl (((n+(Zyj pre e k x.Epoch+bn z):Nat):Int),((pre.length+1:Nat):Int))):=fun z=>by
              cases z with
              | true=>dsimp only [Zum,Ztm];rw [Zk5,Zs5 (by omega),Zs5 (by omega)];rfl
              | false=>dsimp only [Zum,Ztm];rw [Zl5,Zs5 (by omega)];rfl
             have j10:∀z,Zvm k x ((n+Zyj pre e k x.Epoch:Nat):Int) (pre.length:Int) m z=some (.inl (((n+(Zyj pre e k x.Epoch+bn (z&&(decide (m.Msg.Kind=k)&&decide (m.Msg.Epoch=x.Epoch)))):Nat):Int),((pre.length+1:Nat):Int))):=fun z=>by
              dsimp only [Zvm]
              cases z with
              | false=>rw [Zl5,step,Bool.false_and]
              | true=>
                rw [Zk5,Bool.true_and]
                cases decide (m.Msg.Kind=k) with
                | false=>rw [Zl5,step,Bool.false_and]
                | true=>rw [Zk5,step,Bool.true_and]
             simp only [j10]
             cases decide (m.From=e.A)<;>cases decide (m.To=e.B)<;>cases decide (m.From=e.B)<;>rfl
            ·dsimp only [Zwm]
             rw [Zr5,Zl5];rfl
           have w1:wr (0+1)=((1:Nat):Int):=Zn5 (by omega) (by omega)
           have w2:wr (((1:Nat):Int)+1)=((2:Nat):Int):=Zs5 (by omega)
           have w3:wr (((0:Nat):Int)+1)=((1:Nat):Int):=Zs5 (by omega)
           have j7:∀(n:Nat) z,n≤1→Zym s e k x (n:Int) z=some ((n+bn z+Zyj s.Mail e k x.Epoch:Nat):Int):=fun n z hn=>by
            dsimp only [Zym]
            cases z with
            | true=>rw [Zk5,Zs5 (by omega),j8 (n+1) (by omega)];rfl
            | false=>rw [Zl5,j8 n (by omega)];rfl
           have j6:∀n:Nat,n≤1→Zzm s e k x y (n:Int)=some ((n+bn (has y k)+Zyj s.Mail e k x.Epoch:Nat):Int):=fun n hn=>by
            dsimp only [Zzm]
            simp only [j7 n _ hn]
            rcases hk with rfl | rfl
            ·simp only [has,if_true];cases y.Fork<;>rfl
            ·simp only [has];rfl
           have j5:∀z,Z0n s e k x y z=some ((bn z+bn (has y k)+Zyj s.Mail e k x.Epoch:Nat):Int):=fun z=>by
            dsimp only [Z0n]
            cases z with
            | true=>rw [Zk5,w1,j6 1 (by omega)];rfl
            | false=>rw [Zl5];exact j6 0 (by omega)
           dsimp only [Z1n]
           simp only [j5,Zl5]
           rcases hk with rfl | rfl
           ·simp only [has,if_true];cases x.Fork<;>rfl
           ·simp only [has];rfl
          ·rw [decide_eq_false he,Bool.false_and,if_neg (by simp)];rfl
     by_cases k1:k=1
     ·rw [decide_eq_true k1,Bool.not_true,Zl5]
      have:=rest (.inl k1)
      rw [decide_eq_true k1] at this
      exact this
     ·rw [decide_eq_false k1,Bool.not_false,Zk5]
      by_cases k2:k=2
      ·rw [decide_eq_true k2,Bool.not_true]
       have:=rest (.inr k2)
       rw [decide_eq_false k1,decide_eq_true k2] at this
       exact this
      ·rw [decide_eq_false k2,Bool.not_false,zero]
       cases Ze9 da e.B with
       | none=>rfl
       | some x=>
         cases Ze9 db e.A with
         | none=>rfl
         | some y=>simp
set_option maxRecDepth 100000
set_option maxHeartbeats 4000000
def Zmn:EC:=.seq (.seq (.reg [(Qa 11 (.mv (.t 5))),(Qa 12 (.mv (.t 0))),(Qa 13 (.len (.t 12))),(Qa 14 (.bin .lss (.t 11) (.t 13)))]) (.ite (.t 14) (.skip) (.exit 0))) (.seq (.blk 1 (.seq (.drw [(Qa 17 (.mv (.t 0))),(Qa 18 (.mv (.t 5))),(Qa 19 (.idx 1 (.t 17) (.t 18))),(Qa 20 (.load (.t 19))),(Qa 21 (.mv (.t 1))),(Qa 22 (.mv (.t 5))),(Qa 23 (.idx 1 (.t 21) (.t 22))),(Qa 24 (.load (.t 23))),(Qa 25 (.bin .neq (.t 20) (.t 24)))] [[],[],[0,1],[2],[],[],[4,5],[6],[3,7]] [[2],[2],[0,1,3],[2,8],[6],[6],[4,5,7],[6,8],[3,7]]) (.ite (.t 25) (.seq (.reg [(Qa 4 (.mv (.c .ff)))]) (.ret)) (.skip)))) (.reg [(Qa 15 (.mv (.t 5))),(Qa 16 (.bin .add (.t 15) (.c (.iv 1)))),(Qa 5 (.mv (.t 16)))]))
def e16:EC:=.seq (.reg [(Qa 4 (.mv (.c .ff)))]) (.seq (.seq (.reg [(Qa 6 (.mv (.t 0))),(Qa 7 (.len (.t 6))),(Qa 8 (.mv (.t 1))),(Qa 9 (.len (.t 8))),(Qa 10 (.bin .neq (.t 7) (.t 9)))]) (.ite (.t 10) (.seq (.reg [(Qa 4 (.mv (.c .ff)))]) (.ret)) (.skip))) (.seq (.seq (.reg [(Qa 5 (.mv (.c (.iv 0))))]) (.blk 0 (.loop Zmn))) (.seq (.reg [(Qa 4 (.mv (.c .tt)))]) (.ret))))
theorem ok16:FnOK Tryz.prog 16 Tryz.f16 e16 [.t 4] 2 24:=⟨by kernel_rfl,⟨_,rfl,by kernel_rfl⟩,by kernel_rfl,by kernel_rfl⟩
noncomputable def Znn:Unit→Option Bool
| ()=>
 some true
noncomputable def Zon (x1:(List Int)) (x2:(List Int)):Int→Option (Int ⊕ Bool)
| x6=>
 ifb (decide (x6<(ln Z45 x1))) (
 (at_ x1 x6).bind fun x7=>
 (at_ x2 x6).bind fun x8=>
 ifb (!decide (x7=x8)) (
 Option.map Sum.inr (some false)) (
 some (.inl (wr (x6+1))))) (
 Option.map Sum.inr (Znn ()))
noncomputable def Zpn (x1:(List Int)) (x2:(List Int)):Option Bool:=
 ifb (!decide ((ln Z45 x1)=(ln Z45 x2))) (
 some false) (
 loop (Zon x1 x2) 0)
theorem Zqn (x1:(List Int)) (x2:(List Int)) (r:Bool) (h:Zpn x1 x2=some r):Zq2 Tryz.prog 16 [.sl 1 (List.map Z45 x1),.sl 1 (List.map Z45 x2)] (.bv r):=by
 refine Zu2 ok16 rfl rfl fun w0 H0=>?_
 rw [Zpn] at h
 refine Zl2 13 ?_;dsimp only [e16,Zmn,go_sem];refine ⟨by simp,?_⟩;refine Zn4 h rfl (fun _ h=>?_) fun _ h=>?_
 ·refine Zl2 4 ?_;dsimp only [e16,Zmn,go_sem];refine ⟨by simp,?_⟩;exact Zx4 (res:=fun (r:Bool)=>.bv r) ok16 h
 ·refine Zl2 6 ?_;dsimp only [e16,Zmn,go_sem];refine ⟨by simp,?_⟩;refine Zl4 (fun (_:Unit)=>(⟨(an 26 []),[],[]⟩:St)) Znn r ?_ fun J1=>?_
  ·rintro ⟨⟩ h;rw [Znn] at h;(try dsimp only);refine Zl2 4 ?_;dsimp only [e16,Zmn,go_sem];refine ⟨by simp,?_⟩;exact Zx4 (res:=fun (r:Bool)=>.bv r) ok16 h
  ·refine Zl2 1 ?_;dsimp only [e16,Zmn,go_sem];refine ⟨by simp,?_⟩;refine Zm4 h (fun (x6:Int)=>(⟨(.sl 1 (List.map Z45 x1) :: .sl 1 (List.map Z45 x2)::an 3 (.iv x6::an 20 [])),[],[]⟩:St)) (by simp [go_sem]) (by intro x6;first | rfl | simp [go_sem]) ?_;rintro n1 x6 y1 h hin1 hout1;rw [Zon] at h;(try dsimp only);refine Zl2 8 ?_;dsimp only [e16,Zmn,go_sem];refine ⟨by simp,?_⟩;refine Zn4 h rfl (fun _ h=>?_) fun _ h=>?_
   ·refine Zl2 4 ?_;dsimp only [e16,Zmn,go_sem];refine ⟨by simp,?_⟩;refine Zh3 (by kernel_rfl) fun all hall hs hnap haf=>?_;dsimp only [go_sem];refine Zh5 hall hs haf hnap 4 5 ?_;dsimp only [go_sem];refine ⟨by simp,?_⟩;obtain ⟨x7,ex7,h⟩:=Option.bind_eq_some_iff.1 h;refine Zr4 hall hs haf hnap 2 Z45 ex7 rfl rfl trivial rfl rfl rfl rfl ?_;refine Zh5 hall hs haf hnap 1 3 ?_;dsimp only [go_sem];refine ⟨by simp,?_⟩;obtain ⟨x8,ex8,h⟩:=Option.bind_eq_some_iff.1 h;refine Zr4 hall hs haf hnap 6 Z45 ex8 rfl rfl trivial rfl rfl rfl rfl ?_
    refine Zh5 hall hs haf hnap 2 0 ?_;dsimp only [go_sem];refine ⟨by simp,?_⟩;refine Zs3 rfl ?_ _;refine Zn4 h rfl (fun _ h=>?_) fun _ h=>?_
    ·refine Zl2 4 ?_;dsimp only [e16,Zmn,go_sem];refine ⟨by simp,?_⟩;exact Zx4 (res:=fun (r:Bool)=>.bv r) ok16 (Zk4 h hout1)
    ·refine Zl2 7 ?_;dsimp only [e16,Zmn,go_sem];refine ⟨by simp,?_⟩;exact Zy4 h hin1
   ·refine Zl2 1 ?_;dsimp only [e16,Zmn,go_sem];refine ⟨by simp,?_⟩;exact Zz4 J1 (s:=()) (Zk4 h hout1)
set_option maxRecDepth 100000
set_option maxHeartbeats 4000000
def e3:EC:=.seq (.reg [(Qa 5 (.box 25 2 (.t 0))),(Qa 6 (.box 27 3 (.t 1))),(Qa 7 (.box 29 2 (.t 2))),(Qa 10 (.mv (.c .ff)))]) (.seq (.seq (.reg [(Qa 15 (.call 6 [])),(Qa 16 (.not (.t 15))),(Qa 17 (.mv (.t 16))),(Qg 18 17 false (.loadA 2 (.t 5))),(Qg 19 17 false (.call 7 [(.t 18)])),(Qg 20 17 false (.not (.t 19))),(Qa 21 (.pick (.t 17) (.c .tt) (.t 20)))]) (.ite (.t 21) (.seq (.reg [(Qa 22 (.call 6 [])),(Qa 10 (.mv (.t 22)))]) (.ret)) (.skip))) (.seq (.reg [(Qa 23 (.fld 0 (.t 6))),(Qa 24 (.load (.t 23))),(Qa 25 (.mm true [(.t 24),(.c (.iv 0))])),(Qa 26 (.mm false [(.t 25),(.c (.iv 2))])),(Qa 27 (.fld 0 (.t 6))),(Qb (.store 1 (.t 27) (.t 26)))]) (.seq (.drw [(Qa 29 (.loadA 2 (.t 5))),(Qa 30 (.call 9 [(.t 29)])),(Qa 31 (.loadA 3 (.t 6))),(Qa 32 (.call 8 [(.t 30),(.t 31)])),(Qa 28 (.mv (.t 32))),(Qa 33 (.ext (.t 28) 0)),(Qa 34 (.ext (.t 28) 1)),(Qa 11 (.alloc 25 [.nl,.nl])),(Qb (.store 2 (.t 11) (.t 33))),(Qa 12 (.mv (.t 34)))] [[],[0],[],[1,2,1],[3],[4],[4],[],[7,5,3,0,1,2,3,4,5,7],[6,8,0,1,2,3,4,5,6,7,8]] [[1],[0,3],[3],[1,2,4],[3,5,6],[4,8],[4,9],[8],[5,7],[6]]) (.seq (.reg [(Qa 36 (.loadA 2 (.t 5))),(Qa 37 (.fld 0 (.t 6))),(Qa 38 (.load (.t 37))),(Qa 39 (.fld 1 (.t 6))),(Qa 40 (.load (.t 39))),(Qa 41 (.fld 2 (.t 6))),(Qa 42 (.load (.t 41))),(Qa 43 (.call 10 [(.t 36),(.t 38),(.t 40),(.t 42)])),(Qa 35 (.mv (.t 43))),(Qa 44 (.ext (.t 35) 0)),(Qa 45 (.ext (.t 35) 1)),(Qa 13 (.alloc 25 [.nl,.nl])),(Qb (.store 2 (.t 13) (.t 44))),(Qa 14 (.mv (.t 45)))]) (.seq (.drw [(Qa 46 (.loadA 2 (.t 11))),(Qa 47 (.loadA 2 (.t 13))),(Qa 48 (.call 11 [(.t 46),(.t 47)])),(Qa 49 (.mv (.t 48))),(Qg 50 49 true (.mv (.t 12))),(Qg 51 49 true (.mv (.t 14))),(Qg 52 49 true (.bin .eql (.t 50) (.t 51))),(Qa 53 (.pick (.t 49) (.t 52) (.c .ff))),(Qa 54 (.mv (.t 53))),(Qg 55 54 true (.loadA 2 (.t 5))),(Qg 56 54 true (.call 9 [(.t 55)])),(Qg 57 54 true (.call 12 [(.t 56)])),(Qg 58 54 true (.bin .eql (.t 57) (.c (.iv 0)))),(Qg 59 54 true (.loadA 2 (.t 5))),(Qg 60 54 true (.call 13 [(.t 59)])),(Qg 61 54 true (.bq false (.t 58) (.t 60))),(Qa 62 (.pick (.t 54) (.t 61) (.c .ff))),(Qa 63 (.mv (.t 62))),(Qg 64 63 true (.loadA 2 (.t 5))),(Qg 65 63 true (.call 9 [(.t 64)])),(Qg 66 63 true (.loadA 2 (.t 7))),(Qg 67 63 true (.mv (.t 3))),(Qg 68 63 true (.call 14 [(.t 65),(.t 66),(.t 67)])),(Qg 69 63 true (.loadA 2 (.t 5))),(Qg 70 63 true (.loadA 2 (.t 7))),(Qg 71 63 true (.mv (.t 3))),(Qg 72 63 true (.call 15 [(.t 69),(.t 70),(.t 71)])),(Qg 73 63 true (.bin .eql (.t 68) (.t 72))),(Qa 74 (.pick (.t 63) (.t 73) (.c .ff))),(Qa 75 (.mv (.t 74))),(Qg 76 75 true (.loadA 2 (.t 5))),(Qg 77 75 true (.call 9 [(.t 76)])),(Qg 78 75 true (.mv (.t 4))),(Qg 79 75 true (.call 17 [(.t 77),(.t 78)])),(Qg 80 75 true (.loadA 2 (.t 5))),(Qg 81 75 true (.mv (.t 4))),(Qg 82 75 true (.call 18 [(.t 80),(.t 81)])),(Qg 83 75 true (.call 16 [(.t 79),(.t 82)])),(Qa 84 (.pick (.t 75) (.t 83) (.c .ff))),(Qa 85 (.mv (.t 84))),(Qg 86 85 true (.loadA 2 (.t 5))),(Qg 87 85 true (.call 9 [(.t 86)])),(Qg 88 85 true (.loadA 2 (.t 11))),(Qg 89 85 true (.call 9 [(.t 88)])),(Qg 90 85 true (.call 19 [(.t 87),(.t 89)])),(Qg 91 85 true (.loadA 2 (.t 5))),(Qg 92 85 true (.loadA 2 (.t 11))),(Qg 93 85 true (.call 11 [(.t 91),(.t 92)])),(Qg 94 85 true (.bq false (.t 90) (.t 93))),(Qa 95 (.pick (.t 85) (.t 94) (.c .ff))),(Qa 10 (.mv (.t 95)))] [[],[],[0,1],[2,2],[3],[3],[4,5,3],[3,6],[7,3],[8],[9,8,8],[10,10,8],[11,8],[8],[13,11,8],[12,14,8],[8,15],[16,14],[17],[18,17,17],[17],[17],[19,20,21,19,17],[17],[17],[17],[23,24,25,22,17],[22,26,17],[17,27],[28,26],[29],[30,29,29],[29],[31,32,31,29],[29],[29],[34,35,33,29],[33,36,36,29],[29,37],[38,37],[39],[40,39,39],[39],[42,41,39],[41,43,43,39],[39],[39],[45,46,44,39],[44,47,39],[39,48],[49,47,0,1,2,3,4,5,6,7,8,9,10,11,12,13,14,15,16,17,18,19,20,21,22,23,24,25,26,27,28,29,30,31,32,33,34,35,36,37,38,39,40,41,42,43,44,45,46,47,48,49]] [[2],[2],[0,1,3],[2,4,5,6,7],[3,6],[3,6],[3,4,5,7],[3,6,8],[7,9,10,11,12,13,14,15,16],[8,10],[8,9,11],[8,10,12],[8,11,15],[8,14],[8,13,15],[8,12,14,16],[8,15,17],[16,18,19,20,21,22,23,24,25,26,27,28],[17,19],[17,18,22],[17,22],[17,22],[17,19,20,21,27],[17,26],[17,26],[17,26],[17,23,24,25,27],[17,22,26,28],[17,27,29],[28,30,31,32,33,34,35,36,37,38],[29,31],[29,30,33],[29,33],[29,31,32,37],[29,36],[29,36],[29,34,35,37],[29,33,36,38],[29,37,39],[38,40,41,42,43,44,45,46,47,48,49],[39,41],[39,40,44],[39,43],[39,42,44],[39,41,43,48],[39,47],[39,47],[39,45,46,48],[39,44,47,49],[39,48,50],[49]]) (.ret))))))
theorem ok3:FnOK Tryz.prog 3 Tryz.f3 e3 [.t 10] 5 91:=⟨by kernel_rfl,⟨_,rfl,by kernel_rfl⟩,by kernel_rfl,by kernel_rfl⟩
noncomputable def Zrn:Bool→Option Bool
| x32=>
 some x32
noncomputable def Zsn (x1:Scene) (x2:narthexlaw14_Act) (x3:Edge) (x4:Int) (x5:Int):(Int×Scene)→Option Bool
| (x14,x15)=>
 (Zpm x1 ((min ((max x2.K 0)) 2)) x2.A x2.B).bind fun x16=>
 (Z1h x15 x16.1).bind fun x17=>
 ifb x17 (
 ifb (decide (x14=x16.2)) (
 (Ztg x1).bind fun x18=>
 (Zgf x18).bind fun x19=>
 (Zdl x1).bind fun x20=>
 ifb ((decide (x19=0))==x20) (
 (Ztg x1).bind fun x21=>
 (Zgj x21 x3 x4).bind fun x22=>
 (Z5n x1 x3 x4).bind fun x23=>
 ifb (decide (x22=x23)) (
 (Ztg x1).bind fun x24=>
 (Zlj x24 x5).bind fun x25=>
 (Zbn x1 x5).bind fun x26=>
 (Zpn x25 x26).bind fun x27=>
 ifb x27 (
 (Ztg x1).bind fun x28=>
 (Ztg x15).bind fun x29=>
 (Zak x28 x29).bind fun x30=>
 (Z1h x1 x15).bind fun x31=>
 Zrn (x30==x31)) (
 Zrn false)) (
 Zrn false)) (
 Zrn false)) (
 Zrn false)) (
 Zrn false)
noncomputable def Ztn (x1:Scene) (x2:narthexlaw14_Act) (x3:Edge) (x4:Int) (x5:Int):Bool→Option Bool
| x8=>
 ifb x8 (
 (Zfk).bind fun x9=>
 some x9) (
 (Ztg x1).bind fun x10=>
 (Zqg x10 ((narthexlaw14_Act.mk ((min ((max x2.K 0)) 2)) x2.A x2.B))).bind fun x12=>
 (Zsn x1 x2 x3 x4 x5) (x12.2,x12.1))
noncomputable def Zun (x1:Scene) (x2:narthexlaw14_Act) (x3:Edge) (x4:Int) (x5:Int):Option Bool:=
 (Zfk).bind fun x6=>
 ifb (!x6) (
 (Ztn x1 x2 x3 x4 x5) true) (
 (Zt8 x1).bind fun x7=>
 (Ztn x1 x2 x3 x4 x5) (!x7))
theorem Zvn (x1:Scene) (x2:narthexlaw14_Act) (x3:Edge) (x4:Int) (x5:Int) (r:Bool) (h:Zun x1 x2 x3 x4 x5=some r):Zq2 Tryz.prog 3 [.agg (Scene.row x1),.agg (narthexlaw14_Act.row x2),.agg (Edge.row x3),.iv x4,.iv x5] (.bv r):=by
 refine Zu2 ok3 rfl rfl fun w0 H0=>?_
 rw [Zun] at h
 refine Zl2 10 ?_;dsimp only [e3,go_sem];refine ⟨by simp,?_⟩;obtain ⟨x6,ex6,h⟩:=Option.bind_eq_some_iff.1 h;refine Zz2 trivial (k_narthexlaw14_awake _ ex6) (h:=?_);refine Zl2 2 ?_;dsimp only [e3,go_sem];refine ⟨by simp,?_⟩
 refine Zl4 (fun (x8:Bool)=>(⟨(an 3 (.iv x4 :: .iv x5 :: .ptr 0 0 :: .ptr 1 0 :: .ptr 2 0::an 13 (.bv x8::an 74 []))),[some ⟨25,[.sl 3 (List.map Diner.row x1.Diners),.sl 5 (List.map Mail.row x1.Mail)]⟩,some ⟨27,[.iv x2.K,.iv x2.A,.iv x2.B]⟩,some ⟨29,[.iv x3.A,.iv x3.B]⟩],[]⟩:St)) (Ztn x1 x2 x3 x4 x5) r ?_ fun J1=>?_
 ·intro x8 h;rw [Ztn] at h;(try dsimp only);refine Zn4 h rfl (fun _ h=>?_) fun _ h=>?_
  ·refine Zl2 2 ?_;dsimp only [e3,go_sem];refine ⟨by simp,?_⟩;obtain ⟨x9,ex9,h⟩:=Option.bind_eq_some_iff.1 h;refine Zz2 trivial (k_narthexlaw14_awake _ ex9) (h:=?_);refine Zl2 2 ?_;dsimp only [e3,go_sem];refine ⟨by simp,?_⟩;exact Zx4 (res:=fun (r:Bool)=>.bv r) ok3 h
  ·refine Zl2 11 ?_;dsimp only [e3,go_sem];refine ⟨by simp,?_⟩;refine Zl4 (fun ((x14,x15):(Int×Scene))=>(⟨(an 3 (.iv x4 :: .iv x5 :: .ptr 0 0 :: .ptr 1 0 :: .ptr 2 0::an 3 (.ptr 3 0 :: .iv x14::an 83 []))),[some ⟨25,[.sl 3 (List.map Diner.row x1.Diners),.sl 5 (List.map Mail.row x1.Mail)]⟩,some ⟨27,[.iv ((min ((max x2.K 0)) 2)),.iv x2.A,.iv x2.B]⟩,some ⟨29,[.iv x3.A,.iv x3.B]⟩,some ⟨25,[.sl 3 (List.map Diner.row x15.Diners),.sl 5 (List.map Mail.row x15.Mail)]⟩],[]⟩:St)) (Zsn x1 x2 x3 x4 x5) r ?_ fun J2=>?_
   ·rintro ⟨x14,x15⟩ h;rw [Zsn] at h;(try dsimp only);refine Zl2 9 ?_;dsimp only [e3,go_sem];refine ⟨by simp,?_⟩;obtain ⟨x16,ex16,h⟩:=Option.bind_eq_some_iff.1 h;refine Zz2 trivial (Zqm x1 ((min ((max x2.K 0)) 2)) x2.A x2.B _ ex16) (h:=?_);refine Zl2 8 ?_;dsimp only [e3,go_sem];refine ⟨by simp,?_⟩;refine Zl4 (fun (x32:Bool)=>(⟨(an 10 (.bv x32::an 85 [])),[],[]⟩:St)) Zrn r ?_ fun J3=>?_
    ·intro x32 h;rw [Zrn] at h;(try dsimp only);exact Zx4 (res:=fun (r:Bool)=>.bv r) ok3 h
    ·refine Zh3 (by kernel_rfl) fun all hall hs hnap haf=>?_;dsimp only [go_sem]
     refine Zi5 hall hs haf hnap 2 49 [true,true,false,false,false,false,false,false,false,false,false,false,false,false,false,false,false,false,false,false,false,false,false,false,false,false,false,false,false,false,false,false,false,false,false,false,false,false,false,false,false,false,false,false,false,false,false,false,false,false,false] (⟨(an 3 (.iv x4 :: .iv x5 :: .ptr 0 0 :: .ptr 1 0 :: .ptr 2 0::an 3 (.ptr 3 0 :: .iv x14 :: .ptr 4 0 :: .iv x16.2::an 20 (.tup [.agg [.sl 3 (List.map Diner.row x16.1.Diners),.sl 5 (List.map Mail.row x16.1.Mail)],.iv x16.2] :: .agg [.sl 3 (List.map Diner.row x1.Diners),.sl 5 (List.map Mail.row x1.Mail)] :: .ptr 1 0 :: .iv ((min ((max x2.K 0)) 2)) :: .ptr 1 1 :: .iv x2.A :: .ptr 1 2 :: .iv x2.B :: .tup [.agg [.sl 3 (List.map Diner.row x16.1.Diners),.sl 5 (List.map Mail.row x16.1.Mail)],.iv x16.2] :: .agg [.sl 3 (List.map Diner.row x16.1.Diners),.sl 5 (List.map Mail.row x16.1.Mail)] :: .iv x16.2 :: .agg [.sl 3 (List.map Diner.row x15.Diners),.sl 5 (List.map Mail.row x15.Mail)] :: .agg [.sl 3 (List.map Diner.row x16.1.Diners),.sl 5 (List.map Mail.row x16.1.Mail)]::an 48 [])))),[some ⟨25,[.sl 3 (List.map Diner.row x1.Diners),.sl 5 (List.map Mail.row x1.Mail)]⟩,some ⟨27,[.iv ((min ((max x2.K 0)) 2)),.iv x2.A,.iv x2.B]⟩,some ⟨29,[.iv x3.A,.iv x3.B]⟩,some ⟨25,[.sl 3 (List.map Diner.row x15.Diners),.sl 5 (List.map Mail.row x15.Mail)]⟩,some ⟨25,[.sl 3 (List.map Diner.row x16.1.Diners),.sl 5 (List.map Mail.row x16.1.Mail)]⟩],[]⟩:St) (by kernel_rfl) ?_
     refine Zt3 2 rfl ?_;obtain ⟨x17,ex17,h⟩:=Option.bind_eq_some_iff.1 h;refine Zz3 hall rfl trivial (k_narthexref14_Same x15 x16.1 _ ex17) (h:=?_);dsimp only [go_sem];refine Zh5 hall hs haf hnap 1 47 ?_;dsimp only [go_sem];refine ⟨by simp,?_⟩;refine Z75 49 h rfl (fun _ h=>?_) fun _ h=>?_
     ·dsimp only [go_sem]
      refine Zi5 hall hs haf hnap 5 42 [true,true,true,true,true,true,true,true,true,false,false,false,false,false,false,false,false,false,false,false,false,false,false,false,false,false,false,false,false,false,false,false,false,false,false,false,false,false,false,false,false,false,false,false,false,false,false,false,false,false,false] (⟨(an 3 (.iv x4 :: .iv x5 :: .ptr 0 0 :: .ptr 1 0 :: .ptr 2 0::an 3 (.ptr 3 0 :: .iv x14 :: .ptr 4 0 :: .iv x16.2::an 20 (.tup [.agg [.sl 3 (List.map Diner.row x16.1.Diners),.sl 5 (List.map Mail.row x16.1.Mail)],.iv x16.2] :: .agg [.sl 3 (List.map Diner.row x1.Diners),.sl 5 (List.map Mail.row x1.Mail)] :: .ptr 1 0 :: .iv ((min ((max x2.K 0)) 2)) :: .ptr 1 1 :: .iv x2.A :: .ptr 1 2 :: .iv x2.B :: .tup [.agg [.sl 3 (List.map Diner.row x16.1.Diners),.sl 5 (List.map Mail.row x16.1.Mail)],.iv x16.2] :: .agg [.sl 3 (List.map Diner.row x16.1.Diners),.sl 5 (List.map Mail.row x16.1.Mail)] :: .iv x16.2 :: .agg [.sl 3 (List.map Diner.row x15.Diners),.sl 5 (List.map Mail.row x15.Mail)] :: .agg [.sl 3 (List.map Diner.row x16.1.Diners),.sl 5 (List.map Mail.row x16.1.Mail)] :: .bv x17 :: .tt :: .iv x14 :: .iv x16.2 :: .bv (decide (x14=x16.2)) :: .bv (decide (x14=x16.2)) :: .bv (decide (x14=x16.2))::an 41 [])))),[some ⟨25,[.sl 3 (List.map Diner.row x1.Diners),.sl 5 (List.map Mail.row x1.Mail)]⟩,some ⟨27,[.iv ((min ((max x2.K 0)) 2)),.iv x2.A,.iv x2.B]⟩,some ⟨29,[.iv x3.A,.iv x3.B]⟩,some ⟨25,[.sl 3 (List.map Diner.row x15.Diners),.sl 5 (List.map Mail.row x15.Mail)]⟩,some ⟨25,[.sl 3 (List.map Diner.row x16.1.Diners),.sl 5 (List.map Mail.row x16.1.Mail)]⟩],[]⟩:St) (by kernel_rfl) ?_
      refine Z75 54 h rfl (fun _ h=>?_) fun _ h=>?_
      ·dsimp only [go_sem]
       refine Zi5 hall hs haf hnap 2 40 [true,true,true,true,true,true,true,true,true,true,false,false,false,true,false,false,false,false,false,false,false,false,false,false,false,false,false,false,false,false,false,false,false,false,false,false,false,false,false,false,false,false,false,false,false,false,false,false,false,false,false] (⟨(an 3 (.iv x4 :: .iv x5 :: .ptr 0 0 :: .ptr 1 0 :: .ptr 2 0::an 3 (.ptr 3 0 :: .iv x14 :: .ptr 4 0 :: .iv x16.2::an 20 (.tup [.agg [.sl 3 (List.map Diner.row x16.1.Diners),.sl 5 (List.map Mail.row x16.1.Mail)],.iv x16.2] :: .agg [.sl 3 (List.map Diner.row x1.Diners),.sl 5 (List.map Mail.row x1.Mail)] :: .ptr 1 0 :: .iv ((min ((max x2.K 0)) 2)) :: .ptr 1 1 :: .iv x2.A :: .ptr 1 2 :: .iv x2.B :: .tup [.agg [.sl 3 (List.map Diner.row x16.1.Diners),.sl 5 (List.map Mail.row x16.1.Mail)],.iv x16.2] :: .agg [.sl 3 (List.map Diner.row x16.1.Diners),.sl 5 (List.map Mail.row x16.1.Mail)] :: .iv x16.2 :: .agg [.sl 3 (List.map Diner.row x15.Diners),.sl 5 (List.map Mail.row x15.Mail)] :: .agg [.sl 3 (List.map Diner.row x16.1.Diners),.sl 5 (List.map Mail.row x16.1.Mail)] :: .bv x17 :: .tt :: .iv x14 :: .iv x16.2 :: .bv (decide (x14=x16.2)) :: .bv (decide (x14=x16.2)) :: .tt :: .agg [.sl 3 (List.map Diner.row x1.Diners),.sl 5 (List.map Mail.row x1.Mail)]::an 3 (.agg [.sl 3 (List.map Diner.row x1.Diners),.sl 5 (List.map Mail.row x1.Mail)]::an 36 []))))),[some ⟨25,[.sl 3 (List.map Diner.row x1.Diners),.sl 5 (List.map Mail.row x1.Mail)]⟩,some ⟨27,[.iv ((min ((max x2.K 0)) 2)),.iv x2.A,.iv x2.B]⟩,some ⟨29,[.iv x3.A,.iv x3.B]⟩,some ⟨25,[.sl 3 (List.map Diner.row x15.Diners),.sl 5 (List.map Mail.row x15.Mail)]⟩,some ⟨25,[.sl 3 (List.map Diner.row x16.1.Diners),.sl 5 (List.map Mail.row x16.1.Mail)]⟩],[]⟩:St) (by kernel_rfl) ?_
       refine Zt3 10 rfl ?_;obtain ⟨x18,ex18,h⟩:=Option.bind_eq_some_iff.1 h;refine Zz3 hall rfl trivial (Zug x1 _ ex18) (h:=?_);dsimp only [go_sem];refine Zt3 11 rfl ?_;obtain ⟨x19,ex19,h⟩:=Option.bind_eq_some_iff.1 h;refine Zz3 hall rfl trivial (Zhf x18 _ ex19) (h:=?_);dsimp only [go_sem];refine Zh5 hall hs haf hnap 1 37 ?_;dsimp only [go_sem];refine ⟨by simp,?_⟩;refine Zt3 14 rfl ?_;obtain ⟨x20,ex20,h⟩:=Option.bind_eq_some_iff.1 h;refine Zz3 hall rfl trivial (Zel x1 _ ex20) (h:=?_)
       dsimp only [go_sem]
       refine Zi5 hall hs haf hnap 3 33 [true,true,true,true,true,true,true,true,true,true,true,true,true,true,true,true,true,true,false,false,false,false,false,false,false,false,false,false,false,false,false,false,false,false,false,false,false,false,false,false,false,false,false,false,false,false,false,false,false,false,false] (⟨(an 3 (.iv x4 :: .iv x5 :: .ptr 0 0 :: .ptr 1 0 :: .ptr 2 0::an 3 (.ptr 3 0 :: .iv x14 :: .ptr 4 0 :: .iv x16.2::an 20 (.tup [.agg [.sl 3 (List.map Diner.row x16.1.Diners),.sl 5 (List.map Mail.row x16.1.Mail)],.iv x16.2] :: .agg [.sl 3 (List.map Diner.row x1.Diners),.sl 5 (List.map Mail.row x1.Mail)] :: .ptr 1 0 :: .iv ((min ((max x2.K 0)) 2)) :: .ptr 1 1 :: .iv x2.A :: .ptr 1 2 :: .iv x2.B :: .tup [.agg [.sl 3 (List.map Diner.row x16.1.Diners),.sl 5 (List.map Mail.row x16.1.Mail)],.iv x16.2] :: .agg [.sl 3 (List.map Diner.row x16.1.Diners),.sl 5 (List.map Mail.row x16.1.Mail)] :: .iv x16.2 :: .agg [.sl 3 (List.map Diner.row x15.Diners),.sl 5 (List.map Mail.row x15.Mail)] :: .agg [.sl 3 (List.map Diner.row x16.1.Diners),.sl 5 (List.map Mail.row x16.1.Mail)] :: .bv x17 :: .tt :: .iv x14 :: .iv x16.2 :: .bv (decide (x14=x16.2)) :: .bv (decide (x14=x16.2)) :: .tt :: .agg [.sl 3 (List.map Diner.row x1.Diners),.sl 5 (List.map Mail.row x1.Mail)] :: .agg [.sl 3 (List.map Diner.row x18.Diners),.sl 5 (List.map Mail.row x18.Mail)] :: .iv x19 :: .bv (decide (x19=0)) :: .agg [.sl 3 (List.map Diner.row x1.Diners),.sl 5 (List.map Mail.row x1.Mail)] :: .bv x20 :: .bv ((decide (x19=0))==x20) :: .bv ((decide (x19=0))==x20) :: .bv ((decide (x19=0))==x20)::an 32 [])))),[some ⟨25,[.sl 3 (List.map Diner.row x1.Diners),.sl 5 (List.map Mail.row x1.Mail)]⟩,some ⟨27,[.iv ((min ((max x2.K 0)) 2)),.iv x2.A,.iv x2.B]⟩,some ⟨29,[.iv x3.A,.iv x3.B]⟩,some ⟨25,[.sl 3 (List.map Diner.row x15.Diners),.sl 5 (List.map Mail.row x15.Mail)]⟩,some ⟨25,[.sl 3 (List.map Diner.row x16.1.Diners),.sl 5 (List.map Mail.row x16.1.Mail)]⟩],[]⟩:St) (by kernel_rfl) ?_
       refine Z75 63 h rfl (fun _ h=>?_) fun _ h=>?_
       ·dsimp only [go_sem]
        refine Zi5 hall hs haf hnap 6 27 [true,true,true,true,true,true,true,true,true,true,true,true,true,true,true,true,true,true,true,false,true,true,false,true,true,true,false,false,false,false,false,false,false,false,false,false,false,false,false,false,false,false,false,false,false,false,false,false,false,false,false] (⟨(an 3 (.iv x4 :: .iv x5 :: .ptr 0 0 :: .ptr 1 0 :: .ptr 2 0::an 3 (.ptr 3 0 :: .iv x14 :: .ptr 4 0 :: .iv x16.2::an 20 (.tup [.agg [.sl 3 (List.map Diner.row x16.1.Diners),.sl 5 (List.map Mail.row x16.1.Mail)],.iv x16.2] :: .agg [.sl 3 (List.map Diner.row x1.Diners),.sl 5 (List.map Mail.row x1.Mail)] :: .ptr 1 0 :: .iv ((min ((max x2.K 0)) 2)) :: .ptr 1 1 :: .iv x2.A :: .ptr 1 2 :: .iv x2.B :: .tup [.agg [.sl 3 (List.map Diner.row x16.1.Diners),.sl 5 (List.map Mail.row x16.1.Mail)],.iv x16.2] :: .agg [.sl 3 (List.map Diner.row x16.1.Diners),.sl 5 (List.map Mail.row x16.1.Mail)] :: .iv x16.2 :: .agg [.sl 3 (List.map Diner.row x15.Diners),.sl 5 (List.map Mail.row x15.Mail)] :: .agg [.sl 3 (List.map Diner.row x16.1.Diners),.sl 5 (List.map Mail.row x16.1.Mail)] :: .bv x17 :: .tt :: .iv x14 :: .iv x16.2 :: .bv (decide (x14=x16.2)) :: .bv (decide (x14=x16.2)) :: .tt :: .agg [.sl 3 (List.map Diner.row x1.Diners),.sl 5 (List.map Mail.row x1.Mail)] :: .agg [.sl 3 (List.map Diner.row x18.Diners),.sl 5 (List.map Mail.row x18.Mail)] :: .iv x19 :: .bv (decide (x19=0)) :: .agg [.sl 3 (List.map Diner.row x1.Diners),.sl 5 (List.map Mail.row x1.Mail)] :: .bv x20 :: .bv ((decide (x19=0))==x20) :: .bv ((decide (x19=0))==x20) :: .tt :: .agg [.sl 3 (List.map Diner.row x1.Diners),.sl 5 (List.map Mail.row x1.Mail)] :: .any :: .agg [.iv x3.A,.iv x3.B] :: .iv x4 :: .any :: .agg [.sl 3 (List.map Diner.row x1.Diners),.sl 5 (List.map Mail.row x1.Mail)] :: .agg [.iv x3.A,.iv x3.B] :: .iv x4::an 24 [])))),[some ⟨25,[.sl 3 (List.map Diner.row x1.Diners),.sl 5 (List.map Mail.row x1.Mail)]⟩,some ⟨27,[.iv ((min ((max x2.K 0)) 2)),.iv x2.A,.iv x2.B]⟩,some ⟨29,[.iv x3.A,.iv x3.B]⟩,some ⟨25,[.sl 3 (List.map Diner.row x15.Diners),.sl 5 (List.map Mail.row x15.Mail)]⟩,some ⟨25,[.sl 3 (List.map Diner.row x16.1.Diners),.sl 5 (List.map Mail.row x16.1.Mail)]⟩],[]⟩:St) (by kernel_rfl) ?_
        refine Zt3 19 rfl ?_;obtain ⟨x21,ex21,h⟩:=Option.bind_eq_some_iff.1 h;refine Zz3 hall rfl trivial (Zug x1 _ ex21) (h:=?_);dsimp only [go_sem];refine Zt3 22 rfl ?_;obtain ⟨x22,ex22,h⟩:=Option.bind_eq_some_iff.1 h;refine Zz3 hall rfl trivial (k_table_Count x21 x3 x4 _ ex22) (h:=?_);dsimp only [go_sem];refine Zt3 26 rfl ?_;obtain ⟨x23,ex23,h⟩:=Option.bind_eq_some_iff.1 h;refine Zz3 hall rfl trivial (Z6n x1 x3 x4 _ ex23) (h:=?_);dsimp only [go_sem]
        refine Zi5 hall hs haf hnap 3 21 [true,true,true,true,true,true,true,true,true,true,true,true,true,true,true,true,true,true,true,true,true,true,true,true,true,true,true,true,true,true,false,false,false,false,false,false,false,false,false,false,false,false,false,false,false,false,false,false,false,false,false] (⟨(an 3 (.iv x4 :: .iv x5 :: .ptr 0 0 :: .ptr 1 0 :: .ptr 2 0::an 3 (.ptr 3 0 :: .iv x14 :: .ptr 4 0 :: .iv x16.2::an 20 (.tup [.agg [.sl 3 (List.map Diner.row x16.1.Diners),.sl 5 (List.map Mail.row x16.1.Mail)],.iv x16.2] :: .agg [.sl 3 (List.map Diner.row x1.Diners),.sl 5 (List.map Mail.row x1.Mail)] :: .ptr 1 0 :: .iv ((min ((max x2.K 0)) 2)) :: .ptr 1 1 :: .iv x2.A :: .ptr 1 2 :: .iv x2.B :: .tup [.agg [.sl 3 (List.map Diner.row x16.1.Diners),.sl 5 (List.map Mail.row x16.1.Mail)],.iv x16.2] :: .agg [.sl 3 (List.map Diner.row x16.1.Diners),.sl 5 (List.map Mail.row x16.1.Mail)] :: .iv x16.2 :: .agg [.sl 3 (List.map Diner.row x15.Diners),.sl 5 (List.map Mail.row x15.Mail)] :: .agg [.sl 3 (List.map Diner.row x16.1.Diners),.sl 5 (List.map Mail.row x16.1.Mail)] :: .bv x17 :: .tt :: .iv x14 :: .iv x16.2 :: .bv (decide (x14=x16.2)) :: .bv (decide (x14=x16.2)) :: .tt :: .agg [.sl 3 (List.map Diner.row x1.Diners),.sl 5 (List.map Mail.row x1.Mail)] :: .agg [.sl 3 (List.map Diner.row x18.Diners),.sl 5 (List.map Mail.row x18.Mail)] :: .iv x19 :: .bv (decide (x19=0)) :: .agg [.sl 3 (List.map Diner.row x1.Diners),.sl 5 (List.map Mail.row x1.Mail)] :: .bv x20 :: .bv ((decide (x19=0))==x20) :: .bv ((decide (x19=0))==x20) :: .tt :: .agg [.sl 3 (List.map Diner.row x1.Diners),.sl 5 (List.map Mail.row x1.Mail)] :: .agg [.sl 3 (List.map Diner.row x21.Diners),.sl 5 (List.map Mail.row x21.Mail)] :: .agg [.iv x3.A,.iv x3.B] :: .iv x4 :: .iv x22 :: .agg [.sl 3 (List.map Diner.row x1.Diners),.sl 5 (List.map Mail.row x1.Mail)] :: .agg [.iv x3.A,.iv x3.B] :: .iv x4 :: .iv x23 :: .bv (decide (x22=x23)) :: .bv (decide (x22=x23)) :: .bv (decide (x22=x23))::an 20 [])))),[some ⟨25,[.sl 3 (List.map Diner.row x1.Diners),.sl 5 (List.map Mail.row x1.Mail)]⟩,some ⟨27,[.iv ((min ((max x2.K 0)) 2)),.iv x2.A,.iv x2.B]⟩,some ⟨29,[.iv x3.A,.iv x3.B]⟩,some ⟨25,[.sl 3 (List.map Diner.row x15.Diners),.sl 5 (List.map Mail.row x15.Mail)]⟩,some ⟨25,[.sl 3 (List.map Diner.row x16.1.Diners),.sl 5 (List.map Mail.row x16.1.Mail)]⟩],[]⟩:St) (by kernel_rfl) ?_
        refine Z75 75 h rfl (fun _ h=>?_) fun _ h=>?_
        ·dsimp only [go_sem]
         refine Zi5 hall hs haf hnap 4 17 [true,true,true,true,true,true,true,true,true,true,true,true,true,true,true,true,true,true,true,true,true,true,true,true,true,true,true,true,true,true,true,false,true,false,true,true,false,false,false,false,false,false,false,false,false,false,false,false,false,false,false] (⟨(an 3 (.iv x4 :: .iv x5 :: .ptr 0 0 :: .ptr 1 0 :: .ptr 2 0::an 3 (.ptr 3 0 :: .iv x14 :: .ptr 4 0 :: .iv x16.2::an 20 (.tup [.agg [.sl 3 (List.map Diner.row x16.1.Diners),.sl 5 (List.map Mail.row x16.1.Mail)],.iv x16.2] :: .agg [.sl 3 (List.map Diner.row x1.Diners),.sl 5 (List.map Mail.row x1.Mail)] :: .ptr 1 0 :: .iv ((min ((max x2.K 0)) 2)) :: .ptr 1 1 :: .iv x2.A :: .ptr 1 2 :: .iv x2.B :: .tup [.agg [.sl 3 (List.map Diner.row x16.1.Diners),.sl 5 (List.map Mail.row x16.1.Mail)],.iv x16.2] :: .agg [.sl 3 (List.map Diner.row x16.1.Diners),.sl 5 (List.map Mail.row x16.1.Mail)] :: .iv x16.2 :: .agg [.sl 3 (List.map Diner.row x15.Diners),.sl 5 (List.map Mail.row x15.Mail)] :: .agg [.sl 3 (List.map Diner.row x16.1.Diners),.sl 5 (List.map Mail.row x16.1.Mail)] :: .bv x17 :: .tt :: .iv x14 :: .iv x16.2 :: .bv (decide (x14=x16.2)) :: .bv (decide (x14=x16.2)) :: .tt :: .agg [.sl 3 (List.map Diner.row x1.Diners),.sl 5 (List.map Mail.row x1.Mail)] :: .agg [.sl 3 (List.map Diner.row x18.Diners),.sl 5 (List.map Mail.row x18.Mail)] :: .iv x19 :: .bv (decide (x19=0)) :: .agg [.sl 3 (List.map Diner.row x1.Diners),.sl 5 (List.map Mail.row x1.Mail)] :: .bv x20 :: .bv ((decide (x19=0))==x20) :: .bv ((decide (x19=0))==x20) :: .tt :: .agg [.sl 3 (List.map Diner.row x1.Diners),.sl 5 (List.map Mail.row x1.Mail)] :: .agg [.sl 3 (List.map Diner.row x21.Diners),.sl 5 (List.map Mail.row x21.Mail)] :: .agg [.iv x3.A,.iv x3.B] :: .iv x4 :: .iv x22 :: .agg [.sl 3 (List.map Diner.row x1.Diners),.sl 5 (List.map Mail.row x1.Mail)] :: .agg [.iv x3.A,.iv x3.B] :: .iv x4 :: .iv x23 :: .bv (decide (x22=x23)) :: .bv (decide (x22=x23)) :: .tt :: .agg [.sl 3 (List.map Diner.row x1.Diners),.sl 5 (List.map Mail.row x1.Mail)] :: .any :: .iv x5 :: .any :: .agg [.sl 3 (List.map Diner.row x1.Diners),.sl 5 (List.map Mail.row x1.Mail)] :: .iv x5::an 14 [])))),[some ⟨25,[.sl 3 (List.map Diner.row x1.Diners),.sl 5 (List.map Mail.row x1.Mail)]⟩,some ⟨27,[.iv ((min ((max x2.K 0)) 2)),.iv x2.A,.iv x2.B]⟩,some ⟨29,[.iv x3.A,.iv x3.B]⟩,some ⟨25,[.sl 3 (List.map Diner.row x15.Diners),.sl 5 (List.map Mail.row x15.Mail)]⟩,some ⟨25,[.sl 3 (List.map Diner.row x16.1.Diners),.sl 5 (List.map Mail.row x16.1.Mail)]⟩],[]⟩:St) (by kernel_rfl) ?_
         refine Zt3 31 rfl ?_;obtain ⟨x24,ex24,h⟩:=Option.bind_eq_some_iff.1 h;refine Zz3 hall rfl trivial (Zug x1 _ ex24) (h:=?_);dsimp only [go_sem];refine Zt3 33 rfl ?_;obtain ⟨x25,ex25,h⟩:=Option.bind_eq_some_iff.1 h;refine Zz3 hall rfl trivial (Znj x24 x5 _ ex25) (h:=?_);dsimp only [go_sem];refine Zt3 36 rfl ?_;obtain ⟨x26,ex26,h⟩:=Option.bind_eq_some_iff.1 h;refine Zz3 hall rfl trivial (Zdn x1 x5 _ ex26) (h:=?_);dsimp only [go_sem];refine Zt3 37 rfl ?_
         obtain ⟨x27,ex27,h⟩:=Option.bind_eq_some_iff.1 h;refine Zz3 hall rfl trivial (Zqn x25 x26 _ ex27) (h:=?_);dsimp only [go_sem]
         refine Zi5 hall hs haf hnap 2 11 [true,true,true,true,true,true,true,true,true,true,true,true,true,true,true,true,true,true,true,true,true,true,true,true,true,true,true,true,true,true,true,true,true,true,true,true,true,true,true,true,false,false,false,false,false,false,false,false,false,false,false] (⟨(an 3 (.iv x4 :: .iv x5 :: .ptr 0 0 :: .ptr 1 0 :: .ptr 2 0::an 3 (.ptr 3 0 :: .iv x14 :: .ptr 4 0 :: .iv x16.2::an 20 (.tup [.agg [.sl 3 (List.map Diner.row x16.1.Diners),.sl 5 (List.map Mail.row x16.1.Mail)],.iv x16.2] :: .agg [.sl 3 (List.map Diner.row x1.Diners),.sl 5 (List.map Mail.row x1.Mail)] :: .ptr 1 0 :: .iv ((min ((max x2.K 0)) 2)) :: .ptr 1 1 :: .iv x2.A :: .ptr 1 2 :: .iv x2.B :: .tup [.agg [.sl 3 (List.map Diner.row x16.1.Diners),.sl 5 (List.map Mail.row x16.1.Mail)],.iv x16.2] :: .agg [.sl 3 (List.map Diner.row x16.1.Diners),.sl 5 (List.map Mail.row x16.1.Mail)] :: .iv x16.2 :: .agg [.sl 3 (List.map Diner.row x15.Diners),.sl 5 (List.map Mail.row x15.Mail)] :: .agg [.sl 3 (List.map Diner.row x16.1.Diners),.sl 5 (List.map Mail.row x16.1.Mail)] :: .bv x17 :: .tt :: .iv x14 :: .iv x16.2 :: .bv (decide (x14=x16.2)) :: .bv (decide (x14=x16.2)) :: .tt :: .agg [.sl 3 (List.map Diner.row x1.Diners),.sl 5 (List.map Mail.row x1.Mail)] :: .agg [.sl 3 (List.map Diner.row x18.Diners),.sl 5 (List.map Mail.row x18.Mail)] :: .iv x19 :: .bv (decide (x19=0)) :: .agg [.sl 3 (List.map Diner.row x1.Diners),.sl 5 (List.map Mail.row x1.Mail)] :: .bv x20 :: .bv ((decide (x19=0))==x20) :: .bv ((decide (x19=0))==x20) :: .tt :: .agg [.sl 3 (List.map Diner.row x1.Diners),.sl 5 (List.map Mail.row x1.Mail)] :: .agg [.sl 3 (List.map Diner.row x21.Diners),.sl 5 (List.map Mail.row x21.Mail)] :: .agg [.iv x3.A,.iv x3.B] :: .iv x4 :: .iv x22 :: .agg [.sl 3 (List.map Diner.row x1.Diners),.sl 5 (List.map Mail.row x1.Mail)] :: .agg [.iv x3.A,.iv x3.B] :: .iv x4 :: .iv x23 :: .bv (decide (x22=x23)) :: .bv (decide (x22=x23)) :: .tt :: .agg [.sl 3 (List.map Diner.row x1.Diners),.sl 5 (List.map Mail.row x1.Mail)] :: .agg [.sl 3 (List.map Diner.row x24.Diners),.sl 5 (List.map Mail.row x24.Mail)] :: .iv x5 :: .sl 1 (List.map Z45 x25) :: .agg [.sl 3 (List.map Diner.row x1.Diners),.sl 5 (List.map Mail.row x1.Mail)] :: .iv x5 :: .sl 1 (List.map Z45 x26) :: .bv x27 :: .bv x27 :: .bv x27::an 10 [])))),[some ⟨25,[.sl 3 (List.map Diner.row x1.Diners),.sl 5 (List.map Mail.row x1.Mail)]⟩,some ⟨27,[.iv ((min ((max x2.K 0)) 2)),.iv x2.A,.iv x2.B]⟩,some ⟨29,[.iv x3.A,.iv x3.B]⟩,some ⟨25,[.sl 3 (List.map Diner.row x15.Diners),.sl 5 (List.map Mail.row x15.Mail)]⟩,some ⟨25,[.sl 3 (List.map Diner.row x16.1.Diners),.sl 5 (List.map Mail.row x16.1.Mail)]⟩],[]⟩:St) (by kernel_rfl) ?_
         refine Z75 85 h rfl (fun _ h=>?_) fun _ h=>?_
         ·dsimp only [go_sem]
          refine Zi5 hall hs haf hnap 4 7 [true,true,true,true,true,true,true,true,true,true,true,true,true,true,true,true,true,true,true,true,true,true,true,true,true,true,true,true,true,true,true,true,true,true,true,true,true,true,true,true,true,false,true,false,false,true,true,false,false,false,false] (⟨(an 3 (.iv x4 :: .iv x5 :: .ptr 0 0 :: .ptr 1 0 :: .ptr 2 0::an 3 (.ptr 3 0 :: .iv x14 :: .ptr 4 0 :: .iv x16.2::an 20 (.tup [.agg [.sl 3 (List.map Diner.row x16.1.Diners),.sl 5 (List.map Mail.row x16.1.Mail)],.iv x16.2] :: .agg [.sl 3 (List.map Diner.row x1.Diners),.sl 5 (List.map Mail.row x1.Mail)] :: .ptr 1 0 :: .iv ((min ((max x2.K 0)) 2)) :: .ptr 1 1 :: .iv x2.A :: .ptr 1 2 :: .iv x2.B :: .tup [.agg [.sl 3 (List.map Diner.row x16.1.Diners),.sl 5 (List.map Mail.row x16.1.Mail)],.iv x16.2] :: .agg [.sl 3 (List.map Diner.row x16.1.Diners),.sl 5 (List.map Mail.row x16.1.Mail)] :: .iv x16.2 :: .agg [.sl 3 (List.map Diner.row x15.Diners),.sl 5 (List.map Mail.row x15.Mail)] :: .agg [.sl 3 (List.map Diner.row x16.1.Diners),.sl 5 (List.map Mail.row x16.1.Mail)] :: .bv x17 :: .tt :: .iv x14 :: .iv x16.2 :: .bv (decide (x14=x16.2)) :: .bv (decide (x14=x16.2)) :: .tt :: .agg [.sl 3 (List.map Diner.row x1.Diners),.sl 5 (List.map Mail.row x1.Mail)] :: .agg [.sl 3 (List.map Diner.row x18.Diners),.sl 5 (List.map Mail.row x18.Mail)] :: .iv x19 :: .bv (decide (x19=0)) :: .agg [.sl 3 (List.map Diner.row x1.Diners),.sl 5 (List.map Mail.row x1.Mail)] :: .bv x20 :: .bv ((decide (x19=0))==x20) :: .bv ((decide (x19=0))==x20) :: .tt :: .agg [.sl 3 (List.map Diner.row x1.Diners),.sl 5 (List.map Mail.row x1.Mail)] :: .agg [.sl 3 (List.map Diner.row x21.Diners),.sl 5 (List.map Mail.row x21.Mail)] :: .agg [.iv x3.A,.iv x3.B] :: .iv x4 :: .iv x22 :: .agg [.sl 3 (List.map Diner.row x1.Diners),.sl 5 (List.map Mail.row x1.Mail)] :: .agg [.iv x3.A,.iv x3.B] :: .iv x4 :: .iv x23 :: .bv (decide (x22=x23)) :: .bv (decide (x22=x23)) :: .tt :: .agg [.sl 3 (List.map Diner.row x1.Diners),.sl 5 (List.map Mail.row x1.Mail)] :: .agg [.sl 3 (List.map Diner.row x24.Diners),.sl 5 (List.map Mail.row x24.Mail)] :: .iv x5 :: .sl 1 (List.map Z45 x25) :: .agg [.sl 3 (List.map Diner.row x1.Diners),.sl 5 (List.map Mail.row x1.Mail)] :: .iv x5 :: .sl 1 (List.map Z45 x26) :: .bv x27 :: .bv x27 :: .tt :: .agg [.sl 3 (List.map Diner.row x1.Diners),.sl 5 (List.map Mail.row x1.Mail)] :: .any :: .agg [.sl 3 (List.map Diner.row x15.Diners),.sl 5 (List.map Mail.row x15.Mail)] :: .any :: .any :: .agg [.sl 3 (List.map Diner.row x1.Diners),.sl 5 (List.map Mail.row x1.Mail)] :: .agg [.sl 3 (List.map Diner.row x15.Diners),.sl 5 (List.map Mail.row x15.Mail)]::an 3 [])))),[some ⟨25,[.sl 3 (List.map Diner.row x1.Diners),.sl 5 (List.map Mail.row x1.Mail)]⟩,some ⟨27,[.iv ((min ((max x2.K 0)) 2)),.iv x2.A,.iv x2.B]⟩,some ⟨29,[.iv x3.A,.iv x3.B]⟩,some ⟨25,[.sl 3 (List.map Diner.row x15.Diners),.sl 5 (List.map Mail.row x15.Mail)]⟩,some ⟨25,[.sl 3 (List.map Diner.row x16.1.Diners),.sl 5 (List.map Mail.row x16.1.Mail)]⟩],[]⟩:St) (by kernel_rfl) ?_
          refine Zt3 41 rfl ?_;obtain ⟨x28,ex28,h⟩:=Option.bind_eq_some_iff.1 h;refine Zz3 hall rfl trivial (Zug x1 _ ex28) (h:=?_);dsimp only [go_sem];refine Zt3 43 rfl ?_;obtain ⟨x29,ex29,h⟩:=Option.bind_eq_some_iff.1 h;refine Zz3 hall rfl trivial (Zug x15 _ ex29) (h:=?_);dsimp only [go_sem];refine Zt3 44 rfl ?_;obtain ⟨x30,ex30,h⟩:=Option.bind_eq_some_iff.1 h;refine Zz3 hall rfl trivial (Zbk x28 x29 _ ex30) (h:=?_);dsimp only [go_sem];refine Zt3 47 rfl ?_
          obtain ⟨x31,ex31,h⟩:=Option.bind_eq_some_iff.1 h;refine Zz3 hall rfl trivial (k_narthexref14_Same x1 x15 _ ex31) (h:=?_);dsimp only [go_sem]
          refine Zi5 hall hs haf hnap 3 0 [true,true,true,true,true,true,true,true,true,true,true,true,true,true,true,true,true,true,true,true,true,true,true,true,true,true,true,true,true,true,true,true,true,true,true,true,true,true,true,true,true,true,true,true,true,true,true,true,true,true,true] (⟨(an 3 (.iv x4 :: .iv x5 :: .ptr 0 0 :: .ptr 1 0 :: .ptr 2 0 :: .any :: .any :: .bv (x30==x31) :: .ptr 3 0 :: .iv x14 :: .ptr 4 0 :: .iv x16.2::an 20 (.tup [.agg [.sl 3 (List.map Diner.row x16.1.Diners),.sl 5 (List.map Mail.row x16.1.Mail)],.iv x16.2] :: .agg [.sl 3 (List.map Diner.row x1.Diners),.sl 5 (List.map Mail.row x1.Mail)] :: .ptr 1 0 :: .iv ((min ((max x2.K 0)) 2)) :: .ptr 1 1 :: .iv x2.A :: .ptr 1 2 :: .iv x2.B :: .tup [.agg [.sl 3 (List.map Diner.row x16.1.Diners),.sl 5 (List.map Mail.row x16.1.Mail)],.iv x16.2] :: .agg [.sl 3 (List.map Diner.row x16.1.Diners),.sl 5 (List.map Mail.row x16.1.Mail)] :: .iv x16.2 :: .agg [.sl 3 (List.map Diner.row x15.Diners),.sl 5 (List.map Mail.row x15.Mail)] :: .agg [.sl 3 (List.map Diner.row x16.1.Diners),.sl 5 (List.map Mail.row x16.1.Mail)] :: .bv x17 :: .tt :: .iv x14 :: .iv x16.2 :: .bv (decide (x14=x16.2)) :: .bv (decide (x14=x16.2)) :: .tt :: .agg [.sl 3 (List.map Diner.row x1.Diners),.sl 5 (List.map Mail.row x1.Mail)] :: .agg [.sl 3 (List.map Diner.row x18.Diners),.sl 5 (List.map Mail.row x18.Mail)] :: .iv x19 :: .bv (decide (x19=0)) :: .agg [.sl 3 (List.map Diner.row x1.Diners),.sl 5 (List.map Mail.row x1.Mail)] :: .bv x20 :: .bv ((decide (x19=0))==x20) :: .bv ((decide (x19=0))==x20) :: .tt :: .agg [.sl 3 (List.map Diner.row x1.Diners),.sl 5 (List.map Mail.row x1.Mail)] :: .agg [.sl 3 (List.map Diner.row x21.Diners),.sl 5 (List.map Mail.row x21.Mail)] :: .agg [.iv x3.A,.iv x3.B] :: .iv x4 :: .iv x22 :: .agg [.sl 3 (List.map Diner.row x1.Diners),.sl 5 (List.map Mail.row x1.Mail)] :: .agg [.iv x3.A,.iv x3.B] :: .iv x4 :: .iv x23 :: .bv (decide (x22=x23)) :: .bv (decide (x22=x23)) :: .tt :: .agg [.sl 3 (List.map Diner.row x1.Diners),.sl 5 (List.map Mail.row x1.Mail)] :: .agg [.sl 3 (List.map Diner.row x24.Diners),.sl 5 (List.map Mail.row x24.Mail)] :: .iv x5 :: .sl 1 (List.map Z45 x25) :: .agg [.sl 3 (List.map Diner.row x1.Diners),.sl 5 (List.map Mail.row x1.Mail)] :: .iv x5 :: .sl 1 (List.map Z45 x26) :: .bv x27 :: .bv x27 :: .tt :: .agg [.sl 3 (List.map Diner.row x1.Diners),.sl 5 (List.map Mail.row x1.Mail)] :: .agg [.sl 3 (List.map Diner.row x28.Diners),.sl 5 (List.map Mail.row x28.Mail)] :: .agg [.sl 3 (List.map Diner.row x15.Diners),.sl 5 (List.map Mail.row x15.Mail)] :: .agg [.sl 3 (List.map Diner.row x29.Diners),.sl 5 (List.map Mail.row x29.Mail)] :: .bv x30 :: .agg [.sl 3 (List.map Diner.row x1.Diners),.sl 5 (List.map Mail.row x1.Mail)] :: .agg [.sl 3 (List.map Diner.row x15.Diners),.sl 5 (List.map Mail.row x15.Mail)] :: .bv x31 :: .bv (x30==x31) :: .bv (x30==x31)::[]))),[some ⟨25,[.sl 3 (List.map Diner.row x1.Diners),.sl 5 (List.map Mail.row x1.Mail)]⟩,some ⟨27,[.iv ((min ((max x2.K 0)) 2)),.iv x2.A,.iv x2.B]⟩,some ⟨29,[.iv x3.A,.iv x3.B]⟩,some ⟨25,[.sl 3 (List.map Diner.row x15.Diners),.sl 5 (List.map Mail.row x15.Mail)]⟩,some ⟨25,[.sl 3 (List.map Diner.row x16.1.Diners),.sl 5 (List.map Mail.row x16.1.Mail)]⟩],[]⟩:St) (by kernel_rfl) ?_
          refine Zs3 rfl ?_ _;exact Zz4 J3 (s:=x30==x31) h
         ·dsimp only [go_sem]
          refine Zi5 hall hs haf hnap 11 0 [true,true,true,true,true,true,true,true,true,true,true,true,true,true,true,true,true,true,true,true,true,true,true,true,true,true,true,true,true,true,true,true,true,true,true,true,true,true,true,true,true,true,true,true,true,true,true,true,true,true,true] (⟨(an 3 (.iv x4 :: .iv x5 :: .ptr 0 0 :: .ptr 1 0 :: .ptr 2 0 :: .any :: .any :: .ff :: .ptr 3 0 :: .iv x14 :: .ptr 4 0 :: .iv x16.2::an 20 (.tup [.agg [.sl 3 (List.map Diner.row x16.1.Diners),.sl 5 (List.map Mail.row x16.1.Mail)],.iv x16.2] :: .agg [.sl 3 (List.map Diner.row x1.Diners),.sl 5 (List.map Mail.row x1.Mail)] :: .ptr 1 0 :: .iv ((min ((max x2.K 0)) 2)) :: .ptr 1 1 :: .iv x2.A :: .ptr 1 2 :: .iv x2.B :: .tup [.agg [.sl 3 (List.map Diner.row x16.1.Diners),.sl 5 (List.map Mail.row x16.1.Mail)],.iv x16.2] :: .agg [.sl 3 (List.map Diner.row x16.1.Diners),.sl 5 (List.map Mail.row x16.1.Mail)] :: .iv x16.2 :: .agg [.sl 3 (List.map Diner.row x15.Diners),.sl 5 (List.map Mail.row x15.Mail)] :: .agg [.sl 3 (List.map Diner.row x16.1.Diners),.sl 5 (List.map Mail.row x16.1.Mail)] :: .bv x17 :: .tt :: .iv x14 :: .iv x16.2 :: .bv (decide (x14=x16.2)) :: .bv (decide (x14=x16.2)) :: .tt :: .agg [.sl 3 (List.map Diner.row x1.Diners),.sl 5 (List.map Mail.row x1.Mail)] :: .agg [.sl 3 (List.map Diner.row x18.Diners),.sl 5 (List.map Mail.row x18.Mail)] :: .iv x19 :: .bv (decide (x19=0)) :: .agg [.sl 3 (List.map Diner.row x1.Diners),.sl 5 (List.map Mail.row x1.Mail)] :: .bv x20 :: .bv ((decide (x19=0))==x20) :: .bv ((decide (x19=0))==x20) :: .tt :: .agg [.sl 3 (List.map Diner.row x1.Diners),.sl 5 (List.map Mail.row x1.Mail)] :: .agg [.sl 3 (List.map Diner.row x21.Diners),.sl 5 (List.map Mail.row x21.Mail)] :: .agg [.iv x3.A,.iv x3.B] :: .iv x4 :: .iv x22 :: .agg [.sl 3 (List.map Diner.row x1.Diners),.sl 5 (List.map Mail.row x1.Mail)] :: .agg [.iv x3.A,.iv x3.B] :: .iv x4 :: .iv x23 :: .bv (decide (x22=x23)) :: .bv (decide (x22=x23)) :: .tt :: .agg [.sl 3 (List.map Diner.row x1.Diners),.sl 5 (List.map Mail.row x1.Mail)] :: .agg [.sl 3 (List.map Diner.row x24.Diners),.sl 5 (List.map Mail.row x24.Mail)] :: .iv x5 :: .sl 1 (List.map Z45 x25) :: .agg [.sl 3 (List.map Diner.row x1.Diners),.sl 5 (List.map Mail.row x1.Mail)] :: .iv x5 :: .sl 1 (List.map Z45 x26) :: .bv x27 :: .bv x27 :: .ff :: .un :: .un :: .un :: .un :: .un :: .un :: .un :: .un :: .un :: .ff::[]))),[some ⟨25,[.sl 3 (List.map Diner.row x1.Diners),.sl 5 (List.map Mail.row x1.Mail)]⟩,some ⟨27,[.iv ((min ((max x2.K 0)) 2)),.iv x2.A,.iv x2.B]⟩,some ⟨29,[.iv x3.A,.iv x3.B]⟩,some ⟨25,[.sl 3 (List.map Diner.row x15.Diners),.sl 5 (List.map Mail.row x15.Mail)]⟩,some ⟨25,[.sl 3 (List.map Diner.row x16.1.Diners),.sl 5 (List.map Mail.row x16.1.Mail)]⟩],[]⟩:St) (by kernel_rfl) ?_
          refine Zs3 rfl ?_ _;exact Zz4 J3 (s:=false) h
        ·dsimp only [go_sem]
         refine Zi5 hall hs haf hnap 21 0 [true,true,true,true,true,true,true,true,true,true,true,true,true,true,true,true,true,true,true,true,true,true,true,true,true,true,true,true,true,true,true,true,true,true,true,true,true,true,true,true,true,true,true,true,true,true,true,true,true,true,true] (⟨(an 3 (.iv x4 :: .iv x5 :: .ptr 0 0 :: .ptr 1 0 :: .ptr 2 0 :: .any :: .any :: .ff :: .ptr 3 0 :: .iv x14 :: .ptr 4 0 :: .iv x16.2::an 20 (.tup [.agg [.sl 3 (List.map Diner.row x16.1.Diners),.sl 5 (List.map Mail.row x16.1.Mail)],.iv x16.2] :: .agg [.sl 3 (List.map Diner.row x1.Diners),.sl 5 (List.map Mail.row x1.Mail)] :: .ptr 1 0 :: .iv ((min ((max x2.K 0)) 2)) :: .ptr 1 1 :: .iv x2.A :: .ptr 1 2 :: .iv x2.B :: .tup [.agg [.sl 3 (List.map Diner.row x16.1.Diners),.sl 5 (List.map Mail.row x16.1.Mail)],.iv x16.2] :: .agg [.sl 3 (List.map Diner.row x16.1.Diners),.sl 5 (List.map Mail.row x16.1.Mail)] :: .iv x16.2 :: .agg [.sl 3 (List.map Diner.row x15.Diners),.sl 5 (List.map Mail.row x15.Mail)] :: .agg [.sl 3 (List.map Diner.row x16.1.Diners),.sl 5 (List.map Mail.row x16.1.Mail)] :: .bv x17 :: .tt :: .iv x14 :: .iv x16.2 :: .bv (decide (x14=x16.2)) :: .bv (decide (x14=x16.2)) :: .tt :: .agg [.sl 3 (List.map Diner.row x1.Diners),.sl 5 (List.map Mail.row x1.Mail)] :: .agg [.sl 3 (List.map Diner.row x18.Diners),.sl 5 (List.map Mail.row x18.Mail)] :: .iv x19 :: .bv (decide (x19=0)) :: .agg [.sl 3 (List.map Diner.row x1.Diners),.sl 5 (List.map Mail.row x1.Mail)] :: .bv x20 :: .bv ((decide (x19=0))==x20) :: .bv ((decide (x19=0))==x20) :: .tt :: .agg [.sl 3 (List.map Diner.row x1.Diners),.sl 5 (List.map Mail.row x1.Mail)] :: .agg [.sl 3 (List.map Diner.row x21.Diners),.sl 5 (List.map Mail.row x21.Mail)] :: .agg [.iv x3.A,.iv x3.B] :: .iv x4 :: .iv x22 :: .agg [.sl 3 (List.map Diner.row x1.Diners),.sl 5 (List.map Mail.row x1.Mail)] :: .agg [.iv x3.A,.iv x3.B] :: .iv x4 :: .iv x23 :: .bv (decide (x22=x23)) :: .bv (decide (x22=x23)) :: .ff :: .un :: .un :: .un :: .un :: .un :: .un :: .un :: .un :: .ff :: .ff :: .un :: .un :: .un :: .un :: .un :: .un :: .un :: .un :: .un :: .ff::[]))),[some ⟨25,[.sl 3 (List.map Diner.row x1.Diners),.sl 5 (List.map Mail.row x1.Mail)]⟩,some ⟨27,[.iv ((min ((max x2.K 0)) 2)),.iv x2.A,.iv x2.B]⟩,some ⟨29,[.iv x3.A,.iv x3.B]⟩,some ⟨25,[.sl 3 (List.map Diner.row x15.Diners),.sl 5 (List.map Mail.row x15.Mail)]⟩,some ⟨25,[.sl 3 (List.map Diner.row x16.1.Diners),.sl 5 (List.map Mail.row x16.1.Mail)]⟩],[]⟩:St) (by kernel_rfl) ?_
         refine Zs3 rfl ?_ _;exact Zz4 J3 (s:=false) h
       ·dsimp only [go_sem]
        refine Zi5 hall hs haf hnap 33 0 [true,true,true,true,true,true,true,true,true,true,true,true,true,true,true,true,true,true,true,true,true,true,true,true,true,true,true,true,true,true,true,true,true,true,true,true,true,true,true,true,true,true,true,true,true,true,true,true,true,true,true] (⟨(an 3 (.iv x4 :: .iv x5 :: .ptr 0 0 :: .ptr 1 0 :: .ptr 2 0 :: .any :: .any :: .ff :: .ptr 3 0 :: .iv x14 :: .ptr 4 0 :: .iv x16.2::an 20 (.tup [.agg [.sl 3 (List.map Diner.row x16.1.Diners),.sl 5 (List.map Mail.row x16.1.Mail)],.iv x16.2] :: .agg [.sl 3 (List.map Diner.row x1.Diners),.sl 5 (List.map Mail.row x1.Mail)] :: .ptr 1 0 :: .iv ((min ((max x2.K 0)) 2)) :: .ptr 1 1 :: .iv x2.A :: .ptr 1 2 :: .iv x2.B :: .tup [.agg [.sl 3 (List.map Diner.row x16.1.Diners),.sl 5 (List.map Mail.row x16.1.Mail)],.iv x16.2] :: .agg [.sl 3 (List.map Diner.row x16.1.Diners),.sl 5 (List.map Mail.row x16.1.Mail)] :: .iv x16.2 :: .agg [.sl 3 (List.map Diner.row x15.Diners),.sl 5 (List.map Mail.row x15.Mail)] :: .agg [.sl 3 (List.map Diner.row x16.1.Diners),.sl 5 (List.map Mail.row x16.1.Mail)] :: .bv x17 :: .tt :: .iv x14 :: .iv x16.2 :: .bv (decide (x14=x16.2)) :: .bv (decide (x14=x16.2)) :: .tt :: .agg [.sl 3 (List.map Diner.row x1.Diners),.sl 5 (List.map Mail.row x1.Mail)] :: .agg [.sl 3 (List.map Diner.row x18.Diners),.sl 5 (List.map Mail.row x18.Mail)] :: .iv x19 :: .bv (decide (x19=0)) :: .agg [.sl 3 (List.map Diner.row x1.Diners),.sl 5 (List.map Mail.row x1.Mail)] :: .bv x20 :: .bv ((decide (x19=0))==x20) :: .bv ((decide (x19=0))==x20) :: .ff :: .un :: .un :: .un :: .un :: .un :: .un :: .un :: .un :: .un :: .un :: .ff :: .ff :: .un :: .un :: .un :: .un :: .un :: .un :: .un :: .un :: .ff :: .ff :: .un :: .un :: .un :: .un :: .un :: .un :: .un :: .un :: .un :: .ff::[]))),[some ⟨25,[.sl 3 (List.map Diner.row x1.Diners),.sl 5 (List.map Mail.row x1.Mail)]⟩,some ⟨27,[.iv ((min ((max x2.K 0)) 2)),.iv x2.A,.iv x2.B]⟩,some ⟨29,[.iv x3.A,.iv x3.B]⟩,some ⟨25,[.sl 3 (List.map Diner.row x15.Diners),.sl 5 (List.map Mail.row x15.Mail)]⟩,some ⟨25,[.sl 3 (List.map Diner.row x16.1.Diners),.sl 5 (List.map Mail.row x16.1.Mail)]⟩],[]⟩:St) (by kernel_rfl) ?_
        refine Zs3 rfl ?_ _;exact Zz4 J3 (s:=false) h
      ·dsimp only [go_sem]
       refine Zi5 hall hs haf hnap 42 0 [true,true,true,true,true,true,true,true,true,true,true,true,true,true,true,true,true,true,true,true,true,true,true,true,true,true,true,true,true,true,true,true,true,true,true,true,true,true,true,true,true,true,true,true,true,true,true,true,true,true,true] (⟨(an 3 (.iv x4 :: .iv x5 :: .ptr 0 0 :: .ptr 1 0 :: .ptr 2 0 :: .any :: .any :: .ff :: .ptr 3 0 :: .iv x14 :: .ptr 4 0 :: .iv x16.2::an 20 (.tup [.agg [.sl 3 (List.map Diner.row x16.1.Diners),.sl 5 (List.map Mail.row x16.1.Mail)],.iv x16.2] :: .agg [.sl 3 (List.map Diner.row x1.Diners),.sl 5 (List.map Mail.row x1.Mail)] :: .ptr 1 0 :: .iv ((min ((max x2.K 0)) 2)) :: .ptr 1 1 :: .iv x2.A :: .ptr 1 2 :: .iv x2.B :: .tup [.agg [.sl 3 (List.map Diner.row x16.1.Diners),.sl 5 (List.map Mail.row x16.1.Mail)],.iv x16.2] :: .agg [.sl 3 (List.map Diner.row x16.1.Diners),.sl 5 (List.map Mail.row x16.1.Mail)] :: .iv x16.2 :: .agg [.sl 3 (List.map Diner.row x15.Diners),.sl 5 (List.map Mail.row x15.Mail)] :: .agg [.sl 3 (List.map Diner.row x16.1.Diners),.sl 5 (List.map Mail.row x16.1.Mail)] :: .bv x17 :: .tt :: .iv x14 :: .iv x16.2 :: .bv (decide (x14=x16.2)) :: .bv (decide (x14=x16.2)) :: .ff :: .un :: .un :: .un :: .un :: .un :: .un :: .un :: .ff :: .ff :: .un :: .un :: .un :: .un :: .un :: .un :: .un :: .un :: .un :: .un :: .ff :: .ff :: .un :: .un :: .un :: .un :: .un :: .un :: .un :: .un :: .ff :: .ff :: .un :: .un :: .un :: .un :: .un :: .un :: .un :: .un :: .un :: .ff::[]))),[some ⟨25,[.sl 3 (List.map Diner.row x1.Diners),.sl 5 (List.map Mail.row x1.Mail)]⟩,some ⟨27,[.iv ((min ((max x2.K 0)) 2)),.iv x2.A,.iv x2.B]⟩,some ⟨29,[.iv x3.A,.iv x3.B]⟩,some ⟨25,[.sl 3 (List.map Diner.row x15.Diners),.sl 5 (List.map Mail.row x15.Mail)]⟩,some ⟨25,[.sl 3 (List.map Diner.row x16.1.Diners),.sl 5 (List.map Mail.row x16.1.Mail)]⟩],[]⟩:St) (by kernel_rfl) ?_
       refine Zs3 rfl ?_ _;exact Zz4 J3 (s:=false) h
     ·dsimp only [go_sem]
      refine Zi5 hall hs haf hnap 47 0 [true,true,true,true,true,true,true,true,true,true,true,true,true,true,true,true,true,true,true,true,true,true,true,true,true,true,true,true,true,true,true,true,true,true,true,true,true,true,true,true,true,true,true,true,true,true,true,true,true,true,true] (⟨(an 3 (.iv x4 :: .iv x5 :: .ptr 0 0 :: .ptr 1 0 :: .ptr 2 0 :: .any :: .any :: .ff :: .ptr 3 0 :: .iv x14 :: .ptr 4 0 :: .iv x16.2::an 20 (.tup [.agg [.sl 3 (List.map Diner.row x16.1.Diners),.sl 5 (List.map Mail.row x16.1.Mail)],.iv x16.2] :: .agg [.sl 3 (List.map Diner.row x1.Diners),.sl 5 (List.map Mail.row x1.Mail)] :: .ptr 1 0 :: .iv ((min ((max x2.K 0)) 2)) :: .ptr 1 1 :: .iv x2.A :: .ptr 1 2 :: .iv x2.B :: .tup [.agg [.sl 3 (List.map Diner.row x16.1.Diners),.sl 5 (List.map Mail.row x16.1.Mail)],.iv x16.2] :: .agg [.sl 3 (List.map Diner.row x16.1.Diners),.sl 5 (List.map Mail.row x16.1.Mail)] :: .iv x16.2 :: .agg [.sl 3 (List.map Diner.row x15.Diners),.sl 5 (List.map Mail.row x15.Mail)] :: .agg [.sl 3 (List.map Diner.row x16.1.Diners),.sl 5 (List.map Mail.row x16.1.Mail)] :: .bv x17 :: .ff :: .un :: .un :: .un :: .ff :: .ff :: .un :: .un :: .un :: .un :: .un :: .un :: .un :: .ff :: .ff :: .un :: .un :: .un :: .un :: .un :: .un :: .un :: .un :: .un :: .un :: .ff :: .ff :: .un :: .un :: .un :: .un :: .un :: .un :: .un :: .un :: .ff :: .ff :: .un :: .un :: .un :: .un :: .un :: .un :: .un :: .un :: .un :: .ff::[]))),[some ⟨25,[.sl 3 (List.map Diner.row x1.Diners),.sl 5 (List.map Mail.row x1.Mail)]⟩,some ⟨27,[.iv ((min ((max x2.K 0)) 2)),.iv x2.A,.iv x2.B]⟩,some ⟨29,[.iv x3.A,.iv x3.B]⟩,some ⟨25,[.sl 3 (List.map Diner.row x15.Diners),.sl 5 (List.map Mail.row x15.Mail)]⟩,some ⟨25,[.sl 3 (List.map Diner.row x16.1.Diners),.sl 5 (List.map Mail.row x16.1.Mail)]⟩],[]⟩:St) (by kernel_rfl) ?_
      refine Zs3 rfl ?_ _;exact Zz4 J3 (s:=false) h
   ·refine Zh3 (by kernel_rfl) fun all hall hs hnap haf=>?_;dsimp only [go_sem];refine Zh5 hall hs haf hnap 2 8 ?_;dsimp only [go_sem];refine ⟨by simp,?_⟩;obtain ⟨x10,ex10,h⟩:=Option.bind_eq_some_iff.1 h;refine Zu3 1 7 rfl ?_ ?_
    ·refine Zz3 hall rfl trivial (Zug x1 _ ex10) (h:=?_);dsimp only [go_sem];obtain ⟨x12,ex12,h⟩:=Option.bind_eq_some_iff.1 h;refine Zu3 3 7 rfl ?_ ?_
     ·refine Zz3 hall rfl trivial (Zrg x10 ((narthexlaw14_Act.mk ((min ((max x2.K 0)) 2)) x2.A x2.B)) _ ex12) (h:=?_);dsimp only [go_sem];refine Zh5 hall hs haf hnap 3 3 ?_;dsimp only [go_sem];refine ⟨by simp,?_⟩;refine Zt3 7 rfl ?_;refine Zy3 hall rfl trivial ?_;dsimp only [go_sem];refine Zt3 8 rfl ?_;refine Zy3 hall rfl trivial ?_;dsimp only [go_sem];refine Zh5 hall hs haf hnap 1 0 ?_;dsimp only [go_sem];refine ⟨by simp,?_⟩;refine Zs3 rfl ?_ _;exact Zz4 J2 (s:=(x12.2,x12.1)) h
     ·refine Zy3 hall rfl trivial ?_;dsimp only [go_sem];refine Zt3 3 rfl ?_;refine Zz3 hall rfl trivial (Zrg x10 ((narthexlaw14_Act.mk ((min ((max x2.K 0)) 2)) x2.A x2.B)) _ ex12) (h:=?_);dsimp only [go_sem];refine Zh5 hall hs haf hnap 3 2 ?_;dsimp only [go_sem];refine ⟨by simp,?_⟩;refine Zt3 8 rfl ?_;refine Zy3 hall rfl trivial ?_;dsimp only [go_sem];refine Zh5 hall hs haf hnap 1 0 ?_;dsimp only [go_sem];refine ⟨by simp,?_⟩;refine Zs3 rfl ?_ _;exact Zz4 J2 (s:=(x12.2,x12.1)) h
    ·refine Zy3 hall rfl trivial ?_;dsimp only [go_sem];refine Zt3 1 rfl ?_;refine Zz3 hall rfl trivial (Zug x1 _ ex10) (h:=?_);dsimp only [go_sem];refine Zt3 3 rfl ?_;obtain ⟨x12,ex12,h⟩:=Option.bind_eq_some_iff.1 h;refine Zz3 hall rfl trivial (Zrg x10 ((narthexlaw14_Act.mk ((min ((max x2.K 0)) 2)) x2.A x2.B)) _ ex12) (h:=?_);dsimp only [go_sem];refine Zh5 hall hs haf hnap 3 2 ?_;dsimp only [go_sem];refine ⟨by simp,?_⟩;refine Zt3 8 rfl ?_;refine Zy3 hall rfl trivial ?_;dsimp only [go_sem]
     refine Zh5 hall hs haf hnap 1 0 ?_;dsimp only [go_sem];refine ⟨by simp,?_⟩;refine Zs3 rfl ?_ _;exact Zz4 J2 (s:=(x12.2,x12.1)) h
 ·refine Zw4 17 h rfl (fun _ h=>?_) fun _ h=>?_
  ·dsimp only [go_sem];refine Zl2 5 ?_;dsimp only [e3,go_sem];refine ⟨by simp,?_⟩;exact Zz4 J1 (s:=true) h
  ·dsimp only [go_sem];refine Zl2 1 ?_;dsimp only [e3,go_sem];refine ⟨by simp,?_⟩;obtain ⟨x7,ex7,h⟩:=Option.bind_eq_some_iff.1 h;refine Zz2 trivial (k_narthexref12_Few x1 _ ex7) (h:=?_);refine Zl2 3 ?_;dsimp only [e3,go_sem];refine ⟨by simp,?_⟩;exact Zz4 J1 (s:=!x7) h
theorem s_r01Same (l m:List Int) (hl:l.length≤1000000):Zpn l m=some (decide (l=m)):=by
 simp only [Zpn,Zc9]
 by_cases h:l.length=m.length
 ·simp only [h,decide_true,Bool.not_true,Zl5]
  rw [Z99 l m _ (fun x y=>decide (x=y)) h (by omega) (fun k x y hx hy=>by
   simp only [Zon,Zq5 hx,Zk5,Zo5 hx,Zo5 hy,Option.bind_some,Zt5 hx (show l.length≤4000000000000000000 by omega),Zm5,Option.map_some]
   cases decide (x=y)<;>rfl) (by simp only [Zon,Zr5,Zl5,Znn,Option.map_some]),Za9 l m h]
 ·simp [h,Zb9 h]
theorem Zwn:Zd9 Z6h.Diners:=⟨by simp [Z6h],by simp [Z6h]⟩
theorem actP_few {s:Scene} (hD:Zd9 s.Diners) (a:Int) (r:Diner×Int):Zd9 (actP s a r).1.Diners:=by
 unfold actP
 split
 ·split
  ·rename_i h
   refine ⟨by simpa [actS] using hD.1,fun d hd=>?_⟩
   obtain ⟨x,hx,rfl⟩:=List.mem_map.1 hd
   split
   ·have:=okD_fireD h;omega
   ·exact hD.2 x hx
  ·exact Zwn
 ·exact Zwn
theorem turnS_few {s:Scene} (hD:Zd9 s.Diners) (a:Int) (q:Diner→Diner×Int):Zd9 (Z9h s a q).1.Diners:=by
 unfold Z9h
 split
 ·split
  ·split
   ·exact actP_few hD _ _
   ·exact Zwn
  ·exact Zwn
 ·exact Zwn
theorem delivS_few {s:Scene} (hD:Zd9 s.Diners) (a b:Int):Zd9 (Zch s a b).1.Diners:=by
 unfold Zch
 split
 ·split
  ·split
   ·exact Zwn
   ·split
    ·refine @actP_few _ ?_ _ _
     exact hD
    ·exact Zwn
  ·exact Zwn
 ·exact Zwn
theorem actA_few {s:Scene} (hD:Zd9 s.Diners) (k a b:Int):Zd9 (Zeh s k a b).1.Diners:=by
 unfold Zeh
 split
 ·exact turnS_few hD _ _
 ·split
  ·exact turnS_few hD _ _
  ·exact delivS_few hD _ _
theorem Zxn (s:Scene) (c:narthexlaw14_Act) (e:Edge) (kd p:Int):Zun s c e kd p=some true:=by
 obtain ⟨k0,a,b⟩:=c
 have yes:Ztn s ⟨k0,a,b⟩ e kd p true=some true:=by
  simp only [Ztn,Zk5,s_awake14,Option.bind_some]
 simp only [Zun,s_awake14,Option.bind_some,Bool.not_true,Zl5,s_Few]
 cases hf:fewB s with
 | false=>exact yes
 | true=>
   have hD:=Zg9 hf
   obtain ⟨f1,f2,f3⟩:=fewB_iff hf
   simp only [Bool.not_true,Ztn,Zl5,s_own14 s hD (by omega),Option.bind_some,s_act14 s _ a b hD (by omega)]
   generalize hk:min (max k0 0) 2=k
   have hk3:k=0∨k=1∨k=2:=by omega
   have hX:=actA_few hD k a b
   have hXM:(Zeh s k a b).1.Mail.length≤900000:=by
    by_cases h0:(Zeh s k a b).2=0
    ·have:=actA_mail h0;omega
    ·rw [actA_none hk3 h0];simp [Z6h]
   simp only [Zsn,hk,s_Step s k a b hk3 hD (by omega),Option.bind_some,s_Same14 _ _ hX hXM,decide_true,Zk5,s_own14 s hD (by omega),s_own14 _ hX hXM,s_tCheck s hD (by omega),Zkn s hD (by omega),s_Count s e kd hD (by omega),s_r14Count s e kd hD (by omega),
    s_Phases s p hD,s_r14Phases s p hD,s_r01Same _ _ (show (Z0k s.Diners p).length≤1000000 by have:=phasesL_len s.Diners p;omega),s_tSame s _ hD (by omega),s_Same14 s _ hD (by omega),Zrn]
   cases okS s<;>simp
end NX
end Go.Proofs.YtadebhbiglmodaaGreat
