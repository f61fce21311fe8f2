/-
  The symbolic machine: structs compared. No statement of the seat is proved here.
-/
import Derived.Laws.StructEq
import Derived.Test.YtdjkbodnjhgbcaaGreatP1
namespace Go.Proofs.YtdjkbodnjhgbcaaGreat
namespace NX
open Go Go.RowKit
section
variable {P:Program} {w:World}
theorem aggN_one {T:TypeId} (h:Z4 P T=some none):(isAgg T).run P w = .ok false w:=by
 unfold Z4 at h
 split at h<;>simp at h
 rename_i d i hu hi h6 h8
 simp only [isAgg,Sem.run_bind,run_underlying h6,Result.andThen_ok]
 cases d<;>first | rfl | (exact absurd rfl (hu _)) | (exact absurd rfl (hi _ _))
theorem Z42 {T:TypeId} {n:Nat} (h:Z4 P T=some (some n)):(isAgg T).run P w = .ok true w∧(sizeOf T).run P w = .ok n w:=by
 unfold Z4 at h
 split at h<;>simp at h
 ·rename_i i hu hi
  subst h
  simp [isAgg,run_underlying hu,sizeOf,typeInfo,hi]
 ·rename_i i hu hi
  subst h
  simp [isAgg,run_underlying hu,sizeOf,typeInfo,hi]
theorem Z52 {T:TypeId} {n:Nat} (h:Z6 P T=some n):(sizeOf T).run P w = .ok n w:=by
 unfold Z6 at h
 cases hi:P.info? T with
 | none=>simp [hi] at h
 | some i=>simp [hi] at h;subst h;simp [sizeOf,typeInfo,hi]
end
def okLeaf:Bool→Value→Prop
 | true,v=>∃n,v = .int .i64 n
 | false,v=>∃b,v = .bool b
def Z62:List Bool→List Value→Prop
 | [],vs=>vs=[]
 | k::ks,vs=>∃v r,vs=v::r∧okLeaf k v∧Z62 ks r
def vEq:Value→Value→Bool
 | .int _ a,.int _ b=>a==b
 | .bool a,.bool b=>a==b
 | _,_=>false
def Z72:List Value→List Value→Bool
 | x::l,y::r=>vEq x y&&Z72 l r
 | _,_=>true
theorem Z82:∀ {ks:List Bool} {vs:List Value},Z62 ks vs→vs.length=ks.length
 | [],_,h=>by simp [Z62] at h;simp [h]
 | _::_,_,⟨v,r,h0,_,h⟩=>by subst h0;simp [Z82 h]
theorem Z92:∀ {a b:List Bool} {vs:List Value},Z62 (a++b) vs→Z62 a (vs.take a.length)∧Z62 b (vs.drop a.length)
 | [],b,vs,h=>by simpa [Z62] using h
 | _::a,b,_,⟨v,r,h0,h1,h⟩=>by
   subst h0
   obtain ⟨g1,g2⟩:=Z92 h
   exact ⟨⟨v,r.take a.length,by simp,h1,g1⟩,by simpa using g2⟩
theorem Za2:∀(n:Nat) (x y:List Value),x.length=y.length→Z72 x y=(Z72 (x.take n) (y.take n)&&Z72 (x.drop n) (y.drop n))
 | 0,x,y,_=>by simp [Z72]
 | n+1,[],[],_=>by simp [Z72]
 | n+1,[],_::_,h=>by simp at h
 | n+1,_::_,[],h=>by simp at h
 | n+1,x::l,y::r,h=>by simp [Z72,Za2 n l r (by simpa using h),Bool.and_assoc]
theorem Zb2 {P:Program} {w:World} {D:Nat} {g:TypeId→Option (List Bool)}
  (hg:∀T ks,g T=some ks→∀(xs ys:List Value),Z62 ks xs→Z62 ks ys→∀(A B:List Value) (o:Nat),(A.drop o).take ks.length=xs→(B.drop o).take ks.length=ys→
    ∃u v,(part T A.toArray o).run P w = .ok u w∧(part T B.toArray o).run P w = .ok v w∧(Op.equalIn D T u v).run P w = .ok (Z72 xs ys) w):
  ∀(fs:List Field) (off:Nat) (ks:List Bool),Z8 g fs off=some ks→∀(A B:List Value),Z62 ks (A.drop off)→Z62 ks (B.drop off)→
   (Op.eqFields D A.toArray B.toArray fs).run P w = .ok (Z72 (A.drop off) (B.drop off)) w
 | [],off,ks,h,A,B,hA,hB=>by
   simp [Z8] at h;subst h
   simp [Z62] at hA hB
   have e1:A.drop off=[]:=by simpa using hA
   have e2:B.drop off=[]:=by simpa using hB
   simp [Op.eqFields,e1,e2,Z72]
 | f::fs,off,ks,h,A,B,hA,hB=>by
   simp only [Z8] at h
   split at h
   ·rename_i hf
    split at h
    ·rename_i l hl
     simp only [Option.map_eq_some_iff] at h
     obtain ⟨r,hr,rfl⟩:=h
     obtain ⟨a1,a2⟩:=Z92 hA
     obtain ⟨b1,b2⟩:=Z92 hB
     obtain ⟨u,v,r1,r2,r3⟩:=hg f.type l hl _ _ a1 b1 A B off rfl rfl
     rw [List.drop_drop] at a2 b2
     have ih:=Zb2 hg fs (off+l.length) r hr A B a2 b2
     have h6:(A.drop off).length=(B.drop off).length:=by rw [Z82 hA,Z82 hB]
     rw [Za2 l.length _ _ h6,List.drop_drop,List.drop_drop]
     have h8:f.name≠"_":=hf.1
     simp only [Op.eqFields,h8,ne_eq,not_false_eq_true,if_true,Sem.run_bind,hf.2,r1,r2,r3,Result.andThen_ok]
     cases Z72 (List.take l.length (A.drop off)) (List.take l.length (B.drop off))
     ·simp
     ·simpa using ih
    ·simp at h
   ·simp at h
theorem leafs_run {P:Program} {w:World}:∀(d D:Nat),d≤D→∀T ks,Z9 P d T=some ks→∀(xs ys:List Value),Z62 ks xs→Z62 ks ys→∀(A B:List Value) (o:Nat),(A.drop o).take ks.length=xs→(B.drop o).take ks.length=ys→
   ∃u v,(part T A.toArray o).run P w = .ok u w∧(part T B.toArray o).run P w = .ok v w∧(Op.equalIn D T u v).run P w = .ok (Z72 xs ys) w
 | 0,_,_,T,ks,h=>by simp [Z9] at h
 | d+1,0,hd,_,_,_=>by omega
 | d+1,D+1,hd,T,ks,h=>by
   intro xs ys hx hy A B o hA hB
   simp only [Z9] at h
   have one:∀(C:List Value) (z:Value),(C.drop o).take 1=[z]→C[o]?=some z:=by
    intro C z hz
    have:=congrArg (·[0]?) hz
    simpa using this
   split at h
   ·rename_i k hu
    simp at h;subst h
    obtain ⟨x,r,rfl,⟨n,rfl⟩,hr⟩:=hx
    obtain ⟨y,r',rfl,⟨m,rfl⟩,hr'⟩:=hy
    simp [Z62] at hr hr';subst hr;subst hr'
    have ha:(isAgg T).run P w = .ok false w:=by simp [isAgg,run_underlying hu]
    refine ⟨.int .i64 n,.int .i64 m,?_,?_,?_⟩
    ·simp [part,ha,one A _ hA]
    ·simp [part,ha,one B _ hB]
    ·rw [run_equalIn_int w D T .i64 k n m hu];simp [Z72,vEq]
   ·rename_i hu
    simp at h;subst h
    obtain ⟨x,r,rfl,⟨n,rfl⟩,hr⟩:=hx
    obtain ⟨y,r',rfl,⟨m,rfl⟩,hr'⟩:=hy
    simp [Z62] at hr hr';subst hr;subst hr'
    have ha:(isAgg T).run P w = .ok false w:=by simp [isAgg,run_underlying hu]
    refine ⟨.bool n,.bool m,?_,?_,?_⟩
    ·simp [part,ha,one A _ hA]
    ·simp [part,ha,one B _ hB]
    ·rw [run_equalIn_bool' w D T n m hu];simp [Z72,vEq]
   ·rename_i fs hu
    split at h
    ·rename_i hs
     have h8:P.fieldsOf T=fs:=by simp [Program.fieldsOf,hu]
     have hu':P.underlying T=some (.struct (P.fieldsOf T)):=by rw [h8];exact hu
     split at h
     ·rename_i l hl
      split at h<;>simp at h
      rename_i hn
      subst h
      have h6:(isAgg T).run P w = .ok true w:=by simp [isAgg,run_underlying hu]
      have h9:=Z52 (P:=P) (w:=w) (T:=T) (n:=l.length) (by simpa using hn)
      have hc:=Z82 hx
      have he:=Z82 hy
      refine ⟨.agg xs.toArray,.agg ys.toArray,?_,?_,?_⟩
      ·simp [part,h6,h9];rw [←hA]
      ·simp [part,h6,h9];rw [←hB]
      ·rw [run_equalIn_struct w D T _ _ hu' hs,h8]
       exact Zb2 (fun T ks hk=>leafs_run d D (by omega) T ks hk) fs.toList 0 l hl xs ys (by simpa using hx) (by simpa using hy)
     ·simp at h
    ·simp at h
   ·simp at h
theorem leafs_agg {P:Program} {w:World} {d D:Nat} (hd:d≤D) {T:TypeId} {fs:Array Field} {ks:List Bool} (hu:P.underlying T=some (.struct fs)) (h:Z9 P d T=some ks)
  {xs ys:List Value} (hx:Z62 ks xs) (hy:Z62 ks ys):(Op.equalIn D T (.agg xs.toArray) (.agg ys.toArray)).run P w = .ok (Z72 xs ys) w:=by
 have h8:=Z82 hx
 have h9:=Z82 hy
 obtain ⟨u,v,h1,h2,h3⟩:=leafs_run (P:=P) (w:=w) d D hd T ks h xs ys hx hy xs ys 0 (by simp [←h8]) (by simp [←h9])
 have h6:(isAgg T).run P w = .ok true w:=by simp [isAgg,run_underlying hu]
 have hn:Z6 P T=some ks.length:=by
  cases d with
  | zero=>simp [Z9] at h
  | succ d=>
    simp only [Z9,hu] at h
    split at h
    ·split at h
     ·split at h<;>simp at h
      subst h;assumption
     ·simp at h
    ·simp at h
 have hc:=Z52 (P:=P) (w:=w) (T:=T) (n:=ks.length) (by simpa using hn)
 simp [part,h6,hc] at h1
 simp [part,h6,hc] at h2
 rw [←h8,List.take_length] at h1
 rw [←h9,List.take_length] at h2
 rw [h1,h2];exact h3
theorem eqLeaf_is {M:Mem} {k:Bool} {x y:AV} {e:Bool} {u v:Value} (h:eqLeaf k x y=some e) (hx:AV.is M x u) (hy:AV.is M y v):okLeaf k u∧okLeaf k v∧vEq u v=e:=by
 cases k<;>simp only [eqLeaf] at h<;>split at h<;>simp at h
 ·rename_i a b h1 h2
  have f:∀ {x:AV} {a:Bool} {u:Value},Zt x=some a→AV.is M x u→u = .bool a:=by
   intro x a u h hx
   cases x<;>simp [Zt] at h<;>subst h<;>simpa [AV.is] using hx
  rw [f h1 hx,f h2 hy]
  exact ⟨⟨_,rfl⟩,⟨_,rfl⟩,by simp [vEq,h]⟩
 ·rename_i a b h1 h2
  have f:∀ {x:AV} {a:Int} {u:Value},intA x=some a→AV.is M x u→u = .int .i64 a:=by
   intro x a u h hx
   cases x<;>simp [intA] at h;subst h;simpa [AV.is] using hx
  rw [f h1 hx,f h2 hy]
  refine ⟨⟨_,rfl⟩,⟨_,rfl⟩,?_⟩
  rw [←h];simp only [vEq];exact Bool.eq_iff_iff.mpr (by simp)
theorem eqA_is {M:Mem}:∀ {ks:List Bool} {l r:List AV} {e:Bool} {us vs:List Value},eqA ks l r=some e→AV.isL M l us→AV.isL M r vs→Z62 ks us∧Z62 ks vs∧Z72 us vs=e
 | [],l,r,e,us,vs,h,hx,hy=>by
   simp only [eqA] at h
   split at h<;>simp at h
   simp [AV.isL] at hx hy
   simp [hx,hy,Z62,Z72,←h]
 | k::ks,l,r,e,us,vs,h,hx,hy=>by
   simp only [eqA] at h
   split at h
   ·split at h<;>simp at h
    rename_i h1 h2
    obtain ⟨u,us,rfl,hu,hx⟩:=hx
    obtain ⟨v,vs,rfl,hv,hy⟩:=hy
    obtain ⟨a1,a2,a3⟩:=eqLeaf_is h1 hu hv
    obtain ⟨b1,b2,b3⟩:=eqA_is h2 hx hy
    exact ⟨⟨_,_,rfl,a1,b1⟩,⟨_,_,rfl,a2,b2⟩,by simp [Z72,a3,b3,h]⟩
   ·simp at h
theorem eqs_run {P:Program} {w:World} {ng:Bool} {T:TypeId} {fs:Array Field} {ks:List Bool} (hu:P.underlying T=some (.struct fs)) (h:Z9 P 8 T=some ks)
  {xs ys:List Value} (hx:Z62 ks xs) (hy:Z62 ks ys) {op:BinOp} (ho:op=(if ng then .neq else .eql)):(binOp op T (.agg xs.toArray) (.agg ys.toArray)).run P w = .ok (.bool (ngB ng (Z72 xs ys))) w:=by
 subst ho
 cases ng
 ·simp [run_eql_struct,leafs_agg (D:=10000) (by omega) hu h hx hy,ngB]
 ·simp [run_neq_struct,leafs_agg (D:=10000) (by omega) hu h hx hy,ngB]
end NX
end Go.Proofs.YtdjkbodnjhgbcaaGreat
