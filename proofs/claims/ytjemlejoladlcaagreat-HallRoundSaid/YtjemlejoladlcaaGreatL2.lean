/-
  The symbolic machine: structs compared. No statement of the seat is proved here.
-/
import Derived.Laws.StructEq
import Derived.Test.YtjemlejoladlcaaGreatL1
namespace Go.Proofs.YtjemlejoladlcaaGreat
namespace NX
open Go Go.RowKit
section
variable {P:Program} {w:World}
theorem fo {T:TypeId} (h:Ez P T=some none):(isAgg T).run P w = .ok false w:=by unfold Ez at h;split at h<;>simp at h;rename_i d i hu hi h6 h8;simp only [isAgg,Sem.run_bind,run_underlying h6,Result.andThen_ok];cases d<;>first | rfl | (exact absurd rfl (hu _)) | (exact absurd rfl (hi _ _))
theorem UC {T:TypeId} {n:Nat} (h:Ez P T=some (some n)):(isAgg T).run P w = .ok true w∧(sizeOf T).run P w = .ok n w:=by
 unfold Ez at h;split at h<;>simp at h
 ·rename_i i hu hi;subst h;simp [isAgg,run_underlying hu,sizeOf,typeInfo,hi]
 ·rename_i i hu hi;subst h;simp [isAgg,run_underlying hu,sizeOf,typeInfo,hi]
theorem Fi {T:TypeId} {n:Nat} (h:C9 P T=some n):(sizeOf T).run P w = .ok n w:=by
 unfold C9 at h;cases hi:P.info? T with
 | none=>simp [hi] at h
 | some i=>simp [hi] at h;subst h;simp [sizeOf,typeInfo,hi]
end
def cS:Bool→Value→Prop
 | true,v=>∃n,v = .int .i64 n
 | false,v=>∃b,v = .bool b
def D8:List Bool→List Value→Prop
 | [],vs=>vs=[]
 | k::ks,vs=>∃v r,vs=v::r∧cS k v∧D8 ks r
def Po:Value→Value→Bool
 | .int _ a,.int _ b=>a==b
 | .bool a,.bool b=>a==b
 | _,_=>false
def DF:List Value→List Value→Bool
 | x::l,y::r=>Po x y&&DF l r
 | _,_=>true
theorem Lu:∀ {ks:List Bool} {vs:List Value},D8 ks vs→vs.length=ks.length
 | [],_,h=>by simp [D8] at h;simp [h]
 | _::_,_,⟨v,r,h0,_,h⟩=>by subst h0;simp [Lu h]
theorem cU:∀ {a b:List Bool} {vs:List Value},D8 (a++b) vs→D8 a (vs.take a.length)∧D8 b (vs.drop a.length)
 | [],b,vs,h=>by simpa [D8] using h
 | _::a,b,_,⟨v,r,h0,h1,h⟩=>by subst h0;obtain ⟨g1,g2⟩:=cU h;exact ⟨⟨v,r.take a.length,by simp,h1,g1⟩,by simpa using g2⟩
theorem fq:∀(n:Nat) (x y:List Value),x.length=y.length→DF x y=(DF (x.take n) (y.take n)&&DF (x.drop n) (y.drop n))
 | 0,x,y,_=>by simp [DF]
 | n+1,[],[],_=>by simp [DF]
 | n+1,[],_::_,h=>by simp at h
 | n+1,_::_,[],h=>by simp at h
 | n+1,x::l,y::r,h=>by simp [DF,fq n l r (by simpa using h),Bool.and_assoc]
theorem je {P:Program} {w:World} {D:Nat} {g:TypeId→Option (List Bool)}
  (hg:∀T ks,g T=some ks→∀(xs J:List Value),D8 ks xs→D8 ks J→∀(A B:List Value) (o:Nat),(A.drop o).take ks.length=xs→(B.drop o).take ks.length=J→
    ∃u v,(part T A.toArray o).run P w = .ok u w∧(part T B.toArray o).run P w = .ok v w∧(Op.equalIn D T u v).run P w = .ok (DF xs J) w):
  ∀(E:List Field) (off:Nat) (ks:List Bool),Q2 g E off=some ks→∀(A B:List Value),D8 ks (A.drop off)→D8 ks (B.drop off)→
   (Op.eqFields D A.toArray B.toArray E).run P w = .ok (DF (A.drop off) (B.drop off)) w
 | [],off,ks,h,A,B,hA,hB=>by
   simp [Q2] at h;subst h;simp [D8] at hA hB;have e1:A.drop off=[]:=by simpa using hA
   have e2:B.drop off=[]:=by simpa using hB
   simp [Op.eqFields,e1,e2,DF]
 | f::E,off,ks,h,A,B,hA,hB=>by
   simp only [Q2] at h;split at h
   ·rename_i hf;split at h
    ·rename_i l hl;simp only [Option.map_eq_some_iff] at h;obtain ⟨r,hr,rfl⟩:=h;obtain ⟨a1,a2⟩:=cU hA;obtain ⟨b1,b2⟩:=cU hB;obtain ⟨u,v,r1,r2,r3⟩:=hg f.type l hl _ _ a1 b1 A B off rfl rfl;rw [List.drop_drop] at a2 b2;have ih:=je hg E (off+l.length) r hr A B a2 b2;have h6:(A.drop off).length=(B.drop off).length:=by rw [Lu hA,Lu hB]
     rw [fq l.length _ _ h6,List.drop_drop,List.drop_drop];have h8:f.name≠"_":=hf.1;simp only [Op.eqFields,h8,ne_eq,not_false_eq_true,if_true,Sem.run_bind,hf.2,r1,r2,r3,Result.andThen_ok];cases DF (List.take l.length (A.drop off)) (List.take l.length (B.drop off))
     ·simp
     ·simpa using ih
    ·simp at h
   ·simp at h
theorem jh {P:Program} {w:World}:∀(d D:Nat),d≤D→∀T ks,I7 P d T=some ks→∀(xs E:List Value),D8 ks xs→D8 ks E→∀(A B:List Value) (o:Nat),(A.drop o).take ks.length=xs→(B.drop o).take ks.length=E→
   ∃u v,(part T A.toArray o).run P w = .ok u w∧(part T B.toArray o).run P w = .ok v w∧(Op.equalIn D T u v).run P w = .ok (DF xs E) w
 | 0,_,_,T,ks,h=>by simp [I7] at h
 | d+1,0,hd,_,_,_=>by omega
 | d+1,D+1,hd,T,ks,h=>by
   intro xs E hx hy A B o hA hB;simp only [I7] at h;have one:∀(C:List Value) (z:Value),(C.drop o).take 1=[z]→C[o]?=some z:=by intro C z hz;have:=congrArg (·[0]?) hz;simpa using this
   split at h
   ·rename_i k hu;simp at h;subst h;obtain ⟨x,r,rfl,⟨n,rfl⟩,hr⟩:=hx;obtain ⟨y,r',rfl,⟨m,rfl⟩,hr'⟩:=hy;simp [D8] at hr hr';subst hr;subst hr';have ha:(isAgg T).run P w = .ok false w:=by simp [isAgg,run_underlying hu]
    refine ⟨.int .i64 n,.int .i64 m,?_,?_,?_⟩
    ·simp [part,ha,one A _ hA]
    ·simp [part,ha,one B _ hB]
    ·rw [run_equalIn_int w D T .i64 k n m hu];simp [DF,Po]
   ·rename_i hu;simp at h;subst h;obtain ⟨x,r,rfl,⟨n,rfl⟩,hr⟩:=hx;obtain ⟨y,r',rfl,⟨m,rfl⟩,hr'⟩:=hy;simp [D8] at hr hr';subst hr;subst hr';have ha:(isAgg T).run P w = .ok false w:=by simp [isAgg,run_underlying hu]
    refine ⟨.bool n,.bool m,?_,?_,?_⟩
    ·simp [part,ha,one A _ hA]
    ·simp [part,ha,one B _ hB]
    ·rw [run_equalIn_bool' w D T n m hu];simp [DF,Po]
   ·rename_i fs hu;split at h
    ·rename_i hs;have h8:P.fieldsOf T=fs:=by simp [Program.fieldsOf,hu]
     have hu':P.underlying T=some (.struct (P.fieldsOf T)):=by rw [h8];exact hu
     split at h
     ·rename_i l hl;split at h<;>simp at h;rename_i hn;subst h;have h6:(isAgg T).run P w = .ok true w:=by simp [isAgg,run_underlying hu]
      have h9:=Fi (P:=P) (w:=w) (T:=T) (n:=l.length) (by simpa using hn);have hw:=Lu hx;have hC:=Lu hy;refine ⟨.agg xs.toArray,.agg E.toArray,?_,?_,?_⟩
      ·simp [part,h6,h9];rw [←hA]
      ·simp [part,h6,h9];rw [←hB]
      ·rw [run_equalIn_struct w D T _ _ hu' hs,h8];exact je (fun T ks hk=>jh d D Om T ks hk) fs.toList 0 l hl xs E (by simpa using hx) (by simpa using hy)
     ·simp at h
    ·simp at h
   ·simp at h
theorem jg {P:Program} {w:World} {d D:Nat} (U:d≤D) {T:TypeId} {J:Array Field} {ks:List Bool} (hu:P.underlying T=some (.struct J)) (h:I7 P d T=some ks)
  {xs E:List Value} (hx:D8 ks xs) (hy:D8 ks E):(Op.equalIn D T (.agg xs.toArray) (.agg E.toArray)).run P w = .ok (DF xs E) w:=by
 have h8:=Lu hx;have h9:=Lu hy;obtain ⟨u,v,h1,h2,h3⟩:=jh (P:=P) (w:=w) d D U T ks h xs E hx hy xs E 0 (by simp [←h8]) (by simp [←h9]);have h6:(isAgg T).run P w = .ok true w:=by simp [isAgg,run_underlying hu]
 have hn:C9 P T=some ks.length:=by
  cases d with
  | zero=>simp [I7] at h
  | succ d=>
    simp only [I7,hu] at h;split at h
    ·split at h
     ·split at h<;>simp at h;subst h;assumption
     ·simp at h
    ·simp at h
 have hw:=Fi (P:=P) (w:=w) (T:=T) (n:=ks.length) (by simpa using hn);simp [part,h6,hw] at h1;simp [part,h6,hw] at h2;rw [←h8,List.take_length] at h1;rw [←h9,List.take_length] at h2;rw [h1,h2];exact h3
theorem sS {M:Mem} {k:Bool} {x y:AV} {e:Bool} {u v:Value} (h:UV k x y=some e) (hx:AV.is M x u) (hy:AV.is M y v):cS k u∧cS k v∧Po u v=e:=by
 cases k<;>simp only [UV] at h<;>split at h<;>simp at h
 ·rename_i a b h1 h2;have f:∀ {x:AV} {a:Bool} {u:Value},Gk x=some a→AV.is M x u→u = .bool a:=by intro x a u h hx;cases x<;>simp [Gk] at h<;>subst h<;>simpa [AV.is] using hx
  rw [f h1 hx,f h2 hy];exact ⟨⟨_,rfl⟩,⟨_,rfl⟩,by simp [Po,h]⟩
 ·rename_i a b h1 h2;have f:∀ {x:AV} {a:Int} {u:Value},PV x=some a→AV.is M x u→u = .int .i64 a:=by intro x a u h hx;cases x<;>simp [PV] at h;subst h;simpa [AV.is] using hx
  rw [f h1 hx,f h2 hy];refine ⟨⟨_,rfl⟩,⟨_,rfl⟩,?_⟩;rw [←h];simp only [Po];exact Bool.eq_iff_iff.mpr (by simp)
theorem gr {M:Mem}:∀ {ks:List Bool} {l r:List AV} {e:Bool} {us vs:List Value},Kn ks l r=some e→AV.isL M l us→AV.isL M r vs→D8 ks us∧D8 ks vs∧DF us vs=e
 | [],l,r,e,us,vs,h,hx,hy=>by simp only [Kn] at h;split at h<;>simp at h;simp [AV.isL] at hx hy;simp [hx,hy,D8,DF,←h]
 | k::ks,l,r,e,us,vs,h,hx,hy=>by
   simp only [Kn] at h;split at h
   ·split at h<;>simp at h;rename_i h1 h2;obtain ⟨u,us,rfl,hu,hx⟩:=hx;obtain ⟨v,vs,rfl,hv,hy⟩:=hy;obtain ⟨a1,a2,a3⟩:=sS h1 hu hv;obtain ⟨b1,b2,b3⟩:=gr h2 hx hy;exact ⟨⟨_,_,rfl,a1,b1⟩,⟨_,_,rfl,a2,b2⟩,by simp [DF,a3,b3,h]⟩
   ·simp at h
theorem sU {P:Program} {w:World} {ng:Bool} {T:TypeId} {J:Array Field} {ks:List Bool} (hu:P.underlying T=some (.struct J)) (h:I7 P 8 T=some ks)
  {xs E:List Value} (hx:D8 ks xs) (hy:D8 ks E) {op:BinOp} (ho:op=(if ng then .neq else .eql)):(binOp op T (.agg xs.toArray) (.agg E.toArray)).run P w = .ok (.bool (GJ ng (DF xs E))) w:=by
 subst ho;cases ng
 ·simp [run_eql_struct,jg (D:=10000) Om hu h hx hy,GJ]
 ·simp [run_neq_struct,jg (D:=10000) Om hu h hx hy,GJ]
end NX
end Go.Proofs.YtjemlejoladlcaaGreat
