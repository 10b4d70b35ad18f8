/- Part 14 of the proof. Conditions: none. -/
import Derived.Test.YtlofmibkljoapaaDoorO13
import Derived.Test.YtlofmibkljoapaaDoorO0
set_option linter.all false
set_option linter.unusedVariables false
set_option linter.unusedSimpArgs false
section
namespace Go.Proofs.YtlofmibkljoapaaDoor.Vm
open Go.RowKit
set_option maxRecDepth 100000
set_option maxHeartbeats 4000000
def l7 (l:List (Int×Ty)):Ty->Ty
 | .mk op nm n ks=>if op=7\/op=10 then (match ofS l n (op == 10) with|some p=>b6 p.2|none=>.mk op nm n ks) else .mk op nm n (putPs l ks)
where putPs (l:List (Int×Ty)):List Ty->List Ty
 | []=>[]
 | t::ts=>l7 l t::putPs l ts
def b8Z (t:Ty):Prop:=∀x∈t.parts,x.kids.length<=2
def a0k (l:List (Int×Ty)) (t:Ty):Prop:=∀z,j3 26 [oT (.int .u8 t.op) (.string t.name) (.int .i64 t.n) 0,.d (.sl 5 (rB l))] [.it (i7 z 25 (rT t.kids))] (a8p (l7 l t))
theorem b9a (l:List (Int×Ty)) (hl:l.length<=1048576) (hlp:∀p∈l,Sm p.2) (op:Int) (nm:ByteArray) (n:Int) (ks:List Ty) (hop:op=7\/op=10):a0k l (.mk op nm n ks):=by
 intro z;show j3 26 [oT (.int .u8 op) (.string nm) (.int .i64 n) 0,.d (.sl 5 (rB l))] [.it (i7 z 25 (rT ks))] _;rw[l7,c2E hop];obtain⟨K0,hK0⟩:∃K0,K0=rT ks:=⟨_,rfl⟩;rw[<-hK0];have hix:=b5C l hl hlp (.int .u8 op) (.string nm) n (op == 10) (i7 z 25 K0);obtain⟨B,hB⟩:∃B,B=rB l:=⟨_,rfl⟩;rw[<-hB] at hix ⊢;have hfind:=b19 n (op == 10) l 0
 have hcase:(a1L n (op == 10) l 0=none/\(match ofS l n (op == 10) with|some p=>b6 p.2|none=>.mk op nm n ks)=.mk op nm n ks)\/∃j p,a1L n (op == 10) l 0=some j/\l[j]?=some p/\(match ofS l n (op == 10) with|some p=>b6 p.2|none=>.mk op nm n ks)=b6 p.2/\r7 p.2=true:=by
  rcases hfind with⟨h1,h2⟩|⟨j,p,h1,h2,h3,h4⟩
  ·exact .inl ⟨h1,by rw[h2]⟩
  ·refine .inr ⟨j,p,by rw[h1,c3v],h2,by rw[h3],?_⟩;unfold a1z at h4;unfold r7;cases hb:op == 10 <;> rw[hb] at h4 <;> simp only at h4 <;> rw[h4] <;> simp
 generalize (match ofS l n (op == 10) with|some p=>b6 p.2|none=>Ty.mk op nm n ks)=T at *;generalize a1L n (op == 10) l 0=r at *
 have hrow:b5B (op == 10)=if op=10 then 46 else 18:=by
  by_cases h:op=10
  ·subst h;rfl
  ·rw[c2H h,show (op == 10)=false by simpa using h];rfl
 rw[hrow] at hix;obtain⟨Q,hQ⟩:∃Q,Q=a8p T:=⟨_,rfl⟩;rw[<-hQ];refine so9 Tryd.func26 rfl ?_;intro _ _ _ _ _ _ _ _ qi qj _ _ _ _ _ _ _ _ _ _ _ _ _ qz;intros;rename_i hA;cbv;obtain⟨e1,e2,e3,e4,e5,e6,e7,e8,e9⟩:=j8 hA;obtain⟨r1,r2,r3,r4⟩:=n9 hA
 rcases hop with rfl|rfl
 ·have h7:qj 7 7=true:=e9 _ _;have h10:qj 7 10=false:=e9 _ _;rw[c2H (by decide)] at hix
  iterate 2 (try cbv;repeat ((first|with_reducible apply b5 hA|rw[h7]|rw[h10]);cbv))
  try simp (maxSteps:=4000000) only [nc] at *
  refine b18 hA hix ?_
  rintro _ _ _ ⟨rfl,rfl,rfl⟩
  rcases hcase with⟨hr,hT⟩|⟨j,p,hr,hp,hT,hep⟩
  ·rw[hr];have hge:qi 0 (-1)=false:=e8 _ _
   iterate 2 (try cbv;repeat ((first|with_reducible apply b5 hA|rw[hge]);cbv))
   try simp (maxSteps:=4000000) only [nc] at *
   exact d7 hA [0] (res':=[oT _ _ _ 0]) (os':=[.it (i7 z 25 K0)]) ⟨rfl,rfl,rfl,rfl,rfl,rfl,rfl,rfl⟩ (by rw[hQ,hT,hK0];exact⟨rfl,_,rfl⟩)
  ·rw[hr];have hge:qi 0 (j:Int)=true:=by rw[e8];exact c2J (by omega)
   have hc:=a7H p.2 (hlp p (c2F hp)) hep;have gx:qz B (j:Int)=some (.sc (.int .i64 p.1)::cT p.2):=by rw[r2,c2E (by omega),hB,show ((j:Int)).toNat=j by omega,b0h hp]
   obtain⟨pn,pt⟩:=p;simp only at hc gx;obtain⟨x0,x1,x2,x3,hxx⟩:=d6 pt;rw[hxx] at hc gx;obtain⟨vo,vm,vn,vK,hvs⟩:∃vo vm vn vK,a8p (b6 pt)=a05 vo vm vn vK:=⟨_,_,_,_,rfl⟩;rw[hvs] at hc;have hi:c0L (some j)=(j:Int):=rfl;rw[hi];obtain⟨zj,hzj⟩:∃zj,zj=(j:Int):=⟨_,rfl⟩;rw[<-hzj] at hge gx ⊢
   iterate 2 (try cbv;repeat ((first|with_reducible apply b5 hA|rw[hge]|rw[gx]);cbv))
   try simp (maxSteps:=4000000) only [nc] at *
   refine c7 hA [] hc ⟨rfl,rfl,rfl,rfl,rfl,rfl,rfl⟩ ?_
   rintro _ _ ⟨rfl,zz,rfl⟩
   cbv;refine a7F hA 0 4 rfl rfl rfl ?_;cbv
   repeat ((with_reducible apply b5 hA);cbv)
   exact d7 hA [0] (res':=[oT vo vm vn 0]) (os':=[.it (i7 zz 25 vK)]) ⟨rfl,rfl,rfl,rfl,rfl,rfl,rfl,rfl⟩ (by rw[hQ,hT,hvs];exact⟨rfl,_,rfl⟩)
 ·have h7:qj 10 7=false:=e9 _ _;have h10:qj 10 10=true:=e9 _ _;rw[c2E rfl] at hix
  iterate 2 (try cbv;repeat ((first|with_reducible apply b5 hA|rw[h7]|rw[h10]);cbv))
  try simp (maxSteps:=4000000) only [nc] at *
  refine b18 hA hix ?_
  rintro _ _ _ ⟨rfl,rfl,rfl⟩
  rcases hcase with⟨hr,hT⟩|⟨j,p,hr,hp,hT,hep⟩
  ·rw[hr];have hge:qi 0 (-1)=false:=e8 _ _
   iterate 2 (try cbv;repeat ((first|with_reducible apply b5 hA|rw[hge]);cbv))
   try simp (maxSteps:=4000000) only [nc] at *
   exact d7 hA [0] (res':=[oT _ _ _ 0]) (os':=[.it (i7 z 25 K0)]) ⟨rfl,rfl,rfl,rfl,rfl,rfl,rfl,rfl⟩ (by rw[hQ,hT,hK0];exact⟨rfl,_,rfl⟩)
  ·rw[hr];have hge:qi 0 (j:Int)=true:=by rw[e8];exact c2J (by omega)
   have hc:=a7H p.2 (hlp p (c2F hp)) hep;have gx:qz B (j:Int)=some (.sc (.int .i64 p.1)::cT p.2):=by rw[r2,c2E (by omega),hB,show ((j:Int)).toNat=j by omega,b0h hp]
   obtain⟨pn,pt⟩:=p;simp only at hc gx;obtain⟨x0,x1,x2,x3,hxx⟩:=d6 pt;rw[hxx] at hc gx;obtain⟨vo,vm,vn,vK,hvs⟩:∃vo vm vn vK,a8p (b6 pt)=a05 vo vm vn vK:=⟨_,_,_,_,rfl⟩;rw[hvs] at hc;have hi:c0L (some j)=(j:Int):=rfl;rw[hi];obtain⟨zj,hzj⟩:∃zj,zj=(j:Int):=⟨_,rfl⟩;rw[<-hzj] at hge gx ⊢
   iterate 2 (try cbv;repeat ((first|with_reducible apply b5 hA|rw[hge]|rw[gx]);cbv))
   try simp (maxSteps:=4000000) only [nc] at *
   refine c7 hA [] hc ⟨rfl,rfl,rfl,rfl,rfl,rfl,rfl⟩ ?_
   rintro _ _ ⟨rfl,zz,rfl⟩
   cbv;refine a7F hA 0 4 rfl rfl rfl ?_;cbv
   repeat ((with_reducible apply b5 hA);cbv)
   exact d7 hA [0] (res':=[oT vo vm vn 0]) (os':=[.it (i7 zz 25 vK)]) ⟨rfl,rfl,rfl,rfl,rfl,rfl,rfl,rfl⟩ (by rw[hQ,hT,hvs];exact⟨rfl,_,rfl⟩)
theorem b9b (l:List (Int×Ty)) (op:Int) (nm:ByteArray) (n:Int) (hop:¬(op=7\/op=10)):a0k l (.mk op nm n []):=by
 intro z;show j3 26 [oT (.int .u8 op) (.string nm) (.int .i64 n) 0,.d (.sl 5 (rB l))] [.it (i7 z 25 [])] _;rw[l7,c2H hop,l7.putPs];show j3 _ _ _ (a05 (.int .u8 op) (.string nm) (.int .i64 n) []);obtain⟨B,hB⟩:∃B,B=rB l:=⟨_,rfl⟩;rw[<-hB];have h7':¬op=7:=λh=>hop (.inl h)
 have h10':¬op=10:=λh=>hop (.inr h)
 refine so9 Tryd.func26 rfl ?_;intro _ _ _ _ _ _ _ qh _ qj;intros;rename_i hA;cbv;obtain⟨e1,e2,e3,e4,e5,e6,e7,e8,e9⟩:=j8 hA;have h7:qj op 7=false:=by rw[e9];simpa using h7'
 have h10:qj op 10=false:=by rw[e9];simpa using h10'
 repeat ((with_reducible apply b5 hA);cbv)
 rw[h7];cbv;rw[h10];cbv;refine b0e hA 0 rfl ?_;cbv
 repeat ((with_reducible apply b5 hA);cbv)
 have hlt:qh 0 0=false:=e7 _ _;refine l9 hA (γ:=Unit) (λx=>[(35,vi .i64 0)]) (λx=>[]) (λx=>True) (λx=>0) () trivial ?_ ?_
 ·cbv
 ·intro _ _;cbv
  repeat ((with_reducible apply b5 hA);cbv)
  rw[hlt];cbv;refine a5a hA 1 3 0 rfl rfl rfl ?_;cbv
  repeat ((with_reducible apply b5 hA);cbv)
  exact d7 hA [0] (res':=[oT (.int .u8 op) (.string nm) (.int .i64 n) 0]) (os':=[.it (i7 z 25 [])]) ⟨rfl,rfl,rfl,rfl,rfl,rfl,rfl,rfl⟩ ⟨rfl,_,rfl⟩
theorem b9c (l:List (Int×Ty)) (op:Int) (nm:ByteArray) (n:Int) (x:Ty) (hop:¬(op=7\/op=10)) (hx:a0k l x):a0k l (.mk op nm n [x]):=by
 intro z;show j3 26 [oT (.int .u8 op) (.string nm) (.int .i64 n) 0,.d (.sl 5 (rB l))] [.it (i7 z 25 (rT [x]))] _;rw[l7,c2H hop,l7.putPs,l7.putPs];show j3 _ _ _ (a05 (.int .u8 op) (.string nm) (.int .i64 n) (rT [l7 l x]));have hsp:=hx false;have hct:∀y:Ty,rT [y]=[[.sc (.int .u8 y.op),.sc (.string y.name),.sc (.int .i64 y.n),.sl 4 (rT y.kids)]]:=λy=>by cases y;rw[rT,cT,rT];rfl
 rw[hct,hct];replace hsp:j3 26 _ _ (a05 (.int .u8 (l7 l x).op) (.string (l7 l x).name) (.int .i64 (l7 l x).n) (rT (l7 l x).kids)):=hsp;generalize rT (l7 l x).kids=K2 at *;generalize (l7 l x).op=o2 at *;generalize (l7 l x).name=m2 at *;generalize (l7 l x).n=n2 at *;generalize rT x.kids=K1 at *;generalize x.op=o1 at *;generalize x.name=m1 at *;generalize x.n=n1 at *;obtain⟨B,hB⟩:∃B,B=rB l:=⟨_,rfl⟩;rw[<-hB] at hsp ⊢;have h7':¬op=7:=λh=>hop (.inl h)
 have h10':¬op=10:=λh=>hop (.inr h)
 refine so9 Tryd.func26 rfl ?_;intro qa qb _ _ _ _ _ qh _ qj _ _ _ _ _ _ _ _ _ _ _ qx;intros;rename_i hA;cbv;obtain⟨e1,e2,e3,e4,e5,e6,e7,e8,e9⟩:=j8 hA;have h7:qj op 7=false:=by rw[e9];simpa using h7'
 have h10:qj op 10=false:=by rw[e9];simpa using h10'
 have hnat:=(H2 hA).2.2.1
 repeat ((with_reducible apply b5 hA);cbv)
 rw[h7];cbv;rw[h10];cbv;refine a2h hA 0 rfl (by simp) ?_;cbv
 repeat ((with_reducible apply b5 hA);cbv)
 have hlt0:qh 0 (Int.ofNat 1)=true:=e7 _ _;have hlt1:qh 1 (Int.ofNat 1)=false:=e7 _ _;have hn0:qx 0 1=some 0:=hnat _ _;have hz1:qa .i64 (qb 0 1)=1:=by rw[e1,e2];rfl
 refine l9 hA (γ:=Bool) (λb=>match b with|false=>[(35,vi .i64 0)]|true=>[(35,vi .i64 1),(43,.jk),(45,.jk)]) (λb=>match b with|false=>[]|true=>[(3,.box [.d (.sc (.int .u8 o2)),.d (.sc (.string m2)),.d (.sc (.int .i64 n2)),.own 4]),(4,.it (i7 false 25 K2))]) (λ_=>True) (λb=>match b with|false=>1|true=>0) false trivial ?_ ?_
 ·cbv
 ·intro b _;cases b with
  | false =>
   cbv
   repeat ((with_reducible apply b5 hA);cbv)
   rw[hlt0]
   iterate 2 (try cbv;repeat ((first|with_reducible apply b5 hA|rw[hn0]);cbv))
   try simp (maxSteps:=4000000) only [nc] at *
   refine a1g hA [3,4] (by kernel_rfl) ?_;cbv
   repeat' (first
    | (with_reducible apply And.intro)
    | (rw[hn0];cbv)
    | (refine c7 hA [4] hsp ⟨rfl,rfl,rfl,rfl,rfl,rfl,rfl⟩ ?_;rintro _ _ ⟨rfl,zz,rfl⟩;cbv)
    | (refine a0v hA 4 (z:=zz) (rows:=K2) rfl ?_;cbv))
   all_goals repeat ((with_reducible apply b5 hA);cbv)
   all_goals (rw[hz1];refine⟨true,trivial,c41,?_⟩;cbv)
  | true =>
   cbv
   repeat ((with_reducible apply b5 hA);cbv)
   rw[hlt1];cbv;refine a3e hA 1 3 3 0 (n:=0) (e:=25) [.sc (.int .u8 o2),.sc (.string m2),.sc (.int .i64 n2),.sl 4 K2] [4] [[.sc (.int .u8 o2),.sc (.string m2),.sc (.int .i64 n2),.sl 4 K2]] rfl rfl rfl rfl rfl rfl ⟨rfl,rfl,rfl,rfl,rfl,⟨_,rfl⟩,trivial⟩ rfl rfl ?_;cbv
   repeat ((with_reducible apply b5 hA);cbv)
   exact d7 hA [0] (res':=[oT (.int .u8 op) (.string nm) (.int .i64 n) 0]) (os':=[.it (i7 false 25 [[.sc (.int .u8 o2),.sc (.string m2),.sc (.int .i64 n2),.sl 4 K2]])]) ⟨rfl,rfl,rfl,rfl,rfl,rfl,rfl,rfl⟩ ⟨rfl,_,rfl⟩
theorem b9d (l:List (Int×Ty)) (op:Int) (nm:ByteArray) (n:Int) (x y:Ty) (hop:¬(op=7\/op=10)) (hx:a0k l x) (hy:a0k l y):a0k l (.mk op nm n [x,y]):=by
 intro z;show j3 26 [oT (.int .u8 op) (.string nm) (.int .i64 n) 0,.d (.sl 5 (rB l))] [.it (i7 z 25 (rT [x,y]))] _;rw[l7,c2H hop,l7.putPs,l7.putPs,l7.putPs];show j3 _ _ _ (a05 (.int .u8 op) (.string nm) (.int .i64 n) (rT [l7 l x,l7 l y]));have hsp:=hx false;have hsq:=hy false;have hct:∀y z:Ty,rT [y,z]=[[.sc (.int .u8 y.op),.sc (.string y.name),.sc (.int .i64 y.n),.sl 4 (rT y.kids)],[.sc (.int .u8 z.op),.sc (.string z.name),.sc (.int .i64 z.n),.sl 4 (rT z.kids)]]:=λy z=>by cases y;cases z;rw[rT,cT,rT,cT,rT];rfl
 rw[hct,hct];replace hsp:j3 26 _ _ (a05 (.int .u8 (l7 l x).op) (.string (l7 l x).name) (.int .i64 (l7 l x).n) (rT (l7 l x).kids)):=hsp;generalize rT (l7 l x).kids=K2 at *;generalize (l7 l x).op=o2 at *;generalize (l7 l x).name=m2 at *;generalize (l7 l x).n=n2 at *;generalize rT x.kids=K1 at *;generalize x.op=o1 at *;generalize x.name=m1 at *;generalize x.n=n1 at *;replace hsq:j3 26 _ _ (a05 (.int .u8 (l7 l y).op) (.string (l7 l y).name) (.int .i64 (l7 l y).n) (rT (l7 l y).kids)):=hsq;generalize rT (l7 l y).kids=P2 at *;generalize (l7 l y).op=o4 at *;generalize (l7 l y).name=m4 at *;generalize (l7 l y).n=n4 at *;generalize rT y.kids=P1 at *;generalize y.op=o3 at *;generalize y.name=m3 at *;generalize y.n=n3 at *;obtain⟨B,hB⟩:∃B,B=rB l:=⟨_,rfl⟩;rw[<-hB] at hsp hsq ⊢;have h7':¬op=7:=λh=>hop (.inl h)
 have h10':¬op=10:=λh=>hop (.inr h)
 refine so9 Tryd.func26 rfl ?_;intro qa qb _ _ _ _ _ qh _ qj _ _ _ _ _ _ _ _ _ _ _ qx;intros;rename_i hA;cbv;obtain⟨e1,e2,e3,e4,e5,e6,e7,e8,e9⟩:=j8 hA;have h7:qj op 7=false:=by rw[e9];simpa using h7'
 have h10:qj op 10=false:=by rw[e9];simpa using h10'
 have hnat:=(H2 hA).2.2.1
 repeat ((with_reducible apply b5 hA);cbv)
 rw[h7];cbv;rw[h10];cbv;refine a2h hA 0 rfl (by simp) ?_;cbv
 repeat ((with_reducible apply b5 hA);cbv)
 have hlt0:qh 0 (Int.ofNat 2)=true:=e7 _ _;have hlt1:qh 1 (Int.ofNat 2)=true:=e7 _ _;have hlt2:qh 2 (Int.ofNat 2)=false:=e7 _ _;have hn0:qx 0 2=some 0:=hnat _ _;have hn1:qx 1 2=some 1:=hnat _ _;have hz1:qa .i64 (qb 0 1)=1:=by rw[e1,e2];rfl
 have hz2:qa .i64 (qb 1 1)=2:=by rw[e1,e2];rfl
 refine l9 hA (γ:=Option Bool) (λb=>match b with|none=>[(35,vi .i64 0)]|some false=>[(35,vi .i64 1),(43,.jk),(45,.jk)]|some true=>[(35,vi .i64 2),(43,.jk),(45,.jk)])
  (λb=>match b with
   | none=>[]
   | some false=>[(3,.box [.d (.sc (.int .u8 o2)),.d (.sc (.string m2)),.d (.sc (.int .i64 n2)),.own 4,.d (.sc (.int .u8 o3)),.d (.sc (.string m3)),.d (.sc (.int .i64 n3)),.own 5]),(4,.it (i7 false 25 K2))]
   | some true=>[(3,.box [.d (.sc (.int .u8 o2)),.d (.sc (.string m2)),.d (.sc (.int .i64 n2)),.own 4,.d (.sc (.int .u8 o4)),.d (.sc (.string m4)),.d (.sc (.int .i64 n4)),.own 5]),(4,.it (i7 false 25 K2)),(5,.it (i7 false 25 P2))]) (λ_=>True) (λb=>match b with|none=>2|some false=>1|some true=>0) none trivial ?_ ?_
 ·cbv
 ·intro b _
  rcases b with _|(_|_)
  ·cbv
   repeat ((with_reducible apply b5 hA);cbv)
   rw[hlt0]
   iterate 2 (try cbv;repeat ((first|with_reducible apply b5 hA|rw[hn0]);cbv))
   try simp (maxSteps:=4000000) only [nc] at *
   refine a1g hA [3,4] (by kernel_rfl) ?_;cbv
   repeat' (first
    | (with_reducible apply And.intro)
    | (rw[hn0];cbv)
    | (refine c7 hA [4] hsp ⟨rfl,rfl,rfl,rfl,rfl,rfl,rfl⟩ ?_;rintro _ _ ⟨rfl,zz,rfl⟩;cbv)
    | (refine a0v hA 4 (z:=zz) (rows:=K2) rfl ?_;cbv))
   all_goals repeat ((with_reducible apply b5 hA);cbv)
   all_goals (rw[hz1];refine⟨some false,trivial,Nat.one_lt_two,?_⟩;cbv)
  ·cbv
   repeat ((with_reducible apply b5 hA);cbv)
   rw[hlt1]
   iterate 2 (try cbv;repeat ((first|with_reducible apply b5 hA|rw[hn1]);cbv))
   try simp (maxSteps:=4000000) only [nc] at *
   refine a1g hA [3,4] (by kernel_rfl) ?_;cbv
   repeat' (first
    | (with_reducible apply And.intro)
    | (rw[hn1];cbv)
    | (refine c7 hA [5] hsq ⟨rfl,rfl,rfl,rfl,rfl,rfl,rfl⟩ ?_;rintro _ _ ⟨rfl,zz,rfl⟩;cbv)
    | (refine a0v hA 5 (z:=zz) (rows:=P2) rfl ?_;cbv))
   all_goals repeat ((with_reducible apply b5 hA);cbv)
   all_goals (rw[hz2];refine⟨some true,trivial,c41,?_⟩;cbv)
  ·cbv
   repeat ((with_reducible apply b5 hA);cbv)
   rw[hlt2];cbv;refine a3e hA 1 3 3 0 (n:=1) (e:=25) [.sc (.int .u8 o2),.sc (.string m2),.sc (.int .i64 n2),.sl 4 K2,.sc (.int .u8 o4),.sc (.string m4),.sc (.int .i64 n4),.sl 4 P2] [4,5] [[.sc (.int .u8 o2),.sc (.string m2),.sc (.int .i64 n2),.sl 4 K2],[.sc (.int .u8 o4),.sc (.string m4),.sc (.int .i64 n4),.sl 4 P2]] rfl rfl rfl rfl rfl rfl ⟨rfl,rfl,rfl,rfl,rfl,⟨_,rfl⟩,rfl,rfl,rfl,rfl,rfl,⟨_,rfl⟩,trivial⟩ rfl rfl ?_;cbv
   repeat ((with_reducible apply b5 hA);cbv)
   exact d7 hA [0] (res':=[oT (.int .u8 op) (.string nm) (.int .i64 n) 0]) (os':=[.it (i7 false 25 [[.sc (.int .u8 o2),.sc (.string m2),.sc (.int .i64 n2),.sl 4 K2],[.sc (.int .u8 o4),.sc (.string m4),.sc (.int .i64 n4),.sl 4 P2]])]) ⟨rfl,rfl,rfl,rfl,rfl,rfl,rfl,rfl⟩ ⟨rfl,_,rfl⟩
theorem c1D (l:List (Int×Ty)) (hl:l.length<=1048576) (hlp:∀p∈l,Sm p.2):∀t:Ty,b8Z t->a0k l t:=by
 intro t
 induction t using Ty.ind with
 | h t ih =>
  intro ht;obtain⟨op,nm,n,ks⟩:=t;have hk:∀x∈ks,a0k l x:=λx hx=>ih x hx λy hy=>ht y (by rw[d5];exact c26 _ (c2U.2 ⟨x,hx,hy⟩))
  by_cases hop:op=7\/op=10
  ·exact b9a l hl hlp op nm n ks hop
  ·have h2:=ht _ (by rw[r6];exact c27 ..)
   match ks,hk,h2 with
   | [],_,_=>exact b9b l op nm n hop
   | [x],hk,_=>exact b9c l op nm n x hop (hk x (c27 ..))
   | [x,y],hk,_=>exact b9d l op nm n x y hop (hk x (c27 ..)) (hk y (c26 _ (c27 ..)))
   | x::y::z::ks,_,h2=>simp[Ty.kids] at h2
end Go.Proofs.YtlofmibkljoapaaDoor.Vm
end
