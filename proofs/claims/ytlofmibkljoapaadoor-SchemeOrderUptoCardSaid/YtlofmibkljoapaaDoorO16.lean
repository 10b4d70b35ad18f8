/- Part 16 of the proof. Conditions: none. -/
import Derived.Test.YtlofmibkljoapaaDoorO14
import Derived.Test.YtlofmibkljoapaaDoorO15
import Derived.Test.YtlofmibkljoapaaDoorO0
set_option linter.all false
set_option linter.unusedVariables false
set_option linter.unusedSimpArgs false
section
namespace Go.Proofs.YtlofmibkljoapaaDoor.Vm
open Go.RowKit
set_option maxRecDepth 100000
set_option maxHeartbeats 4000000
def c1E (es:List (R×R)) (f:Int->Int) (t:Ty):Prop:=∀x∈t.parts,(x.op=7\/x.op=10)->x.kids=[]/\a1u es (.one (.sc (.int .i64 x.n)))=some (.one (.sc (.int .i64 (f x.n))))
theorem b79 (y:Ty):cT y=[.sc (.int .u8 y.op),.sc (.string y.name),.sc (.int .i64 y.n),.sl 4 (rT y.kids)]:=by
 obtain⟨op,nm,n,ks⟩:=y;rw[cT];rfl
def U6 (es:List (R×R)) (f:Int->Int) (t:Ty):Prop:=∀z,j3 34 [oT (.int .u8 t.op) (.string t.name) (.int .i64 t.n) 0,.mp 1] [.it (i7 z 25 (rT t.kids)),.mp 3 es] (λres os=>res=[oT (.int .u8 (v8 f t).op) (.string (v8 f t).name) (.int .i64 (v8 f t).n) 0]/\∃z',os=[.it (i7 z' 25 (rT (v8 f t).kids)),.mp 3 es])
theorem b9h (es:List (R×R)) (f:Int->Int) (op:Int) (nm:ByteArray) (n:Int) (hop:op=7\/op=10) (hm:a1u es (.one (.sc (.int .i64 n)))=some (.one (.sc (.int .i64 (f n))))):U6 es f (.mk op nm n []):=by
 intro z;rw[v8,v8.renL,c2E hop];show j3 34 [oT (.int .u8 op) (.string nm) (.int .i64 n) 0,.mp 1] [.it (i7 z 25 []),.mp 3 es] (λres os=>res=[oT (.int .u8 op) (.string nm) (.int .i64 (f n)) 0]/\∃z',os=[.it (i7 z' 25 []),.mp 3 es]);generalize f n=fn at *;refine so9 Tryd.func34 rfl ?_;intro _ _ _ _ _ _ _ qh _ qj _ _ _ _ _ _ _ _ _ _ _ _ _ _ _ _ _ _ vf;intros;rename_i hA;cbv;obtain⟨e1,e2,e3,e4,e5,e6,e7,e8,e9⟩:=j8 hA;have hml:=(H2 hA).1;have hmm:vf es (.one (.sc (.int .i64 n)))=some (.one (.sc (.int .i64 fn))):=by rw[hml,hm]
 have hlt:qh 0 0=false:=e7 _ _
 have key:(qj op 7=true)\/(qj op 7=false/\qj op 10=true):=by
  rcases hop with rfl|rfl
  ·exact .inl (e9 _ _)
  ·exact .inr ⟨e9 _ _,e9 _ _⟩
 rcases key with h7|⟨h7,h10⟩
 ·repeat ((with_reducible apply b5 hA);cbv)
  rw[h7];cbv;refine b0e hA 0 rfl ?_;cbv
  iterate 2 (try cbv;repeat ((first|with_reducible apply b5 hA|rw[hmm]);cbv))
  try simp (maxSteps:=4000000) only [nc] at *
  refine l9 hA (γ:=Unit) (λx=>[(23,vi .i64 0)]) (λx=>[]) (λx=>True) (λx=>0) () trivial ?_ ?_
  ·cbv
  ·intro _ _;cbv
   repeat ((with_reducible apply b5 hA);cbv)
   rw[hlt];cbv;refine a5a hA 2 3 0 rfl rfl rfl ?_;cbv
   repeat ((with_reducible apply b5 hA);cbv)
   exact d7 hA [0,1] (res':=[oT (.int .u8 op) (.string nm) (.int .i64 fn) 0]) (os':=[.it (i7 z 25 []),.mp 3 es]) ⟨rfl,rfl,rfl,rfl,rfl,rfl,rfl,rfl⟩ ⟨rfl,_,rfl⟩
 ·repeat ((with_reducible apply b5 hA);cbv)
  rw[h7];cbv;rw[h10];cbv;refine b0e hA 0 rfl ?_;cbv
  iterate 2 (try cbv;repeat ((first|with_reducible apply b5 hA|rw[hmm]);cbv))
  try simp (maxSteps:=4000000) only [nc] at *
  refine l9 hA (γ:=Unit) (λx=>[(23,vi .i64 0)]) (λx=>[]) (λx=>True) (λx=>0) () trivial ?_ ?_
  ·cbv
  ·intro _ _;cbv
   repeat ((with_reducible apply b5 hA);cbv)
   rw[hlt];cbv;refine a5a hA 2 3 0 rfl rfl rfl ?_;cbv
   repeat ((with_reducible apply b5 hA);cbv)
   exact d7 hA [0,1] (res':=[oT (.int .u8 op) (.string nm) (.int .i64 fn) 0]) (os':=[.it (i7 z 25 []),.mp 3 es]) ⟨rfl,rfl,rfl,rfl,rfl,rfl,rfl,rfl⟩ ⟨rfl,_,rfl⟩
theorem b9i (es:List (R×R)) (f:Int->Int) (op:Int) (nm:ByteArray) (n:Int) (hop:¬(op=7\/op=10)):U6 es f (.mk op nm n []):=by
 intro z;rw[v8,v8.renL,c2H hop];show j3 34 [oT (.int .u8 op) (.string nm) (.int .i64 n) 0,.mp 1] [.it (i7 z 25 []),.mp 3 es] (λres os=>res=[oT (.int .u8 op) (.string nm) (.int .i64 n) 0]/\∃z',os=[.it (i7 z' 25 []),.mp 3 es]);have h7':¬op=7:=λh=>hop (.inl h)
 have h10':¬op=10:=λh=>hop (.inr h)
 refine so9 Tryd.func34 rfl ?_;intro _ _ _ _ _ _ _ qh _ qj;intros;rename_i hA;cbv;obtain⟨e1,e2,e3,e4,e5,e6,e7,e8,e9⟩:=j8 hA;have h7:qj op 7=false:=by rw[e9];simpa using h7'
 have h10:qj op 10=false:=by rw[e9];simpa using h10'
 have hlt:qh 0 0=false:=e7 _ _
 repeat ((with_reducible apply b5 hA);cbv)
 rw[h7];cbv;rw[h10];cbv;refine b0e hA 0 rfl ?_;cbv
 repeat ((with_reducible apply b5 hA);cbv)
 refine l9 hA (γ:=Unit) (λx=>[(23,vi .i64 0)]) (λx=>[]) (λx=>True) (λx=>0) () trivial ?_ ?_
 ·cbv
 ·intro _ _;cbv
  repeat ((with_reducible apply b5 hA);cbv)
  rw[hlt];cbv;refine a5a hA 2 3 0 rfl rfl rfl ?_;cbv
  repeat ((with_reducible apply b5 hA);cbv)
  exact d7 hA [0,1] (res':=[oT (.int .u8 op) (.string nm) (.int .i64 n) 0]) (os':=[.it (i7 z 25 []),.mp 3 es]) ⟨rfl,rfl,rfl,rfl,rfl,rfl,rfl,rfl⟩ ⟨rfl,_,rfl⟩
theorem b9j (es:List (R×R)) (f:Int->Int) (op:Int) (nm:ByteArray) (n:Int) (x:Ty) (hop:¬(op=7\/op=10)) (hx:U6 es f x):U6 es f (.mk op nm n [x]):=by
 intro z;rw[v8,a6x,c2H hop];show j3 34 [oT (.int .u8 op) (.string nm) (.int .i64 n) 0,.mp 1] [.it (i7 z 25 (rT [x])),.mp 3 es] (λres os=>res=[oT (.int .u8 op) (.string nm) (.int .i64 n) 0]/\∃z',os=[.it (i7 z' 25 (rT [v8 f x])),.mp 3 es]);have hct:∀y:Ty,cT y=[.sc (.int .u8 y.op),.sc (.string y.name),.sc (.int .i64 y.n),.sl 4 (rT y.kids)]:=b79;rw[rT,rT,rT,rT,hct x,hct (v8 f x)];have hs0:=hx false;generalize rT (v8 f x).kids=J2 at *;generalize (v8 f x).op=o2 at *;generalize (v8 f x).name=m2 at *;generalize (v8 f x).n=n2 at *;generalize rT x.kids=J1 at *;generalize x.op=o1 at *;generalize x.name=m1 at *;generalize x.n=n1 at *;have h7':¬op=7:=λh=>hop (.inl h)
 have h10':¬op=10:=λh=>hop (.inr h)
 refine so9 Tryd.func34 rfl ?_;intro qa qb _ _ _ _ _ qh _ qj _ _ _ _ _ _ _ _ _ _ _ qx;intros;rename_i hA;cbv;obtain⟨e1,e2,e3,e4,e5,e6,e7,e8,e9⟩:=j8 hA;have h7:qj op 7=false:=by rw[e9];simpa using h7'
 have h10:qj op 10=false:=by rw[e9];simpa using h10'
 have hnat:=(H2 hA).2.2.1
 repeat ((with_reducible apply b5 hA);cbv)
 rw[h7];cbv;rw[h10];cbv;refine a2h hA 0 rfl (by simp) ?_;cbv
 repeat ((with_reducible apply b5 hA);cbv)
 have hlt0:qh 0 (Int.ofNat 1)=true:=e7 _ _;have hlt1:qh 1 (Int.ofNat 1)=false:=e7 _ _;have hn0:qx 0 1=some 0:=hnat _ _;have hz0:qa .i64 (qb 0 1)=1:=by rw[e1,e2];rfl
 refine l9 hA (γ:=Fin 2) (λb=>match b with|0=>[(23,vi .i64 0)]|1=>[(23,vi .i64 1),(27,.jk),(31,.jk),(33,.jk)]) (λb=>match b with|0=>[]|1=>[(4,.box [.d (.sc (.int .u8 o2)),.d (.sc (.string m2)),.d (.sc (.int .i64 n2)),.own 5]),(5,.it (i7 false 25 J2))]) (λ_=>True) (λb=>1 - b.val) 0 trivial ?_ ?_
 ·cbv
 ·intro b _
  match b with
  | 0 =>
   cbv
   repeat ((with_reducible apply b5 hA);cbv)
   rw[hlt0]
   iterate 2 (try cbv;repeat ((first|with_reducible apply b5 hA|rw[hn0]);cbv))
   try simp (maxSteps:=4000000) only [nc] at *
   refine a1g hA [3,4] (by kernel_rfl) ?_;cbv
   repeat' (first
    | (with_reducible apply And.intro)
    | (rw[hn0];cbv)
    | (refine c7 hA [5,1] hs0 ⟨rfl,rfl,rfl,rfl,rfl,rfl,rfl⟩ ?_;rintro _ _ ⟨rfl,zz,rfl⟩;cbv)
    | (refine a0v hA 5 (z:=zz) (rows:=J2) rfl ?_;cbv))
   all_goals repeat ((with_reducible apply b5 hA);cbv)
   all_goals (rw[hz0];refine⟨1,trivial,by decide,?_⟩;cbv)
  | 1 =>
   cbv
   repeat ((with_reducible apply b5 hA);cbv)
   rw[hlt1];cbv;refine a3e hA 2 3 4 0 (n:=0) (e:=25) [.sc (.int .u8 o2),.sc (.string m2),.sc (.int .i64 n2),.sl 4 J2] [5] [[.sc (.int .u8 o2),.sc (.string m2),.sc (.int .i64 n2),.sl 4 J2]] rfl rfl rfl rfl rfl rfl ⟨rfl,rfl,rfl,rfl,rfl,⟨_,rfl⟩,trivial⟩ rfl rfl ?_;cbv
   repeat ((with_reducible apply b5 hA);cbv)
   exact d7 hA [0,1] (res':=[oT (.int .u8 op) (.string nm) (.int .i64 n) 0]) (os':=[.it (i7 false 25 [[.sc (.int .u8 o2),.sc (.string m2),.sc (.int .i64 n2),.sl 4 J2]]),.mp 3 es]) ⟨rfl,rfl,rfl,rfl,rfl,rfl,rfl,rfl⟩ ⟨rfl,_,rfl⟩
theorem b9k (es:List (R×R)) (f:Int->Int) (op:Int) (nm:ByteArray) (n:Int) (x y:Ty) (hop:¬(op=7\/op=10)) (hx:U6 es f x) (hy:U6 es f y):U6 es f (.mk op nm n [x,y]):=by
 intro z;rw[v8,a6x,c2H hop];show j3 34 [oT (.int .u8 op) (.string nm) (.int .i64 n) 0,.mp 1] [.it (i7 z 25 (rT [x,y])),.mp 3 es] (λres os=>res=[oT (.int .u8 op) (.string nm) (.int .i64 n) 0]/\∃z',os=[.it (i7 z' 25 (rT [v8 f x,v8 f y])),.mp 3 es]);have hct:∀y:Ty,cT y=[.sc (.int .u8 y.op),.sc (.string y.name),.sc (.int .i64 y.n),.sl 4 (rT y.kids)]:=b79;rw[rT,rT,rT,rT,rT,rT,hct x,hct y,hct (v8 f x),hct (v8 f y)];have hs0:=hx false;generalize rT (v8 f x).kids=J2 at *;generalize (v8 f x).op=o2 at *;generalize (v8 f x).name=m2 at *;generalize (v8 f x).n=n2 at *;generalize rT x.kids=J1 at *;generalize x.op=o1 at *;generalize x.name=m1 at *;generalize x.n=n1 at *;have hs1:=hy false;generalize rT (v8 f y).kids=J4 at *;generalize (v8 f y).op=o4 at *;generalize (v8 f y).name=m4 at *;generalize (v8 f y).n=n4 at *;generalize rT y.kids=J3 at *;generalize y.op=o3 at *;generalize y.name=m3 at *;generalize y.n=n3 at *;have h7':¬op=7:=λh=>hop (.inl h)
 have h10':¬op=10:=λh=>hop (.inr h)
 refine so9 Tryd.func34 rfl ?_;intro qa qb _ _ _ _ _ qh _ qj _ _ _ _ _ _ _ _ _ _ _ qx;intros;rename_i hA;cbv;obtain⟨e1,e2,e3,e4,e5,e6,e7,e8,e9⟩:=j8 hA;have h7:qj op 7=false:=by rw[e9];simpa using h7'
 have h10:qj op 10=false:=by rw[e9];simpa using h10'
 have hnat:=(H2 hA).2.2.1
 repeat ((with_reducible apply b5 hA);cbv)
 rw[h7];cbv;rw[h10];cbv;refine a2h hA 0 rfl (by simp) ?_;cbv
 repeat ((with_reducible apply b5 hA);cbv)
 have hlt0:qh 0 (Int.ofNat 2)=true:=e7 _ _;have hlt1:qh 1 (Int.ofNat 2)=true:=e7 _ _;have hlt2:qh 2 (Int.ofNat 2)=false:=e7 _ _;have hn0:qx 0 2=some 0:=hnat _ _;have hz0:qa .i64 (qb 0 1)=1:=by rw[e1,e2];rfl
 have hn1:qx 1 2=some 1:=hnat _ _;have hz1:qa .i64 (qb 1 1)=2:=by rw[e1,e2];rfl
 refine l9 hA (γ:=Fin 3) (λb=>match b with|0=>[(23,vi .i64 0)]|1=>[(23,vi .i64 1),(27,.jk),(31,.jk),(33,.jk)]|2=>[(23,vi .i64 2),(27,.jk),(31,.jk),(33,.jk)]) (λb=>match b with|0=>[]|1=>[(4,.box [.d (.sc (.int .u8 o2)),.d (.sc (.string m2)),.d (.sc (.int .i64 n2)),.own 5,.d (.sc (.int .u8 o3)),.d (.sc (.string m3)),.d (.sc (.int .i64 n3)),.own 6]),(5,.it (i7 false 25 J2))]|2=>[(4,.box [.d (.sc (.int .u8 o2)),.d (.sc (.string m2)),.d (.sc (.int .i64 n2)),.own 5,.d (.sc (.int .u8 o4)),.d (.sc (.string m4)),.d (.sc (.int .i64 n4)),.own 6]),(5,.it (i7 false 25 J2)),(6,.it (i7 false 25 J4))]) (λ_=>True) (λb=>2 - b.val) 0 trivial ?_ ?_
 ·cbv
 ·intro b _
  match b with
  | 0 =>
   cbv
   repeat ((with_reducible apply b5 hA);cbv)
   rw[hlt0]
   iterate 2 (try cbv;repeat ((first|with_reducible apply b5 hA|rw[hn0]);cbv))
   try simp (maxSteps:=4000000) only [nc] at *
   refine a1g hA [3,4] (by kernel_rfl) ?_;cbv
   repeat' (first
    | (with_reducible apply And.intro)
    | (rw[hn0];cbv)
    | (refine c7 hA [5,1] hs0 ⟨rfl,rfl,rfl,rfl,rfl,rfl,rfl⟩ ?_;rintro _ _ ⟨rfl,zz,rfl⟩;cbv)
    | (refine a0v hA 5 (z:=zz) (rows:=J2) rfl ?_;cbv))
   all_goals repeat ((with_reducible apply b5 hA);cbv)
   all_goals (rw[hz0];refine⟨1,trivial,by decide,?_⟩;cbv)
  | 1 =>
   cbv
   repeat ((with_reducible apply b5 hA);cbv)
   rw[hlt1]
   iterate 2 (try cbv;repeat ((first|with_reducible apply b5 hA|rw[hn1]);cbv))
   try simp (maxSteps:=4000000) only [nc] at *
   refine a1g hA [3,4] (by kernel_rfl) ?_;cbv
   repeat' (first
    | (with_reducible apply And.intro)
    | (rw[hn1];cbv)
    | (refine c7 hA [6,1] hs1 ⟨rfl,rfl,rfl,rfl,rfl,rfl,rfl⟩ ?_;rintro _ _ ⟨rfl,zz,rfl⟩;cbv)
    | (refine a0v hA 6 (z:=zz) (rows:=J4) rfl ?_;cbv))
   all_goals repeat ((with_reducible apply b5 hA);cbv)
   all_goals (rw[hz1];refine⟨2,trivial,by decide,?_⟩;cbv)
  | 2 =>
   cbv
   repeat ((with_reducible apply b5 hA);cbv)
   rw[hlt2];cbv;refine a3e hA 2 3 4 0 (n:=1) (e:=25) [.sc (.int .u8 o2),.sc (.string m2),.sc (.int .i64 n2),.sl 4 J2,.sc (.int .u8 o4),.sc (.string m4),.sc (.int .i64 n4),.sl 4 J4] [5,6] [[.sc (.int .u8 o2),.sc (.string m2),.sc (.int .i64 n2),.sl 4 J2],[.sc (.int .u8 o4),.sc (.string m4),.sc (.int .i64 n4),.sl 4 J4]] rfl rfl rfl rfl rfl rfl ⟨rfl,rfl,rfl,rfl,rfl,⟨_,rfl⟩,rfl,rfl,rfl,rfl,rfl,⟨_,rfl⟩,trivial⟩ rfl rfl ?_;cbv
   repeat ((with_reducible apply b5 hA);cbv)
   exact d7 hA [0,1] (res':=[oT (.int .u8 op) (.string nm) (.int .i64 n) 0]) (os':=[.it (i7 false 25 [[.sc (.int .u8 o2),.sc (.string m2),.sc (.int .i64 n2),.sl 4 J2],[.sc (.int .u8 o4),.sc (.string m4),.sc (.int .i64 n4),.sl 4 J4]]),.mp 3 es]) ⟨rfl,rfl,rfl,rfl,rfl,rfl,rfl,rfl⟩ ⟨rfl,_,rfl⟩
theorem c1F (es:List (R×R)) (f:Int->Int):∀t:Ty,b8Z t->c1E es f t->U6 es f t:=by
 intro t
 induction t using Ty.ind with
 | h t ih =>
  intro ht hT;obtain⟨op,nm,n,ks⟩:=t;have hk:∀x∈ks,U6 es f x:=λx hx=>ih x hx (λy hy=>ht y (by rw[d5];exact c26 _ (c2U.2 ⟨x,hx,hy⟩))) λy hy=>hT y (by rw[d5];exact c26 _ (c2U.2 ⟨x,hx,hy⟩))
  by_cases hop:op=7\/op=10
  ·have h1:=hT (.mk op nm n ks) (by rw[r6];exact c27 ..) hop;obtain rfl:ks=[]:=h1.1;exact b9h es f op nm n hop h1.2
  ·have h2:=ht _ (by rw[r6];exact c27 ..)
   match ks,hk,h2 with
   | [],_,_=>exact b9i es f op nm n hop
   | [x],hk,_=>exact b9j es f op nm n x hop (hk x (c27 ..))
   | [x,y],hk,_=>exact b9k es f op nm n x y hop (hk x (c27 ..)) (hk y (c26 _ (c27 ..)))
   | x::y::z::ks,_,h2=>simp[Ty.kids] at h2
end Go.Proofs.YtlofmibkljoapaaDoor.Vm
end
