/- Part 18 of the proof. Conditions: none. -/
import Derived.Test.YtlofmibkljoapaaDoorO13
import Derived.Test.YtlofmibkljoapaaDoorO17
import Derived.Test.YtlofmibkljoapaaDoorO0
set_option linter.all false
set_option linter.unusedVariables false
set_option linter.unusedSimpArgs false
section
namespace Go.Proofs.YtlofmibkljoapaaDoor.Vm
open Go.RowKit
set_option maxRecDepth 100000
set_option maxHeartbeats 4000000
def sR (op nm n:Value) (K:List (List D)) (res:List V) (os:List O):Prop:=res=[.ag [.d (.sc op),.d (.sc nm),.d (.sc n),.d (.sl 4 K)]]/\os=[.dead]
def sRT (t:Ty):List V->List O->Prop:=sR (.int .u8 (b6 t).op) (.string (b6 t).name) (.int .i64 (b6 t).n) (rT (b6 t).kids)
def L7 (t:Ty):Prop:=∀z,j3 25 [oT (.int .u8 t.op) (.string t.name) (.int .i64 t.n) 0] [.it (i7 z 25 (rT t.kids))] (sRT t)
theorem b7C (op:Int) (nm:ByteArray) (n:Int) (hop:op≠11):L7 (.mk op nm n []):=by
 intro z;show j3 25 [oT (.int .u8 op) (.string nm) (.int .i64 n) 0] [.it (i7 z 25 [])] _;rw[show sRT (.mk op nm n [])=sR (.int .u8 op) (.string nm) (.int .i64 n) (rT (List.map b6 [])) by unfold sRT;rw[w6 (t:=.mk op nm n []) hop];rfl];show j3 _ _ _ (sR (.int .u8 op) (.string nm) (.int .i64 n) (rT []));refine so9 Tryd.func25 rfl ?_;intro _ _ _ _ _ _ _ qh _ qj _ _ _ _ _ _ _ _ _ _ _ _ qy;intros;rename_i hA;cbv;obtain⟨e1,e2,e3,e4,e5,e6,e7,e8,e9⟩:=j8 hA;have h11:qj op 11=false:=by rw[e9];simpa using hop
 with_reducible apply b5 hA
 cbv;refine b4y hA 0 rfl ?_;cbv;rw[h11];cbv
 repeat ((with_reducible apply b5 hA);cbv)
 have hlt:qh 0 (qy [])=false:=by rw[(n9 hA).1];exact e7 _ _
 refine l9 hA (γ:=Unit) (λx=>[(12,vi .i64 0)]) (λx=>[]) (λx=>True) (λx=>0) () trivial ?_ ?_
 ·cbv
 ·intro _ _;cbv
  repeat ((with_reducible apply b5 hA);cbv)
  rw[hlt];cbv
  repeat ((with_reducible apply b5 hA);cbv)
  exact d7 hA [0] (res':=[.ag [.d (.sc (.int .u8 op)),.d (.sc (.string nm)),.d (.sc (.int .i64 n)),.d (.sl 4 [])]]) (os':=[.dead]) ⟨rfl,rfl,rfl,rfl,rfl,rfl,rfl,rfl⟩ ⟨rfl,rfl⟩
theorem b7D (op:Int) (nm:ByteArray) (n:Int) (x:Ty) (hop:op≠11) (hx:L7 x):L7 (.mk op nm n [x]):=by
 intro z;show j3 25 [oT (.int .u8 op) (.string nm) (.int .i64 n) 0] [.it (i7 z 25 (rT [x]))] _;rw[show sRT (.mk op nm n [x])=sR (.int .u8 op) (.string nm) (.int .i64 n) (rT (List.map b6 [x])) by unfold sRT;rw[w6 (t:=.mk op nm n [x]) hop];rfl];show j3 _ _ _ (sR (.int .u8 op) (.string nm) (.int .i64 n) (rT [b6 x]));have hsp:=hx false;have hct:∀y:Ty,rT [y]=[[.sc (.int .u8 y.op),.sc (.string y.name),.sc (.int .i64 y.n),.sl 4 (rT y.kids)]]:=λy=>by cases y;rw[rT,cT,rT];rfl
 rw[hct,hct];replace hsp:j3 25 _ _ (sR (.int .u8 (b6 x).op) (.string (b6 x).name) (.int .i64 (b6 x).n) (rT (b6 x).kids)):=hsp;generalize rT (b6 x).kids=K2 at *;generalize (b6 x).op=o2 at *;generalize (b6 x).name=m2 at *;generalize (b6 x).n=n2 at *;generalize rT x.kids=K1 at *;generalize x.op=o1 at *;generalize x.name=m1 at *;generalize x.n=n1 at *;refine so9 Tryd.func25 rfl ?_;intro qa qb _ _ _ _ _ qh _ qj _ _ _ _ _ _ _ _ _ _ _ qx;intros;rename_i hA;cbv;obtain⟨e1,e2,e3,e4,e5,e6,e7,e8,e9⟩:=j8 hA;have h11:qj op 11=false:=by rw[e9];simpa using hop
 have hnat:=(H2 hA).2.2.1
 with_reducible apply b5 hA
 cbv;refine a2h hA 0 rfl (by simp) ?_;cbv;rw[h11];cbv
 repeat ((with_reducible apply b5 hA);cbv)
 have hlt0:qh 0 (Int.ofNat 1)=true:=e7 _ _;have hlt1:qh 1 (Int.ofNat 1)=false:=e7 _ _;have hn0:qx 0 1=some 0:=hnat _ _;have hz1:qa .i64 (qb 0 1)=1:=by rw[e1,e2];rfl
 refine l9 hA (γ:=Bool) (λb=>match b with|false=>[(12,vi .i64 0)]|true=>[(12,vi .i64 1),(20,.jk),(21,.jk)]) (λb=>match b with|false=>[]|true=>[(3,.box [.d (.sc (.int .u8 o2)),.d (.sc (.string m2)),.d (.sc (.int .i64 n2)),.d (.sl 4 K2)]),(4,.dead)]) (λ_=>True) (λb=>match b with|false=>1|true=>0) false trivial ?_ ?_
 ·cbv
 ·intro b _;cases b with
  | false =>
   cbv
   repeat ((with_reducible apply b5 hA);cbv)
   rw[hlt0]
   iterate 2 (try cbv;repeat ((first|with_reducible apply b5 hA|rw[hn0]);cbv))
   try simp (maxSteps:=4000000) only [nc] at *
   refine a1g hA [3] (by kernel_rfl) ?_;cbv
   repeat' (first
    | (with_reducible apply And.intro)
    | (rw[hn0];cbv)
    | (refine c7 hA [4] hsp ⟨rfl,rfl,rfl,rfl,rfl,rfl,rfl⟩ ?_;rintro _ _ ⟨rfl,rfl⟩;cbv))
   all_goals repeat ((with_reducible apply b5 hA);cbv)
   all_goals (rw[hz1];refine⟨true,trivial,c41,?_⟩;cbv)
  | true =>
   cbv
   repeat ((with_reducible apply b5 hA);cbv)
   rw[hlt1];cbv;refine b1E hA 3 1 25 [.sc (.int .u8 o2),.sc (.string m2),.sc (.int .i64 n2),.sl 4 K2] [[.sc (.int .u8 o2),.sc (.string m2),.sc (.int .i64 n2),.sl 4 K2]] rfl rfl rfl ?_;cbv;refine b43 hA 0 ?_;cbv
   repeat ((with_reducible apply b5 hA);cbv)
   exact d7 hA [0] (res':=[.ag [.d (.sc (.int .u8 op)),.d (.sc (.string nm)),.d (.sc (.int .i64 n)),.d (.sl 4 [[.sc (.int .u8 o2),.sc (.string m2),.sc (.int .i64 n2),.sl 4 K2]])]]) (os':=[.dead]) ⟨rfl,rfl,rfl,rfl,rfl,rfl,rfl,rfl⟩ ⟨rfl,rfl⟩
theorem b7E (op:Int) (nm:ByteArray) (n:Int) (x y:Ty) (hop:op≠11) (hx:L7 x) (hy:L7 y):L7 (.mk op nm n [x,y]):=by
 intro z;show j3 25 [oT (.int .u8 op) (.string nm) (.int .i64 n) 0] [.it (i7 z 25 (rT [x,y]))] _;rw[show sRT (.mk op nm n [x,y])=sR (.int .u8 op) (.string nm) (.int .i64 n) (rT (List.map b6 [x,y])) by unfold sRT;rw[w6 (t:=.mk op nm n [x,y]) hop];rfl];show j3 _ _ _ (sR (.int .u8 op) (.string nm) (.int .i64 n) (rT [b6 x,b6 y]));have hsp:=hx false;have hsq:=hy false;have hct:∀y z:Ty,rT [y,z]=[[.sc (.int .u8 y.op),.sc (.string y.name),.sc (.int .i64 y.n),.sl 4 (rT y.kids)],[.sc (.int .u8 z.op),.sc (.string z.name),.sc (.int .i64 z.n),.sl 4 (rT z.kids)]]:=λy z=>by cases y;cases z;rw[rT,cT,rT,cT,rT];rfl
 rw[hct,hct];replace hsp:j3 25 _ _ (sR (.int .u8 (b6 x).op) (.string (b6 x).name) (.int .i64 (b6 x).n) (rT (b6 x).kids)):=hsp;generalize rT (b6 x).kids=K2 at *;generalize (b6 x).op=o2 at *;generalize (b6 x).name=m2 at *;generalize (b6 x).n=n2 at *;generalize rT x.kids=K1 at *;generalize x.op=o1 at *;generalize x.name=m1 at *;generalize x.n=n1 at *;replace hsq:j3 25 _ _ (sR (.int .u8 (b6 y).op) (.string (b6 y).name) (.int .i64 (b6 y).n) (rT (b6 y).kids)):=hsq;generalize rT (b6 y).kids=P2 at *;generalize (b6 y).op=o4 at *;generalize (b6 y).name=m4 at *;generalize (b6 y).n=n4 at *;generalize rT y.kids=P1 at *;generalize y.op=o3 at *;generalize y.name=m3 at *;generalize y.n=n3 at *;refine so9 Tryd.func25 rfl ?_;intro qa qb _ _ _ _ _ qh _ qj _ _ _ _ _ _ _ _ _ _ _ qx;intros;rename_i hA;cbv;obtain⟨e1,e2,e3,e4,e5,e6,e7,e8,e9⟩:=j8 hA;have h11:qj op 11=false:=by rw[e9];simpa using hop
 have hnat:=(H2 hA).2.2.1
 with_reducible apply b5 hA
 cbv;refine a2h hA 0 rfl (by simp) ?_;cbv;rw[h11];cbv
 repeat ((with_reducible apply b5 hA);cbv)
 have hlt0:qh 0 (Int.ofNat 2)=true:=e7 _ _;have hlt1:qh 1 (Int.ofNat 2)=true:=e7 _ _;have hlt2:qh 2 (Int.ofNat 2)=false:=e7 _ _;have hn0:qx 0 2=some 0:=hnat _ _;have hn1:qx 1 2=some 1:=hnat _ _;have hz1:qa .i64 (qb 0 1)=1:=by rw[e1,e2];rfl
 have hz2:qa .i64 (qb 1 1)=2:=by rw[e1,e2];rfl
 refine l9 hA (γ:=Option Bool) (λb=>match b with|none=>[(12,vi .i64 0)]|some false=>[(12,vi .i64 1),(20,.jk),(21,.jk)]|some true=>[(12,vi .i64 2),(20,.jk),(21,.jk)])
  (λb=>match b with
   | none=>[]
   | some false=>[(3,.box [.d (.sc (.int .u8 o2)),.d (.sc (.string m2)),.d (.sc (.int .i64 n2)),.d (.sl 4 K2),.d (.sc (.int .u8 o3)),.d (.sc (.string m3)),.d (.sc (.int .i64 n3)),.own 5]),(4,.dead)]
   | some true=>[(3,.box [.d (.sc (.int .u8 o2)),.d (.sc (.string m2)),.d (.sc (.int .i64 n2)),.d (.sl 4 K2),.d (.sc (.int .u8 o4)),.d (.sc (.string m4)),.d (.sc (.int .i64 n4)),.d (.sl 4 P2)]),(4,.dead),(5,.dead)]) (λ_=>True) (λb=>match b with|none=>2|some false=>1|some true=>0) none trivial ?_ ?_
 ·cbv
 ·intro b _
  rcases b with _|(_|_)
  ·cbv
   repeat ((with_reducible apply b5 hA);cbv)
   rw[hlt0]
   iterate 2 (try cbv;repeat ((first|with_reducible apply b5 hA|rw[hn0]);cbv))
   try simp (maxSteps:=4000000) only [nc] at *
   refine a1g hA [3] (by kernel_rfl) ?_;cbv
   repeat' (first
    | (with_reducible apply And.intro)
    | (rw[hn0];cbv)
    | (refine c7 hA [4] hsp ⟨rfl,rfl,rfl,rfl,rfl,rfl,rfl⟩ ?_;rintro _ _ ⟨rfl,rfl⟩;cbv))
   all_goals repeat ((with_reducible apply b5 hA);cbv)
   all_goals (rw[hz1];refine⟨some false,trivial,Nat.one_lt_two,?_⟩;cbv)
  ·cbv
   repeat ((with_reducible apply b5 hA);cbv)
   rw[hlt1]
   iterate 2 (try cbv;repeat ((first|with_reducible apply b5 hA|rw[hn1]);cbv))
   try simp (maxSteps:=4000000) only [nc] at *
   refine a1g hA [3] (by kernel_rfl) ?_;cbv
   repeat' (first
    | (with_reducible apply And.intro)
    | (rw[hn1];cbv)
    | (refine c7 hA [5] hsq ⟨rfl,rfl,rfl,rfl,rfl,rfl,rfl⟩ ?_;rintro _ _ ⟨rfl,rfl⟩;cbv))
   all_goals repeat ((with_reducible apply b5 hA);cbv)
   all_goals (rw[hz2];refine⟨some true,trivial,c41,?_⟩;cbv)
  ·cbv
   repeat ((with_reducible apply b5 hA);cbv)
   rw[hlt2];cbv;refine b1E hA 3 2 25 [.sc (.int .u8 o2),.sc (.string m2),.sc (.int .i64 n2),.sl 4 K2,.sc (.int .u8 o4),.sc (.string m4),.sc (.int .i64 n4),.sl 4 P2] [[.sc (.int .u8 o2),.sc (.string m2),.sc (.int .i64 n2),.sl 4 K2],[.sc (.int .u8 o4),.sc (.string m4),.sc (.int .i64 n4),.sl 4 P2]] rfl rfl rfl ?_;cbv;refine b43 hA 0 ?_;cbv
   repeat ((with_reducible apply b5 hA);cbv)
   exact d7 hA [0] (res':=[.ag [.d (.sc (.int .u8 op)),.d (.sc (.string nm)),.d (.sc (.int .i64 n)),.d (.sl 4 [[.sc (.int .u8 o2),.sc (.string m2),.sc (.int .i64 n2),.sl 4 K2],[.sc (.int .u8 o4),.sc (.string m4),.sc (.int .i64 n4),.sl 4 P2]])]]) (os':=[.dead]) ⟨rfl,rfl,rfl,rfl,rfl,rfl,rfl,rfl⟩ ⟨rfl,rfl⟩
end Go.Proofs.YtlofmibkljoapaaDoor.Vm
end
