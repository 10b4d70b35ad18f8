/- Part 22 of the proof. Conditions: none. -/
import Derived.Test.YtahpnackkmbmgaaGreatE4
import Derived.Test.YtahpnackkmbmgaaGreatE15
import Derived.Test.YtahpnackkmbmgaaGreatE0
set_option linter.all false
set_option linter.unusedVariables false
set_option linter.unusedSimpArgs false
section
namespace Go.Proofs.YtahpnackkmbmgaaGreat.Vm
open Go.RowKit
set_option maxRecDepth 100000
set_option maxHeartbeats 4000000
section
abbrev IvG:=(Nat→D)→Int→Int→Nat→Prop
section
variable {T:List (List D)} {a L L1 p k c n u1 u2:Int} {x:Nat→D} {s:ByteArray} {m0:Nat} {R:List D} {inv:IvG}
def c5h (T:List (List D)) (L p:Int) (R:List D) (inv:IvG) (x:Nat→D) (n c:Int) (m:Nat):Prop :=
 ((c == 0)=false∧R=gG x n c)∨∃s,c=0∧AmN T n [⟨#[43]⟩,⟨#[45]⟩] s∧(((s.toList == ByteArray.toList ⟨#[]⟩)=true∧R=gG x n 0)∨∃(n1 n2 d z1 z2:Int) (y z:Nat→D) (i:Nat),(s.toList == ByteArray.toList ⟨#[]⟩)=false∧wI n 1 n1∧BiN T n1 L 2 (gG y n2 d)∧NdN 40 s ⟨#[]⟩ 0 p n2 [gG x n 0,gG y n2 d] (gG z z1 z2)∧inv z z1 z2 i∧i<m)
theorem d2l (g0:tK T a k s u1 u2) (h0:BiN T a L 2 (gG x n c)) (hv:inv x n c m0) (hst:∀x n c m,inv x n c m→c5h T L u2 R inv x n c m):BiN T a L 1 R:=by
 obtain ⟨Q,hQ⟩:∃Q:(Nat→D)×Int×Int×Nat→Prop,Q=fun y=>inv y.1 y.2.1 y.2.2.1 y.2.2.2:=⟨_,rfl⟩
 have hq0:Q (x,n,c,m0):=by rw [hQ];exact hv
 refine N2 Tryz.func58 rfl ?_;intro _ _ _ _ _ _ _ _ _ _ _ _ _ _ _ _ _ _ _ _ _ _ _ _ _ _ _ _ _ _ _ _ _ _ _ _ _ _ _ _ _ vw;intros;rename_i hA
 obtain ⟨e1,e2,e3,e4,e5,e6,e7,e8,e9⟩:=j7 hA
 have w1:IntKind.i64.wrap (1+1)=2:=by rw [IntWalk.i64_in _ (by omega)];rfl
 have b1:((1:Int) == 3)=false:=rfl
 have b2:((1:Int) == 2)=false:=rfl
 have q0:=ew hA w1
 have q1:=eb hA b1
 have q2:=eb hA b2
 have q3:=eg hA g0
 try cbv;refine gr ?_;try simp only [nc] at *
 refine j9 hA (γ:=(Nat→D)×Int×Int×Nat) (fun y=>[(12,.jk)]) (fun y=>[(1,.box (A7 (gG y.1 y.2.1 y.2.2.1)))]) Q (fun y=>y.2.2.2) (x,n,c,m0) hq0 ?_ ?_
 ·cbv
 ·intro y hinv
  obtain ⟨x,n,c,m⟩:=y
  cbv;refine gn ?_;try simp only [nc] at *
  rw [hQ] at hinv
  have hst:=hst x n c m hinv
  clear hv hq0 h0
  rcases hst with ⟨b0,hr⟩|⟨s,rfl,h1,⟨x0,hr⟩|⟨n1,n2,d,z1,z2,y,z,i,x0,w0,h2,o0,hi,hm⟩⟩
  ·rw [hr];exact I5
  ·rw [hr];exact I5
  ·replace hi:Q (z,z1,z2,i):=(by rw [hQ];exact hi);exact I5
def c5i (T:List (List D)) (L p:Int) (R:List D) (inv:IvG) (x:Nat→D) (n c:Int) (m:Nat):Prop :=
 ((c == 0)=false∧R=gG x n c)∨∃s,c=0∧AmN T n [⟨#[42]⟩,⟨#[47]⟩,⟨#[37]⟩] s∧(((s.toList == ByteArray.toList ⟨#[]⟩)=true∧R=gG x n 0)∨∃(n1 n2 d z1 z2:Int) (y z:Nat→D) (i:Nat),(s.toList == ByteArray.toList ⟨#[]⟩)=false∧wI n 1 n1∧BiN T n1 L 3 (gG y n2 d)∧NdN 40 s ⟨#[]⟩ 0 p n2 [gG x n 0,gG y n2 d] (gG z z1 z2)∧inv z z1 z2 i∧i<m)
theorem d2m (g0:tK T a k s u1 u2) (h0:BiN T a L 3 (gG x n c)) (hv:inv x n c m0) (hst:∀x n c m,inv x n c m→c5i T L u2 R inv x n c m):BiN T a L 2 R:=by
 obtain ⟨Q,hQ⟩:∃Q:(Nat→D)×Int×Int×Nat→Prop,Q=fun y=>inv y.1 y.2.1 y.2.2.1 y.2.2.2:=⟨_,rfl⟩
 have hq0:Q (x,n,c,m0):=by rw [hQ];exact hv
 refine N2 Tryz.func58 rfl ?_;intro _ _ _ _ _ _ _ _ _ _ _ _ _ _ _ _ _ _ _ _ _ _ _ _ _ _ _ _ _ _ _ _ _ _ _ _ _ _ _ _ _ vw;intros;rename_i hA
 obtain ⟨e1,e2,e3,e4,e5,e6,e7,e8,e9⟩:=j7 hA
 have w1:IntKind.i64.wrap (2+1)=3:=by rw [IntWalk.i64_in _ (by omega)];rfl
 have b1:((2:Int) == 3)=false:=rfl
 have b2:((2:Int) == 2)=true:=rfl
 have q0:=ew hA w1
 have q1:=eb hA b1
 have q2:=eb hA b2
 have q3:=eg hA g0
 try cbv;refine gr ?_;try simp only [nc] at *
 refine j9 hA (γ:=(Nat→D)×Int×Int×Nat) (fun y=>[(12,.jk)]) (fun y=>[(1,.box (A7 (gG y.1 y.2.1 y.2.2.1)))]) Q (fun y=>y.2.2.2) (x,n,c,m0) hq0 ?_ ?_
 ·cbv
 ·intro y hinv
  obtain ⟨x,n,c,m⟩:=y
  cbv;refine gn ?_;try simp only [nc] at *
  rw [hQ] at hinv
  have hst:=hst x n c m hinv
  clear hv hq0 h0
  rcases hst with ⟨b0,hr⟩|⟨s,rfl,h1,⟨x0,hr⟩|⟨n1,n2,d,z1,z2,y,z,i,x0,w0,h2,o0,hi,hm⟩⟩
  ·rw [hr];exact I5
  ·rw [hr];exact I5
  ·replace hi:Q (z,z1,z2,i):=(by rw [hQ];exact hi);exact I5
def c8d (T:List (List D)) (L p:Int) (R:List D) (inv:IvG) (x:Nat→D) (n c:Int) (m:Nat):Prop :=
 ((c == 0)=false∧R=gG x n c)∨∃(k u v:Int) (s r:ByteArray),c=0∧tK T n k s u v∧AmN T n [⟨#[64]⟩,⟨#[94]⟩,⟨#[116,114,117,101]⟩,⟨#[102,97,108,115,101]⟩,⟨#[40]⟩,⟨#[123]⟩,⟨#[99,97,115,101]⟩] r∧(((k == 1)=false∧(k == 2)=false∧(r.toList == ByteArray.toList ⟨#[]⟩)=true∧R=gG x n 0) ∨
  ((k == 1)=true∨(k == 1)=false∧((k == 2)=true∨(k == 2)=false∧(r.toList == ByteArray.toList ⟨#[]⟩)=false))∧∃(n2 d z1 z2:Int) (y z:Nat→D) (i:Nat),E6N 110 T n L (gG y n2 d)∧NdN 37 ⟨#[]⟩ ⟨#[]⟩ 0 p n2 [gG x n 0,gG y n2 d] (gG z z1 z2)∧inv z z1 z2 i∧i<m)
theorem d0C (g0:tK T a k s u1 u2) (h0:E6N 110 T a L (gG x n c)) (hv:inv x n c m0) (hst:∀x n c m,inv x n c m→c8d T L u2 R inv x n c m):E6N 89 T a L R:=by
 obtain ⟨Q,hQ⟩:∃Q:(Nat→D)×Int×Int×Nat→Prop,Q=fun y=>inv y.1 y.2.1 y.2.2.1 y.2.2.2:=⟨_,rfl⟩
 have hq0:Q (x,n,c,m0):=by rw [hQ];exact hv
 refine N2 Tryz.func89 rfl ?_;intro _ _ _ _ _ _ _ _ _ _ _ _ _ _ _ _ _ _ _ _ _ _ _ _ _ _ _ _ _ _ _ _ _ _ _ _ _ _ _ _ _ vw;intros;rename_i hA
 have q3:=eg hA g0
 try cbv;refine gr ?_;try simp only [nc] at *
 refine j9 hA (γ:=(Nat→D)×Int×Int×Nat) (fun y=>[]) (fun y=>[(1,.box (A7 (gG y.1 y.2.1 y.2.2.1)))]) Q (fun y=>y.2.2.2) (x,n,c,m0) hq0 ?_ ?_
 ·cbv
 ·intro y hinv
  obtain ⟨x,n,c,m⟩:=y
  cbv;refine gn ?_;try simp only [nc] at *
  rw [hQ] at hinv
  have hst:=hst x n c m hinv
  clear hv hq0 h0
  rcases hst with ⟨b0,hr⟩|⟨k,u,v,s,r,rfl,g0,h1,⟨b0,b1,x0,hr⟩|⟨b0|⟨b0,b1|⟨b1,x0⟩⟩,n2,d,z1,z2,y,z,i,h2,o0,hi,hm⟩⟩
  ·rw [hr];exact I5
  ·rw [hr];exact I5
  ·replace hi:Q (z,z1,z2,i):=(by rw [hQ];exact hi);exact I5
  ·replace hi:Q (z,z1,z2,i):=(by rw [hQ];exact hi);exact I5
  ·replace hi:Q (z,z1,z2,i):=(by rw [hQ];exact hi);exact I5
def c8e (T:List (List D)) (p:Int) (R:List D) (inv:IvG) (x:Nat→D) (n c:Int) (m:Nat):Prop :=
 ((c == 0)=false∧R=gG x n c)∨c=0∧((AmN T n [⟨#[46]⟩,⟨#[92]⟩] ⟨#[]⟩∧R=gG x n 0)∨(AmN T n [⟨#[46]⟩,⟨#[92]⟩] ⟨#[46]⟩∧∃(n1 k u v:Int) (s:ByteArray),wI n 1 n1∧tK T n1 k s u v∧(((k == 1)=false∧WrN n1 5∧R=zG n1 5)∨∃(n2 z1 z2:Int) (z:Nat→D) (i:Nat),(k == 1)=true∧wI n 2 n2∧NdN 43 s ⟨#[]⟩ 0 p n2 [gG x n 0] (gG z z1 z2)∧inv z z1 z2 i∧i<m))∨(AmN T n [⟨#[46]⟩,⟨#[92]⟩] ⟨#[92]⟩∧∃(n1 k u v:Int) (s:ByteArray),wI n 1 n1∧tK T n1 k s u v∧(((k == 1)=false∧WrN n1 5∧R=zG n1 5)∨∃(n2 z1 z2:Int) (z:Nat→D) (i:Nat),(k == 1)=true∧wI n 2 n2∧NdN 44 s ⟨#[]⟩ 0 p n2 [gG x n 0] (gG z z1 z2)∧inv z z1 z2 i∧i<m)))
theorem c8f (g0:tK T a k s u1 u2) (h8:AmN T a [⟨#[64]⟩,⟨#[94]⟩] ⟨#[]⟩) (h0:E6N 125 T a L (gG x n c)) (hv:inv x n c m0) (hst:∀x n c m,inv x n c m→c8e T u2 R inv x n c m):E6N 110 T a L R:=by
 obtain ⟨Q,hQ⟩:∃Q:(Nat→D)×Int×Int×Nat→Prop,Q=fun y=>inv y.1 y.2.1 y.2.2.1 y.2.2.2:=⟨_,rfl⟩
 have hq0:Q (x,n,c,m0):=by rw [hQ];exact hv
 refine N2 Tryz.func110 rfl ?_;intro _ _ _ _ _ _ _ _ _ _ _ _ _ _ _ _ _ _ _ _ _ _ _ _ _ _ _ _ _ _ _ _ _ _ _ _ _ _ _ _ _ vw;intros;rename_i hA
 have q3:=eg hA g0
 iterate 2 (try cbv;repeat ((first|with_reducible apply f8 hA|rw [q3]|refine f9 hA _ h0 rfl ?_|refine i7 hA _ h0 ?_|refine f9 hA _ h8 rfl ?_|refine i7 hA _ h8 ?_|refine A6 hA true ?_|rw [esl hA]);cbv))
 try simp (maxSteps:=4000000) only [nc] at *
 refine j9 hA (γ:=(Nat→D)×Int×Int×Nat) (fun y=>[(12,.jk),(13,.jk)]) (fun y=>[(1,.box (A7 (gG y.1 y.2.1 y.2.2.1)))]) Q (fun y=>y.2.2.2) (x,n,c,m0) hq0 ?_ ?_
 ·cbv
 ·intro y hinv
  obtain ⟨x,n,c,m⟩:=y
  cbv;refine gn ?_;try simp only [nc] at *
  rw [hQ] at hinv
  have hst:=hst x n c m hinv
  clear hv hq0 h0
  rcases hst with ⟨b0,hr⟩|⟨rfl,⟨h1,hr⟩|⟨h1,n1,k,u,v,s,w0,g1,⟨b0,h2,hr⟩|⟨n2,z1,z2,z,i,b0,w1,o0,hi,hm⟩⟩|⟨h1,n1,k,u,v,s,w0,g1,⟨b0,h2,hr⟩|⟨n2,z1,z2,z,i,b0,w1,o0,hi,hm⟩⟩⟩
  ·rw [hr];exact I5
  ·rw [hr];exact I5
  ·rw [hr];exact I5
  ·replace hi:Q (z,z1,z2,i):=(by rw [hQ];exact hi);exact I5
  ·rw [hr];exact I5
  ·replace hi:Q (z,z1,z2,i):=(by rw [hQ];exact hi);exact I5
abbrev IvC:=List (List D)→Int→Bool→Nat→Prop
def c8h (T:List (List D)) (L1:Int) (R:List D) (inv:IvC) (K:List (List D)) (m:Nat) (op:Int) (nm:ByteArray) (p n:Int) (b:Bool) (w:Int):Prop :=
 ∃(k u v:Int) (s:ByteArray),wI w 1 n∧tK T n k s u v∧(((k == 1)=false∧WrN n 5∧R=zG n 5)∨∃(n2 n3 d:Int) (y:Nat→D),(k == 1)=true∧wI w 2 n2∧ThN T z11 n2 0 ⟨#[61,62]⟩ L1 (gG y n3 d)∧(((d == 0)=false∧R=gG y n3 d)∨∃(z1 z2:Int) (z:Nat→D) (i:Nat),d=0∧NdN op nm s 0 p n3 [gG y n3 0] (gG z z1 z2)∧inv (K++[gG z z1 z2]) n3 b i∧i<m))
def c5j (T:List (List D)) (L1:Int) (R:List D) (inv:IvC) (K:List (List D)) (m:Nat) (n:Int):Prop :=
 ∃(k u p n1:Int) (s:ByteArray),tK T n k s u p∧((S6N T ⟨#[101,108,115,101]⟩ n true∧c8h T L1 R inv K m 50 ⟨#[]⟩ p n1 true n)∨(S6N T ⟨#[101,108,115,101]⟩ n false∧(((k == 1)=false∧WrN n 5∧R=zG n 5)∨((k == 1)=true∧c8h T L1 R inv K m 49 s p n1 false n))))
def c8i (T:List (List D)) (L1 p:Int) (R:List D) (inv:IvC) (K:List (List D)) (n:Int) (b:Bool) (m:Nat):Prop :=
  (((b=true∨(b=false∧S6N T ⟨#[101,110,100]⟩ n true))∧∃(z:Nat→D) (z1 z2 y1 y2:Int) (y:Nat→D),NdN 48 ⟨#[]⟩ ⟨#[]⟩ 0 p n K (gG z z1 z2)∧ClN T z z1 z2 ⟨#[101,110,100]⟩ (gG y y1 y2)∧R=gG y y1 y2) ∨
   (b=false∧S6N T ⟨#[101,110,100]⟩ n false∧K.length≤1048576∧((decide (1<(K.length:Int))=false∧c5j T L1 R inv K m n)∨(decide (1<(K.length:Int))=true∧((S6N T ⟨#[59]⟩ n false∧WrN n 5∧R=zG n 5)∨∃n0:Int,S6N T ⟨#[59]⟩ n true∧wI n 1 n0∧c5j T L1 R inv K m n0)))))
theorem c2V {a1:Int} {inv:IvC} (w6:wI a 1 a1) (w7:wI L 1 L1) (h8:ExN T a1 L1 (gG x n 0)) (h9:S6N T ⟨#[111,102]⟩ n true) (w0:wI n 1 p) (g0:tK T a k s u1 u2) (hv:inv [gG x n 0] p false m0) (hst:∀K n b m,inv K n b m→c8i T L1 u2 R inv K n b m):E6N 137 T a L R:=by
 obtain ⟨Q,hQ⟩:∃Q:List (List D)×Int×Bool×Nat→Prop,Q=fun y=>inv y.1 y.2.1 y.2.2.1 y.2.2.2:=⟨_,rfl⟩
 have hq0:Q ([gG x n 0],p,false,m0):=by rw [hQ];exact hv
 refine N2 Tryz.func137 rfl ?_;intro _ _ _ _ _ _ _ _ _ qk _ _ _ _ _ _ _ _ _ _ _ _ _ _ _ _ _ _ _ _ _ _ _ _ _ _ _ _ _ _ _ vw;intros;rename_i hA
 have q0:=ew hA w6
 have q1:=ew hA w7
 have q2:=ew hA w0
 have q3:qk 0 0=true:=ebr hA
 have q4:=eg hA g0
 iterate 2 (try cbv;repeat ((first|with_reducible apply f8 hA|rw [q0]|rw [q1]|rw [q2]|rw [q3]|refine f9 hA _ h8 rfl ?_|refine i7 hA _ h8 ?_|refine f9 hA _ h9 rfl ?_|refine i7 hA _ h9 ?_|refine A6 hA false ?_|refine a1E hA true ?_);cbv))
 try simp (maxSteps:=4000000) only [nc] at *
 refine j9 hA (γ:=List (List D)×Int×Bool×Nat) (fun y=>[(8,.own 2),(9,vi .i64 y.2.1),(10,vb y.2.2.1),(11,.jk),(12,.jk),(13,.jk),(33,.jk)]) (fun y=>[(2,.row true 70 y.1)]) Q (fun y=>y.2.2.2) ([gG x n 0],p,false,m0) hq0 ?_ ?_
 ·cbv
 ·intro y hinv
  obtain ⟨K,n,b,m⟩:=y
  cbv;refine gn ?_;try simp only [nc] at *
  rw [hQ] at hinv
  have hst:=hst K n b m hinv
  clear hv hq0 h8 h9 w6 w0
  rcases hst with ⟨rfl|⟨rfl,h1⟩,z,z1,z2,y1,y2,y,o0,h2,hr⟩|⟨rfl,h1,hK2,⟨l0,⟨k1,u3,p1,n1,s1,g1,⟨h3,⟨k2,u3,v3,s2,w1,g2,⟨b1,h4,hr⟩|⟨n2,n3,d,y,b1,w2,h5,⟨b2,hr⟩|⟨z1,z2,z,i,rfl,o0,hi,hm⟩⟩⟩⟩|⟨h3,⟨b0,h4,hr⟩|⟨b0,⟨k2,u3,v3,s2,w1,g2,⟨b1,h4,hr⟩|⟨n2,n3,d,y,b1,w2,h5,⟨b2,hr⟩|⟨z1,z2,z,i,rfl,o0,hi,hm⟩⟩⟩⟩⟩⟩⟩|⟨l0,⟨h2,h3,hr⟩|⟨n0,h2,w0,⟨k1,u3,p1,n1,s1,g1,⟨h3,⟨k2,u3,v3,s2,w1,g2,⟨b1,h4,hr⟩|⟨n2,n3,d,y,b1,w2,h5,⟨b2,hr⟩|⟨z1,z2,z,i,rfl,o0,hi,hm⟩⟩⟩⟩|⟨h3,⟨b0,h4,hr⟩|⟨b0,⟨k2,u3,v3,s2,w1,g2,⟨b1,h4,hr⟩|⟨n2,n3,d,y,b1,w2,h5,⟨b2,hr⟩|⟨z1,z2,z,i,rfl,o0,hi,hm⟩⟩⟩⟩⟩⟩⟩⟩⟩
  ·rw [hr]
   iterate 2 (try cbv;repeat ((first|refine a12 hA 8 _ _ rfl rfl ?_|with_reducible apply f8 hA|rw [q4]|refine f9 hA _ h2 rfl ?_|refine i7 hA _ h2 ?_|(refine a6v hA [] o0 ⟨rfl,rfl,rfl,rfl,rfl,rfl,rfl⟩ rfl ?_;rintro _ rfl));cbv))
  ·rw [hr]
   iterate 2 (try cbv;repeat ((first|refine a12 hA 8 _ _ rfl rfl ?_|with_reducible apply f8 hA|rw [q4]|refine f9 hA _ h1 rfl ?_|refine i7 hA _ h1 ?_|refine f9 hA _ h2 rfl ?_|refine i7 hA _ h2 ?_|(refine a6v hA [] o0 ⟨rfl,rfl,rfl,rfl,rfl,rfl,rfl⟩ rfl ?_;rintro _ rfl));cbv))
  ·rw [hr];exact I5
  ·rw [hr];exact I5
  ·replace hi:Q (_,n3,_,i):=(by rw [hQ];exact hi);exact I5
  ·rw [hr];exact I5
  ·rw [hr];exact I5
  ·rw [hr];exact I5
  ·replace hi:Q (_,n3,_,i):=(by rw [hQ];exact hi);exact I5
  ·rw [hr];exact I5
  ·rw [hr];exact I5
  ·rw [hr];exact I5
  ·replace hi:Q (_,n3,_,i):=(by rw [hQ];exact hi);exact I5
  ·rw [hr];exact I5
  ·rw [hr];exact I5
  ·rw [hr];exact I5
  ·replace hi:Q (_,n3,_,i):=(by rw [hQ];exact hi);exact I5
end
end
end Go.Proofs.YtahpnackkmbmgaaGreat.Vm
end
