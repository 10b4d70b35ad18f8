/- Part 19 of the proof. Conditions: none. -/
import Derived.Test.YtlofmibkljoapaaDoorO4
import Derived.Test.YtlofmibkljoapaaDoorO8
import Derived.Test.YtlofmibkljoapaaDoorO12
import Derived.Test.YtlofmibkljoapaaDoorO13
import Derived.Test.YtlofmibkljoapaaDoorO17
import Derived.Test.YtlofmibkljoapaaDoorO18
import Derived.IntWalk
import Derived.Test.YtlofmibkljoapaaDoorO0
set_option linter.all false
set_option linter.unusedVariables false
set_option linter.unusedSimpArgs false
section
namespace Go.Proofs.YtlofmibkljoapaaDoor.Vm
open Go.RowKit
set_option maxRecDepth 100000
set_option maxHeartbeats 4000000
theorem a3i (y:Ty):cT y=[.sc (.int .u8 y.op),.sc (.string y.name),.sc (.int .i64 y.n),.sl 4 (rT y.kids)]:=by cases y;rw[cT];rfl
theorem b7F (t:Ty) (hop:t.op=11) (hs:Q9 t) (hN:t.parts.length<=1048576) (ih:∀f∈c6 t,L7 f.2/\(b6 f.2).parts.length<=1048576) (htl:(j0 t).parts.length<=1048576):L7 t:=by
 have hcr:=C9 hop;have hso:=b1l 44 b5G (rF ((c6 t).map cfS)) (b7i _) (by rw[U3,c3f];have:=L5 _ t (c2A _);omega);rw[b4b] at hso;have hsm:i6 K5 ((c6 t).map cfS)=(i6 K5 (c6 t)).map cfS:=Z2 (f:=cfS) (λ_ _=>rfl) _;rw[hsm] at hso;have hcop:∀y:Ty,y.parts.length<=1048576->m6 69 [.ag (cT y)] [.ag (cT y)]:=a1F;have hct:=hcop (j0 t) htl
 have hcf:∀r∈rF ((i6 K5 (c6 t)).map cfS),∃nm c0 c1 c2 c3,r=[nm,c0,c1,c2,c3]/\m6 69 [.ag [c0,c1,c2,c3]] [.ag [c0,c1,c2,c3]]:=λr hr=>by
  obtain⟨f,hf,rfl⟩:=c3k.1 hr;obtain⟨f0,hf0,rfl⟩:=c3k.1 hf;have h3:=hcop (b6 f0.2) (ih f0 (A7 hf0)).2;obtain⟨c0,c1,c2,c3,hcc⟩:=d6 (b6 f0.2);rw[hcc] at h3;exact⟨_,c0,c1,c2,c3,by show D.sc _::cT (b6 f0.2)=_;rw[hcc],h3⟩
 obtain⟨q0,q1,q2,q3,hq⟩:=d6 (j0 t);rw[hq] at hct;have hJ:=b2E (rF ((i6 K5 (c6 t)).map cfS)) q0 q1 q2 q3 (by rw[U3,c3f,a0M];have:=L5 _ t (c2A _);omega) hct hcf;have hj:=a4Z (j0 t) ((i6 K5 (c6 t)).map cfS);rw[hq,show x8 ((i6 K5 (c6 t)).map cfS) (j0 t)=b6 t from hcr.symm] at hj;rw[hj,a3i] at hJ;intro z;show j3 25 _ _ (sR (.int .u8 (b6 t).op) (.string (b6 t).name) (.int .i64 (b6 t).n) (rT (b6 t).kids));generalize (b6 t).op=yop at *;generalize (b6 t).name=ynm at *;generalize (b6 t).n=yn at *;generalize rT (b6 t).kids=yK at *;obtain⟨Q,hQ⟩:∃Q,Q=rF ((i6 K5 (c6 t)).map cfS):=⟨_,rfl⟩;obtain⟨M,hM⟩:∃M,M=rF ((c6 t).map cfS):=⟨_,rfl⟩;rw[<-hQ] at hJ;rw[<-hQ,<-hM] at hso;obtain⟨op,nm,n,ks⟩:=t;generalize ht:Ty.mk op nm n ks=t at *;have e1:t.op=op:=by rw[<-ht];rfl
 have e2:t.name=nm:=by rw[<-ht];rfl
 have e3:t.n=n:=by rw[<-ht];rfl
 have e4:t.kids=ks:=by rw[<-ht];rfl
 rw[e1,e2,e3,e4];rw[e1] at hop;obtain⟨K0,hK0⟩:∃K,K=rT ks:=⟨_,rfl⟩;rw[<-hK0];refine so9 Tryd.func25 rfl ?_;intro _ _ _ _ _ _ _ _ _ qj _ _ _ _ _ _ _ _ _ _ _ qx _ _ _ vc;intros;rename_i hA;obtain⟨e1,e2,e3,e4,e5,e6,e7,e8,e9⟩:=j8 hA;obtain⟨r1,r2,r3,r4⟩:=n9 hA;have hnat:=(H2 hA).2.2.1;have hn0:qx 0 2=some 0:=hnat _ _;have hn1:qx 1 2=some 1:=hnat _ _;have h11:qj op 11=true:=by rw[e9];simpa using hop
 cbv
 repeat ((with_reducible apply b5 hA);cbv)
 rw[h11];cbv;refine a0v hA 0 (z:=z) (rows:=K0) rfl ?_;cbv;refine a55 hA 5 73 false rfl ?_;cbv
 refine l9 hA (γ:=Ty×Int×ByteArray×Int×List (List D)×List (List D)) (λx=>[(0,.jk),(5,.own 3)]) (λx=>[(0,.it (i7 false 25 x.2.2.2.2.1)),(1,.box [.d (.sc (.int .u8 x.2.1)),.d (.sc (.string x.2.2.1)),.d (.sc (.int .i64 x.2.2.2.1)),.own 0]),(3,.row false 73 x.2.2.2.2.2)])
  (λx=>∃ks fs,x.1=.mk x.2.1 x.2.2.1 x.2.2.2.1 ks/\x.2.2.2.2.1=rT ks/\Q9 x.1/\x.2.2.2.2.2=rF (fs.map cfS)/\fs++c6 x.1=c6 t/\j0 x.1=j0 t/\fs.length+x.1.parts.length<=1048576) (λx=>x.1.parts.length) (t,op,nm,n,K0,[]) ?_ ?_ ?_
 ·exact⟨ks,[],ht.symm,hK0,hs,rfl,rfl,rfl,by simpa using hN⟩
 ·cbv
 ·intro x hinv;obtain⟨r,op,nm,n,K,L⟩:=x;cbv
  repeat ((with_reducible apply b5 hA);cbv)
  try simp (maxSteps:=4000000) only [nc] at *
  obtain⟨ks,fs,hr,hK,hsr,hL,hfs,htl,hlen⟩:=hinv;clear h11;have h11:qj op 11=decide (op=11):=e9 _ _
  by_cases hop:op=11
  ·rw[c2J hop] at h11;obtain⟨a,b,hk,hsb,hfb,htb⟩:=C7 hsr (by rw[hr];exact hop);have hnmr:r.name=nm:=by rw[hr];rfl
   rw[hnmr] at hfb;have hks:ks=[a,b]:=by rw[<-hk,hr];rfl
   have hbl:b.parts.length<r.parts.length:=(o7 r).2 b (by rw[hk];simp);have hia:=(ih (nm,a) (by rw[<-hfs,hfb];simp)).1 false;have hcf2:=a9V (fs.map cfS) (cfS (nm,a));have hmap:(fs++[(nm,a)]).map cfS=fs.map cfS++[cfS (nm,a)]:=by simp
   rw[<-hmap] at hcf2;have hcell:(cfS (nm,a)).2=b6 a:=rfl;rw[hcell,a3i] at hcf2;replace hia:j3 25 _ _ (sR (.int .u8 (b6 a).op) (.string (b6 a).name) (.int .i64 (b6 a).n) (rT (b6 a).kids)):=hia;have hKe:K=[[.sc (.int .u8 a.op),.sc (.string a.name),.sc (.int .i64 a.n),.sl 4 (rT a.kids)],[.sc (.int .u8 b.op),.sc (.string b.name),.sc (.int .i64 b.n),.sl 4 (rT b.kids)]]:=by rw[hK,hks,rT,rT,rT,a3i,a3i]
   have hbe:=b.eta;have hLl:L.length<=1048576:=by rw[hL,U3,c3f];omega
   have hnew:vc L [[.sc (.string nm),.sc (.int .u8 (b6 a).op),.sc (.string (b6 a).name),.sc (.int .i64 (b6 a).n),.sl 4 (rT (b6 a).kids)]]=rF ((fs++[(nm,a)]).map cfS):=by rw[r4,hcf2,hL];rfl
   have hinv2:fs++[(nm,a)]++c6 b=c6 t:=by rw[<-hfs,hfb];simp
   have htb2:j0 b=j0 t:=by rw[<-htl,htb]
   have hlen2:(fs++[(nm,a)]).length+b.parts.length<=1048576:=by rw[c29];show fs.length+1+b.parts.length<=_;omega
   generalize (b6 a).op=vo at *;generalize (b6 a).name=vm at *;generalize (b6 a).n=vn at *;generalize rT (b6 a).kids=vK at *;generalize hbo:b.op=bo at *;generalize hbm:b.name=bm at *;generalize hbn:b.n=bn at *;generalize hbK:rT b.kids=bK at *;generalize a.op=ao at *;generalize a.name=am at *;generalize a.n=an at *;generalize rT a.kids=aK at *;rw[h11,hKe];cbv;refine a2h hA 0 rfl (by simp) ?_;cbv;refine a1g hA [3,4,5,6] (by kernel_rfl) ?_;cbv
   repeat' (first
    | (with_reducible apply And.intro)
    | (rw[hn0];cbv)
    | (refine c7 hA [5] hia ⟨rfl,rfl,rfl,rfl,rfl,rfl,rfl⟩ ?_;rintro _ _ ⟨rfl,rfl⟩;cbv)
    | (refine P5 hA true ?_;cbv)
    | (refine K4 hA (by simp only[c2D,c2N];omega) ?_;cbv)
    | (refine a7F hA 0 6 rfl rfl rfl ?_;cbv))
   all_goals repeat (first|(with_reducible apply b5 hA;cbv)|(rw[hn1];cbv))
   all_goals refine⟨(b,bo,bm,bn,bK,vc L [[.sc (.string nm),.sc (.int .u8 vo),.sc (.string vm),.sc (.int .i64 vn),.sl 4 vK]]),⟨b.kids,fs++[(nm,a)],hbe,hbK.symm,hsb,hnew,hinv2,htb2,hlen2⟩,hbl,?_⟩
   all_goals cbv
  ·rw[c2G hop] at h11;obtain⟨hf0,ht0⟩:=E9 (t:=r) (by rw[hr];exact hop);rw[hf0,c3b] at hfs;have hLM:L=M:=by rw[hL,hM,hfs]
   rw[ht0,hr] at htl;rw[<-htl,cT,<-hK] at hq;rw[h11,hLM];cases hq;cbv
   repeat ((with_reducible apply b5 hA);cbv)
   refine C3 hA [3] hso ⟨rfl,rfl,rfl,rfl,rfl,rfl,rfl⟩ ?_
   rintro res os2 ⟨rfl,rfl⟩
   cbv;refine A4 hA _ ((v7.melt (k:=0) rfl).trans (v7.frz _ [3])) ?_;cbv;refine b9 hA _ hJ rfl ?_;cbv
   repeat ((with_reducible apply b5 hA);cbv)
   exact d7 hA [0] ⟨rfl,rfl,rfl,rfl,rfl,rfl,rfl,rfl⟩ ⟨rfl,rfl⟩
theorem b7G (op:Int) (nm:ByteArray) (n:Int) (ks:List Ty):(Ty.mk op nm n ks).parts.length=1+(ks.map λx=>x.parts.length).sum:=by
 rw[d5,c2D,c4S];simp only[Ty.kids];omega
theorem b7H {α:Type} {f g:α->Nat} (B:Nat):∀ {l:List α},(∀x∈l,f x<=g x * B)->(l.map f).sum<=(l.map g).sum * B
 | [],_=>by simp
 | x::l,h=>by
  have h1:=h x (c27 ..);have h2:=b7H B (l:=l) λy hy=>h y (c26 _ hy)
  simp only[c2Y,c30,c46];omega
theorem b7I (l:List (Int×Ty)) (B:Nat) (hB:1<=B) (hl:∀p∈l,p.2.parts.length<=B) (t:Ty):(l7 l t).parts.length<=t.parts.length * B:=by
 induction t using Ty.ind with
 | h t ih =>
  obtain⟨op,nm,n,ks⟩:=t;have h0:1<=(Ty.mk op nm n ks).parts.length:=l6 _
  by_cases hop:op=7\/op=10
  ·rw[l7,c2E hop];cases hp:ofS l n (op == 10) with
   | none=>exact Nat.le_mul_of_pos_right _ hB
   | some p =>
    have h1:=hl p (a6y hp).1;have h2:=B6 _ p.2 (c2A _) (j5 (a9c (a6y hp).2));show (b6 p.2).parts.length<=_;rw[h2];exact c3E h1 (Nat.le_mul_of_pos_left _ h0)
  ·rw[T3 l nm n ks hop,b7G,b7G,c3s,c46,c4W];have:=b7H (f:=λx=>(l7 l x).parts.length) (g:=λx=>x.parts.length) B (l:=ks) λx hx=>ih x hx
   exact Nat.add_le_add hB this
theorem b2N:∀(m:Nat) (t:Ty),t.parts.length<=m->m<=1048576->C4 t->b8Z t->L7 t:=by
 intro m
 induction m with
 | zero=>intro t h;have:=l6 t;omega
 | succ m ih =>
  intro t hm hm2 hs ht
  by_cases h11:t.op=11
  ·refine b7F t h11 hs.self (by omega) (λf hf=>?_) ?_
   ·have h1:=x9 _ t (c2A _) f hf;have h2:=P7 _ t (c2A _) f hf;refine⟨ih f.2 (by omega) (by omega) (hs.part h2) λx hx=>ht x (y9 hx h2),?_⟩;rw[B6 _ f.2 (c2A _) (hs.part h2)];omega
   ·have:=T0 _ t (c2A _) hs.self;omega
  ·have hk:∀x∈t.kids,L7 x:=λx hx=>by
    have h1:=(o7 t).2 x hx;exact ih x (by omega) (by omega) (hs.kid hx) λy hy=>ht y (by rw[d5];exact c26 _ (c2U.2 ⟨x,hx,hy⟩))
   have h2:=ht t (by rw[r6];exact c27 ..);obtain⟨op,nm,n,ks⟩:=t
   match ks,hk,h2 with
   | [],_,_=>exact b7C op nm n h11
   | [x],hk,_=>exact b7D op nm n x h11 (hk x (c27 ..))
   | [x,y],hk,_=>exact b7E op nm n x y h11 (hk x (c27 ..)) (hk y (c26 _ (c27 ..)))
   | x::y::z::ks,_,h2=>simp[Ty.kids] at h2
def b0k (t:Ty) (l:List (Int×Ty)):Ty:=if d8 t 116=true then b6 (l7 l (b6 t)) else a2P
theorem b7J (l:List (Int×Ty)) (hl:l.length<=1048576) (hlp:∀p∈l,Sm p.2) (t:Ty) (ht:Sm t) (hb:d8 t 116=true->(l7 l (b6 t)).parts.length<=1048576):m6 14 [.ag (cT t),.one (.sl 5 (rB l))] [.ag (cT (b0k t l))]:=by
 have h1:=a1j t ht.1 ht.2;unfold b0k
 by_cases hr:d8 t 116=true
 ·rw[c2E hr];rw[hr] at h1
  have hsh:c9 j4 t 116=true:=by
   unfold d8 at hr;simp only[c2B] at hr;exact hr.1
  have hc:=a7H t ht (by unfold r7;rw[hr];rfl);have hcs:=y5 _ t 116 (c2A _) hsh;have hp:=c1D l hl hlp (b6 t) (a4n hcs);have hps:=Z9 l _ 116 hcs;have hs:=b2N 1048576 (l7 l (b6 t)) (hb hr) (c2A _) (j5 hps) (a4n hps);rw[a3i (b6 (l7 l (b6 t)))];obtain⟨a0,a1,a2,a3,ha⟩:=d6 t;rw[ha] at h1 hc ⊢;obtain⟨B,hB⟩:∃B,B=rB l:=⟨_,rfl⟩;unfold a0k at hp;unfold L7 at hs;rw[<-hB] at hp ⊢;replace hc:j3 27 _ _ (a05 (.int .u8 (b6 t).op) (.string (b6 t).name) (.int .i64 (b6 t).n) (rT (b6 t).kids)):=hc;replace hp:∀z,j3 26 _ _ (a05 (.int .u8 (l7 l (b6 t)).op) (.string (l7 l (b6 t)).name) (.int .i64 (l7 l (b6 t)).n) (rT (l7 l (b6 t)).kids)):=hp;replace hs:∀z,j3 25 _ _ (sR (.int .u8 (b6 (l7 l (b6 t))).op) (.string (b6 (l7 l (b6 t))).name) (.int .i64 (b6 (l7 l (b6 t))).n) (rT (b6 (l7 l (b6 t))).kids)):=hs;generalize (b6 (l7 l (b6 t))).op=so at *;generalize (b6 (l7 l (b6 t))).name=sm at *;generalize (b6 (l7 l (b6 t))).n=sn at *;generalize rT (b6 (l7 l (b6 t))).kids=sK at *;generalize (l7 l (b6 t)).op=po at *;generalize (l7 l (b6 t)).name=pm at *;generalize (l7 l (b6 t)).n=pn at *;generalize rT (l7 l (b6 t)).kids=pK at *;generalize (b6 t).op=co at *;generalize (b6 t).name=cm at *;generalize (b6 t).n=cn at *;generalize rT (b6 t).kids=cK at *;refine Y8 Tryd.func14 rfl λqa qb qc qd qe qf qg qh qi qj qk ql qm qo qp qq qs qt qu qv qw qx qy qz va vc vd ve vf vg vh vj vk vl vp vq vr vt vu vv vw vx vy hA=>?_
  cbv
  repeat ((with_reducible apply b5 hA);cbv)
  refine b9 hA _ h1 rfl ?_;cbv
  repeat ((with_reducible apply b5 hA);cbv)
  refine c7 hA [] hc ⟨rfl,rfl,rfl,rfl,rfl,rfl,rfl⟩ ?_
  rintro _ _ ⟨rfl,zz,rfl⟩
  cbv;refine c7 hA [2] (hp zz) ⟨rfl,rfl,rfl,rfl,rfl,rfl,rfl⟩ ?_
  rintro _ _ ⟨rfl,zz,rfl⟩
  cbv;refine c7 hA [2] (hs zz) ⟨rfl,rfl,rfl,rfl,rfl,rfl,rfl⟩ ?_
  rintro _ _ ⟨rfl,rfl⟩
  cbv
  repeat ((with_reducible apply b5 hA);cbv)
 ·have hr:d8 t 116=false:=by simpa using hr
  rw[c2H (by rw[hr];simp)];rw[hr] at h1;obtain⟨a0,a1,a2,a3,ha⟩:=d6 t;rw[ha] at h1 ⊢;obtain⟨B,hB⟩:∃B,B=rB l:=⟨_,rfl⟩;rw[<-hB];unfold a2P;rw[cT,rT];refine m6.sl0 (n:=0) 4 ?_;refine Y8 Tryd.func14 rfl λqa qb qc qd qe qf qg qh qi qj qk ql qm qo qp qq qs qt qu qv qw qx qy qz va vc vd ve vf vg vh vj vk vl vp vq vr vt vu vv vw vx vy hA=>?_
  iterate 2 (try cbv;repeat ((first|with_reducible apply b5 hA|refine b9 hA _ h1 rfl ?_);cbv))
def rI (l:List Int):List (List D):=l.map λn=>[.sc (.int .i64 n)]
theorem b2O (l:List Int):(rI l).length=l.length:=by rw[rI,c3f]
theorem c0Q {l:List Int} {k:Nat} {x:Int} (h:l[k]?=some x):(rI l)[k]?=some [.sc (.int .i64 x)]:=by rw[rI,c3i,h];rfl
theorem b9l (l:List Int) (x:Int):rI (l++[x])=rI l++[[.sc (.int .i64 x)]]:=by unfold rI;rw[c3G];rfl
def vO (es:List (R×R)) (L:List (List D)):List O:=[.box [.mp 2],.box [.own 3],.mp 3 es,.row true 3 L]
def a7O (acc:List Int) (x:Ty):List Int:=if r9 x=true/\x.n∉acc then acc++[x.n] else acc
def a4o (acc:List Int):Int->Option Bool:=λn=>if n∈acc then some true else none
theorem SAt.add {es:List (R×R)} {acc:List Int} (h:SAt es (a4o acc)) (n:Int):SAt (a0y es (ik n) (.one (.sc (.bool true)))) (a4o (acc++[n])):=by
 have h2:=h.set n true
 have e:a7w (a4o acc) n true=a4o (acc++[n]):=by
  funext x
  unfold a7w a4o
  by_cases hx:x=n
  ·subst hx;simp
  ·simp[hx]
 rw[e] at h2;exact h2
theorem b9m (x:Ty) (acc:List Int) (es:List (R×R)) (hes:SAt es (a4o acc)) (hacc:acc.length<=1048576) :
  j3 52 [.ag (ofD (cT x)),.ptr 0 0,.ptr 1 0] (vO es (rI acc)) (λres os=>res=[]/\∃es',SAt es' (a4o (a7O acc x))/\os=vO es' (rI (a7O acc x))):=by
 obtain⟨op,nm,n,ks⟩:=x;have hlk:=hes.2 n;have hmem:(a4o acc n).map (λb=>R.one (.sc (.bool b)))=if n∈acc then some (R.one (.sc (.bool true))) else none:=by unfold a4o;by_cases h:n∈acc <;> simp[h]
 rw[hmem] at hlk;have hset:=hes.add n;have hadd:a7O acc (.mk op nm n ks)=if ((op == 7) || (op == 10))=true/\n∉acc then acc++[n] else acc:=rfl
 rw[hadd];have hsnoc:=b9l acc n;obtain⟨Q,hQ⟩:∃Q:List V->List O->Prop,Q=(λres os=>res=[]/\∃es',SAt es' (a4o (if ((op == 7) || (op == 10))=true/\n∉acc then acc++[n] else acc))/\os=vO es' (rI (if ((op == 7) || (op == 10))=true/\n∉acc then acc++[n] else acc))):=⟨_,rfl⟩;rw[<-hQ]
 have hQ1:((op == 7) || (op == 10))=true->n∉acc->Q [] (vO (a0y es (ik n) (.one (.sc (.bool true)))) (rI (acc++[n]))):=λh1 h2=>by
  rw[hQ];refine⟨rfl,a0y es (ik n) (.one (.sc (.bool true))),?_,?_⟩
  ·rw[c2E ⟨h1,h2⟩];exact hset
  ·rw[c2E ⟨h1,h2⟩]
 have hQ2:((op == 7) || (op == 10))=false\/n∈acc->Q [] (vO es (rI acc)):=λh=>by
  have hn:¬(((op == 7) || (op == 10))=true/\n∉acc):=by
   rintro ⟨h1,h2⟩
   rcases h with h|h
   ·rw[h] at h1;cases h1
   ·exact h2 h
  rw[hQ];refine⟨rfl,es,?_,?_⟩
  ·rw[c2H hn];exact hes
  ·rw[c2H hn]
 clear hQ hset hmem hadd hes;obtain⟨M,hM⟩:∃M,M=rI acc:=⟨_,rfl⟩;obtain⟨es2,he2⟩:∃e,e=a0y es (ik n) (.one (.sc (.bool true))):=⟨_,rfl⟩;have hMl:M.length<=1048576:=by rw[hM,b2O];exact hacc
 rw[<-hM] at hQ2 ⊢;rw[hsnoc,<-hM,<-he2] at hQ1;clear hsnoc;rw[cT];obtain⟨K,hK⟩:∃K,K=rT ks:=⟨_,rfl⟩;rw[<-hK];unfold vO at hQ1 hQ2 ⊢;unfold ik at hlk he2;refine so9 Tryd.func52 rfl ?_;intro _ _ _ _ _ _ _ _ _ qj _ _ _ _ _ _ _ _ _ _ _ _ _ _ _ vc _ _ vf vg;intros;rename_i hA;cbv;refine gn ?_;obtain⟨e1,e2,e3,e4,e5,e6,e7,e8,e9⟩:=j8 hA;obtain⟨r1,r2,r3,r4⟩:=n9 hA;obtain⟨m1,m2,-⟩:=H2 hA;have q7:qj op 7=(op == 7):=e9 _ _;have q10:qj op 10=(op == 10):=e9 _ _;have hl:vf es (.one (.sc (.int .i64 n)))=if n∈acc then some (R.one (.sc (.bool true))) else none:=by rw[m1];exact hlk
 have hp:vg es (.one (.sc (.int .i64 n))) (.one (.sc (.bool true)))=es2:=by rw[m2,he2]
 have ha:vc M [[.sc (.int .i64 n)]]=M++[[.sc (.int .i64 n)]]:=r4 _ _;generalize (op == 7)=b7 at *;generalize (op == 10)=b10 at *
 by_cases hm:n∈acc
 ·rw[c2E hm] at hl;replace hQ2:=hQ2 (.inr hm);cases b7 <;> cases b10
  all_goals
   iterate 2 (try cbv;repeat ((first|with_reducible apply b5 hA|rw[q7]|rw[q10]|rw[hl]);cbv))
   try simp (maxSteps:=4000000) only [nc] at *
   exact d7 hA [0,1,2,3] ⟨rfl,rfl,rfl,rfl,rfl,rfl,rfl,rfl⟩ hQ2
 ·rw[c2H hm] at hl;cases b7 <;> cases b10
  ·replace hQ2:=hQ2 (.inl rfl)
   iterate 2 (try cbv;repeat ((first|with_reducible apply b5 hA|rw[q7]|rw[q10]|rw[hl]);cbv))
   try simp (maxSteps:=4000000) only [nc] at *
   exact d7 hA [0,1,2,3] ⟨rfl,rfl,rfl,rfl,rfl,rfl,rfl,rfl⟩ hQ2
  all_goals
   replace hQ1:=hQ1 rfl hm;rw[<-ha] at hQ1
   iterate 2 (try cbv;repeat ((first|with_reducible apply b5 hA|rw[q7]|rw[q10]|rw[hl]|rw[hp]|refine P5 hA true ?_|(refine K4 hA (by simp only[c2D,c2N];omega) ?_));cbv))
   try simp (maxSteps:=4000000) only [nc] at *
   exact d7 hA [0,1,2,3] ⟨rfl,rfl,rfl,rfl,rfl,rfl,rfl,rfl⟩ hQ1
theorem a5b:∀(a b:List Ty) (acc:List Int),y6 (a++b) acc=y6 b (y6 a acc)
 | [],b,acc=>rfl
 | x::a,b,acc=>by rw[c3C,y6,y6];exact a5b a b _
theorem a6c {ks:List Ty} {k:Nat} {x:Ty} (h:ks[k]?=some x):o5 (ks.take (k+1))=o5 (ks.take k)++x.parts:=by
 rw[Q8,Q8,(b0Y ks k x h).2]
theorem c0R:∀(t:Ty) (acc:List Int) (es:List (R×R)),SAt es (a4o acc)->acc.length+t.parts.length<=1048576 ->
  j3 51 [.ag (ofD (cT t)),.cl 52 [0,1]] (vO es (rI acc)) (λres os=>res=[]/\∃es',SAt es' (a4o (y6 t.parts acc))/\os=vO es' (rI (y6 t.parts acc))):=by
 intro t
 induction t using Ty.ind with
 | h t ih =>
  intro acc es hes hN;have hcl:=b9m t acc es hes (by omega);have hkl:=o7 t;have hpe:t.parts=t::o5 t.kids:=r6 t;have hpl:t.parts.length=1+(o5 t.kids).length:=by rw[hpe,c2D];omega
  have hvl:y6 t.parts acc=y6 (o5 t.kids) (a7O acc t):=by rw[hpe,y6];rfl
  have hal:(a7O acc t).length<=acc.length+1:=by unfold a7O;split <;> simp
  rw[hvl];obtain⟨Q,hQ⟩:∃Q:List V->List O->Prop,Q=(λres os=>res=[]/\∃es',SAt es' (a4o (y6 (o5 t.kids) (a7O acc t)))/\os=vO es' (rI (y6 (o5 t.kids) (a7O acc t)))):=⟨_,rfl⟩;rw[<-hQ];have hQ1:∀es',SAt es' (a4o (y6 (o5 t.kids) (a7O acc t)))->Q [] (vO es' (rI (y6 (o5 t.kids) (a7O acc t)))):=λes' h=>by rw[hQ];exact⟨rfl,es',h,rfl⟩
  clear hQ hvl hpe;generalize a7O acc t=ac1 at *;obtain⟨op,nm,n,ks⟩:=t;simp only[Ty.kids] at hkl ih hpl hQ1
  have hxp:∀k,k<=ks.length->(o5 (ks.take k)).length<=(o5 ks).length:=λk _=>by
   conv=>rhs;rw[<-c3D k ks]
   rw[Q8,Q8,List.flatMap_append,c29];omega
  rw[cT] at hcl ⊢;obtain⟨K,hK⟩:∃K,K=rT ks:=⟨_,rfl⟩;rw[<-hK] at hcl ⊢;obtain⟨M,hM⟩:∃M,M=rI acc:=⟨_,rfl⟩;rw[<-hM] at hcl ⊢;unfold vO at hcl hQ1 ⊢;refine so9 Tryd.func51 rfl ?_;intro qa qb _ _ _ _ _ qh _ _ _ _ _ _ _ _ _ _ _ _ _ _ qy qz;intros;rename_i hA;cbv;refine gn ?_;obtain⟨e1,e2,e3,e4,e5,e6,e7,e8,e9⟩:=j8 hA;obtain⟨r1,r2,r3,r4⟩:=n9 hA;refine c7 hA [0,1,2,3] hcl ⟨rfl,rfl,rfl,rfl,rfl,rfl,rfl⟩ ?_
  rintro res os2 ⟨rfl,es1,hes1,rfl⟩
  obtain⟨M1,hM1⟩:∃M,M=rI ac1:=⟨_,rfl⟩;rw[<-hM1];cbv;refine gn ?_
  refine l9 hA (γ:=Int×List (R×R)×List (List D)) (λx=>[(12,vi .i64 x.1)]) (λx=>[(2,.mp 3 x.2.1),(3,.row true 3 x.2.2)])
   (λx=>∃k:Nat,x.1=(k:Int)/\k<=ks.length/\SAt x.2.1 (a4o (y6 (o5 (ks.take k)) ac1))/\x.2.2=rI (y6 (o5 (ks.take k)) ac1)) (λx=>ks.length - x.1.toNat) (0,es1,M1) ?_ ?_ ?_
  ·exact⟨0,rfl,c3d _,by rw[List.take_zero,o5,y6];exact hes1,by rw[List.take_zero,o5,y6];exact hM1⟩
  ·cbv
  ·intro x hinv;obtain⟨z,es2,M2⟩:=x;cbv;refine gn ?_;try simp only[nc] at *
   obtain⟨k,hz,hk,hes2,hM2⟩:=hinv;have hlen:qy K=(ks.length:Int):=by rw[r1,hK,E8]
   have hlt:qh z (qy K)=decide (k<ks.length):=by rw[e7,hlen,hz];exact c2Q.2 (by omega)
   by_cases h9:k<ks.length
   ·rw[c2J h9] at hlt;obtain⟨x,hx⟩:∃x,ks[k]?=some x:=⟨_,c28 h9⟩;have hvl2:=a0N (o5 (ks.take k)) ac1;have hx1:=hxp (k+1) (by omega);rw[a6c hx,c29] at hx1;have hstep:y6 (o5 (ks.take (k+1))) ac1=y6 x.parts (y6 (o5 (ks.take k)) ac1):=by rw[a6c hx,a5b]
    have hsp:=ih x (c2F hx) _ es2 hes2 (by omega);rw[<-hM2,<-hstep] at hsp;obtain⟨M3,hM3⟩:∃M,M=rI (y6 (o5 (ks.take (k+1))) ac1):=⟨_,rfl⟩;rw[<-hM3] at hsp;obtain⟨x0,x1,x2,x3,hxx⟩:=d6 x;have g1:qz K z=some [x0,x1,x2,x3]:=by rw[r2,hz,c2E (by omega),hK,c2T,a04 hx,hxx]
    have hz1:qa .i64 (qb z 1)=((k+1:Nat):Int):=by rw[e1,e2,hz,IntWalk.i64_in _ (by omega)];omega
    have hmu:ks.length - (qa .i64 (qb z 1)).toNat<ks.length - z.toNat:=by rw[hz1,hz];omega
    rw[hxx] at hsp;unfold vO at hsp;rw[hlt];cbv
    repeat (first|(with_reducible apply b5 hA;cbv)|(rw[g1];cbv))
    refine c7 hA [0,1,2,3] hsp ⟨rfl,rfl,rfl,rfl,rfl,rfl,rfl⟩ ?_
    rintro res os2 ⟨rfl,es3,hes3,rfl⟩
    cbv;refine gn ?_;refine⟨(qa .i64 (qb z 1),es3,M3),⟨k+1,hz1,h9,hes3,hM3⟩,hmu,?_⟩;cbv
   ·rw[c2G h9] at hlt;rw[hlt];rw[c3r (by omega)] at hes2 hM2;replace hQ1:=hQ1 es2 hes2;rw[<-hM2] at hQ1;cbv;refine gn ?_;exact d7 hA [0,1,2,3] ⟨rfl,rfl,rfl,rfl,rfl,rfl,rfl,rfl⟩ hQ1
theorem m6.one0 {f:Nat} {rs:List R} {n:Nat} (m:Nat) (h:m6 f rs [.one (.sl n [])]):m6 f rs [.one (.sl m [])]:=h.mono λI w v hv=>AtD.empty m hv
theorem b44 (t:Ty) (ht:Sm t):m6 29 [.ag (cT t)] [.one (.sl 1 (rI (if r7 t=true then B7 t else [])))]:=by
 have h1:=a1K t ht.1 ht.2;have hb:(d8 t 116 || d8 t 114)=r7 t:=rfl;rw[hb] at h1
 by_cases he:r7 t=true
 ·rw[c2E he];have h2:=a3c _ t (c2A _) ht.1 (I4 he);have h3:=c0R (b6 t) [] [] ⟨SAt.nil.1,λn=>by rw[SAt.nil.2];rfl⟩ (by rw[B6 _ t (c2A _) (I4 he)];simpa using ht.1);rw[show y6 (b6 t).parts []=B7 t from rfl] at h3;rw[he] at h1;obtain⟨L,hL⟩:∃L,L=rI (B7 t):=⟨_,rfl⟩;rw[<-hL] at h3 ⊢;obtain⟨a0,a1,a2,a3,ha⟩:=d6 t;obtain⟨c0,c1,c2,c3,hc⟩:=d6 (b6 t);rw[ha] at h1 h2 ⊢;rw[hc] at h2 h3;unfold vO at h3;refine Y8 Tryd.func29 rfl λqa qb qc qd qe qf qg qh qi qj qk ql qm qo qp qq qs qt qu qv qw qx qy qz va vc vd ve vf vg vh vj vk vl vp vq vr vt vu vv vw vx vy hA=>?_
  cbv
  repeat (first|(refine b9 hA _ h1 rfl ?_;cbv)|(refine b5t hA 1 0 3 true rfl rfl ?_;cbv)|(refine b9 hA _ h2 rfl ?_;cbv)|(with_reducible apply b5 hA;cbv))
  refine c7 hA [4,1,3,2] h3 ⟨rfl,rfl,rfl,rfl,rfl,rfl,rfl⟩ ?_
  rintro res os2 ⟨rfl,es3,hes3,rfl⟩
  cbv
  repeat ((with_reducible apply b5 hA);cbv)
 ·have he:r7 t=false:=by simpa using he
  rw[he,c2H (by simp)];rw[he] at h1;obtain⟨a0,a1,a2,a3,ha⟩:=d6 t;rw[ha] at h1 ⊢;refine m6.one0 (n:=0) 1 ?_;refine Y8 Tryd.func29 rfl λqa qb qc qd qe qf qg qh qi qj qk ql qm qo qp qq qs qt qu qv qw qx qy qz va vc vd ve vf vg vh vj vk vl vp vq vr vt vu vv vw vx vy hA=>?_
  iterate 2 (try cbv;repeat ((first|with_reducible apply b5 hA|refine b9 hA _ h1 rfl ?_);cbv))
theorem F4 {W:ByteArray->Bool} {t:Ty}:∀ {s:Int},c9 W t s=true->∀x∈t.parts,∃c,c9 W x c=true:=by
 induction t using Ty.ind with
 | h t ih =>
  intro s h x hx;rw[d5] at hx
  rcases c2C.1 hx with rfl|hx
  ·exact⟨s,h⟩
  ·obtain⟨y,hy,hxy⟩:=c2U.1 hx;obtain⟨k,hk,h1,h2,h3,h4,h5,h6⟩:=f8 h;obtain⟨c,hc⟩:=C1 W _ _ h6 y hy;exact ih y hy hc x hxy
theorem b5H {nm:ByteArray} (h:j4 nm=true):nm.size<=32:=by
 unfold j4 at h;rw[c2B] at h;exact c3c h.1
theorem b2P {t:Ty} {s:Int} (h:c9 j4 t s=true):t.name.size<=32:=by
 obtain⟨k,hk,h1,h2,h3,-⟩:=f8 h
 split at h3
 ·exact b5H h3
 ·have h4:t.name.toList=[]:=c3c h3;have h5:t.name.data.toList=[]:=by rw[<-ByteArray.toList_eq];exact h4
  have h6:t.name.size=t.name.data.toList.length:=by rw[c4z];rfl
  rw[h6,h5]
  simp
theorem b7K {t:Ty} {s:Int} (h:c9 j4 t s=true) (hN:t.parts.length<=1048576):Sm t:=⟨hN,λx hx=>by
 obtain⟨c,hc⟩:=F4 h x hx;have:=b2P hc
 omega⟩
theorem b1F {t u:Ty} (h:M6 t=true) (hu:∀x∈u.parts,x∈t.parts\/x.op=11):M6 u=true:=by
 refine a1D λx hx y hy=>?_
 cases hc:B9 x y with
 | false=>rfl
 | true =>
  have hc':=hc;unfold B9 at hc';simp only[c2B,c3q] at hc';have h1:=(hu x hx).resolve_right (by omega);have h2:=(hu y hy).resolve_right (by omega);rw[a3v h1 h2 hc] at h;cases h
def Ok1 (s:Int) (t:Ty):Prop:=d8 t s=true/\Cn t/\t.parts.length<=1048576
theorem Ok1.sm {t:Ty} {s:Int} (h:Ok1 s t):Sm t:=b7K (j7 h.1).1 h.2.2
theorem Ok1.shape {t:Ty} {s:Int} (h:Ok1 s t):c9 j4 t s=true:=(j7 h.1).1
theorem Ok1.part {t x:Ty} {s c:Int} (h:Ok1 s t) (hx:x∈t.parts) (hc:Cn x) (hs:c9 j4 x c=true):Ok1 c x:=by
 refine⟨?_,hc,c3E (b1m hx) h.2.2⟩;unfold d8;rw[hs,b1F (j7 h.1).2 λy hy=>.inl (y9 hy hx)];rfl
theorem a5c {t x:Ty} (h:x∈t.kids):x∈t.parts:=by
 rw[d5];exact c26 _ (c2U.2 ⟨x,h,by rw[r6];exact c27 ..⟩)
theorem Ok1.field {t:Ty} (h:Ok1 114 t) {f:ByteArray×Ty} (hf:f∈c6 t):Ok1 116 f.2 :=
 h.part (P7 _ t (c2A _) f hf) ((J8 h.shape h.2.1).2 f hf) ((v6 h.shape).1 f hf).2
theorem a34 {tl:Ty}:∀ {fs:List (ByteArray×Ty)} {x:Ty},x∈(x8 fs tl).parts->x.op=11\/(∃f∈fs,x∈f.2.parts)\/x∈tl.parts
 | [],x,h=>.inr (.inr h)
 | f::fs,x,h=>by
  rw[A8,d5] at h
  rcases c2C.1 h with rfl|h
  ·exact .inl rfl
  ·simp only[Ty.kids,c3H,c4f,c3b,c2W] at h
   rcases h with h|h
   ·exact .inr (.inl ⟨f,c27 ..,h⟩)
   ·rcases a34 h with h|⟨g,hg,h⟩|h
    ·exact .inl h
    ·exact .inr (.inl ⟨g,c26 _ hg,h⟩)
    ·exact .inr (.inr h)
theorem b1G {l:List (ByteArray×Ty)} (h:∀f∈l,Cn f.2):l.map cF=l:=by
 conv=>rhs;rw[<-List.map_id l]
 refine c3n λf hf=>?_
 show (f.1,b6 f.2)=f;rw[h f hf]
theorem b5I {l m:List (ByteArray×Ty)} (h:l.Sublist m):A5 l<=A5 m:=by
 induction h with
 | slnil=>exact c2A _
 | cons a _ ih=>simp only[A5,c2Y,c30] at ih ⊢;omega
 | cons_cons a _ ih=>simp only[A5,c2Y,c30] at ih ⊢;omega
theorem Ok1.rest {t:Ty} (h:Ok1 114 t) {left:List (ByteArray×Ty)} (hl:left.Sublist (c6 t)):Ok1 114 (x8 left (j0 t)):=by
 have hte:=J7 h.shape;have hcf:=J8 h.shape h.2.1;have hsp:=(j5 h.shape).self;have hsh:c9 j4 (x8 left (j0 t)) 114=true:=a1c (v6 h.shape).2 λf hf=>(v6 h.shape).1 f (hl.subset hf)
 refine⟨?_,?_,?_⟩
 ·unfold d8;rw[hsh,b1F (j7 h.1).2 λy hy=>?_]
  ·rfl
  ·rcases a34 hy with h1|⟨f,hf,h1⟩|h1
   ·exact .inr h1
   ·exact .inl (y9 h1 (P7 _ t (c2A _) f (hl.subset hf)))
   ·exact .inl (y9 h1 (a4O hsp))
 ·show b6 _=_;rw[a4g (hcf.1.sublist hl) hte.1 hte.2.1,b1G λf hf=>hcf.2 f (hl.subset hf)]
 ·rw[a2c];have h1:=T0 _ t (c2A _) hsp
  have h2:A5 left<=A5 (c6 t):=by
   exact b5I hl
  have:=h.2.2;omega
def esT (c:List (Int×Ty)):List (R×R):=c.map λp=>(ik p.1,R.ag (cT p.2))
theorem b0l (n:Int):∀c:List (Int×Ty),a1u (esT c) (ik n)=(c.find? λp=>p.1 == n).map λp=>R.ag (cT p.2)
 | []=>rfl
 | p::c=>by
  show (match rEq (ik p.1) (ik n) with|true=>_|false=>a1u (esT c) (ik n))=_;rw[a58,b0l n c];cases h:p.1 == n with
  | true=>rw[List.find?_cons_of_pos (by exact h)];rfl
  | false=>rw[c4E (by simp[h])]
theorem b45 (n:Int) (x:Ty):∀c:List (Int×Ty),(c.find? λp=>p.1 == n)=none->a0y (esT c) (ik n) (.ag (cT x))=esT (c++[(n,x)])
 | [],_=>rfl
 | p::c,h=>by
  rw[List.find?_cons] at h
  split at h
  ·cases h
  ·rename_i hp;have hp:(p.1 == n)=false:=by simpa using hp
   show (match rEq (ik p.1) (ik n) with|true=>_|false=>(ik p.1,R.ag (cT p.2))::a0y (esT c) (ik n) (.ag (cT x)))=_;rw[a58,hp,b45 n x c h];rfl
def CB (c:List (Int×Ty)):Prop:=∀p∈c,Ok1 116 p.2\/Ok1 114 p.2
def a3j (o:Option (List (Int×Ty))) (res:List V) (os:List O):Prop:=(∃c',o=some c'/\res=[vb true]/\os=[.mp 3 (esT c')])\/(o=none/\res=[vb false]/\∃es',os=[.mp 3 es'])
theorem b9n {x y:Ty} (hx:Ok1 116 x\/Ok1 114 x) (hy:Ok1 116 y\/Ok1 114 y):b41 x y=J9 x y/\Sm x/\Sm y:=by
 have key:∀ {z:Ty},Ok1 116 z\/Ok1 114 z->r7 z=true/\b6 z=z/\Sm z:=λ{z} h=>by
  rcases h with h|h
  ·exact⟨by unfold r7;rw[h.1];rfl,h.2.1,h.sm⟩
  ·exact⟨by unfold r7;rw[h.1,Bool.or_true],h.2.1,h.sm⟩
 obtain⟨a1,a2,a3⟩:=key hx;obtain⟨b1,b2,b3⟩:=key hy;refine⟨?_,a3,b3⟩;unfold b41;rw[a1,b1,a2,b2];rfl
theorem b1H {c c':List (Int×Ty)} {n:Int} {x:Ty} (h:a1G c n x=some c') (hc:CB c) (hx:Ok1 116 x\/Ok1 114 x):CB c':=by
 unfold a1G at h
 split at h
 ·split at h
  ·injection h with h;subst h;exact hc
  ·cases h
 ·injection h with h;subst h;intro p hp
  rcases c2W.1 hp with hp|hp
  ·exact hc p hp
  ·simp at hp;subst hp;exact hx
theorem b7L (c:List (Int×Ty)) (n:Int) (x:Ty) (hc:CB c) (hx:Ok1 116 x\/Ok1 114 x):j3 49 [.ag [.mp 0],vi .i64 n,.ag (ofD (cT x))] [.mp 3 (esT c)] (a3j (a1G c n x)):=by
 have hg:=b0l n c;unfold a1G;cases hf:c.find? λp=>p.1 == n with
 | none =>
  rw[hf] at hg;have hset:=b45 n x c hf;obtain⟨Q,hQ⟩:∃Q,Q=a3j (some (c++[(n,x)])):=⟨_,rfl⟩;have hq:Q [vb true] [.mp 3 (esT (c++[(n,x)]))]:=by rw[hQ];exact .inl ⟨_,rfl,rfl,rfl⟩
  simp only;rw[<-hQ];clear hQ;generalize esT (c++[(n,x)])=E2 at *;generalize esT c=E at *;obtain⟨x0,x1,x2,x3,hxx⟩:=d6 x;rw[hxx] at hset ⊢;unfold ik at hg hset;refine so9 Tryd.func49 rfl λqa qb qc qd qe qf qg qh qi qj qk ql qm qo qp qq qs qt qu qv qw qx qy qz va vc vd ve vf vg vh vj vk vl vp vq vr vt vu vv vw vx vy hA=>?_
  cbv
  repeat ((with_reducible apply b5 hA);cbv)
  obtain⟨m1,m2,-⟩:=H2 hA;rw[<-m1] at hg;rw[<-m2] at hset;simp only[Option.map_none] at hg
  iterate 2 (try cbv;repeat ((first|with_reducible apply b5 hA|rw[hg]|rw[hset]);cbv))
  try simp (maxSteps:=4000000) only [nc] at *
  exact d7 hA [0] ⟨rfl,rfl,rfl,rfl,rfl,rfl,rfl,rfl⟩ hq
 | some p =>
  rw[hf] at hg;have hpm:=c37 hf;obtain⟨hsm,s1,s2⟩:=b9n (hc p hpm) hx;have hS:=c0K p.2 x s1 s2;rw[hsm] at hS;simp only;obtain⟨Q,hQ⟩:∃Q,Q=a3j (if J9 p.2 x=true then some c else none):=⟨_,rfl⟩
  have hq:Q [vb (J9 p.2 x)] [.mp 3 (esT c)]:=by
   rw[hQ];cases J9 p.2 x with
   | true=>exact .inl ⟨_,rfl,rfl,rfl⟩
   | false=>exact .inr ⟨rfl,rfl,_,rfl⟩
  rw[<-hQ];clear hQ;generalize esT c=E at *;generalize J9 p.2 x=bb at *;obtain⟨x0,x1,x2,x3,hxx⟩:=d6 x;obtain⟨y0,y1,y2,y3,hyy⟩:=d6 p.2;simp only[c3F] at hg;rw[hxx] at hS ⊢;rw[hyy] at hS hg;unfold ik at hg;refine so9 Tryd.func49 rfl λqa qb qc qd qe qf qg qh qi qj qk ql qm qo qp qq qs qt qu qv qw qx qy qz va vc vd ve vf vg vh vj vk vl vp vq vr vt vu vv vw vx vy hA=>?_
  cbv
  repeat ((with_reducible apply b5 hA);cbv)
  obtain⟨m1,m2,-⟩:=H2 hA;rw[<-m1] at hg
  iterate 2 (try cbv;repeat ((first|with_reducible apply b5 hA|rw[hg]|refine b9 hA _ hS rfl ?_);cbv))
  try simp (maxSteps:=4000000) only [nc] at *
  exact d7 hA [0] ⟨rfl,rfl,rfl,rfl,rfl,rfl,rfl,rfl⟩ hq
end Go.Proofs.YtlofmibkljoapaaDoor.Vm
end
