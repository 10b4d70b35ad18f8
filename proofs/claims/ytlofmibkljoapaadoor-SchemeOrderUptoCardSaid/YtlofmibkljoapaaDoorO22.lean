/- Part 22 of the proof. Conditions: none. -/
import Derived.Test.YtlofmibkljoapaaDoorO4
import Derived.Test.YtlofmibkljoapaaDoorO8
import Derived.Test.YtlofmibkljoapaaDoorO12
import Derived.Test.YtlofmibkljoapaaDoorO13
import Derived.Test.YtlofmibkljoapaaDoorO15
import Derived.Test.YtlofmibkljoapaaDoorO16
import Derived.Test.YtlofmibkljoapaaDoorO17
import Derived.Test.YtlofmibkljoapaaDoorO19
import Derived.Test.YtlofmibkljoapaaDoorO21
import Derived.Lib.Builder
import Derived.Laws.Externs
import Derived.Lib.Walk
import Derived.Lib.AppendStr
import Derived.Lib.Hide
import Derived.Lib.UnsafeStr
import Derived.Shelf.Strings.Builder1
import Derived.Shelf.Small.Strs
import Derived.Shelf.Strconv.Itoa0
import Derived.Shelf.Strconv.Itoa1
import Derived.Shelf.LaysM
import Derived.Shelf.Strconv.Itoa2
import Derived.Shelf.Strconv.Itoa3
import Derived.Test.YtlofmibkljoapaaDoorProg
import Derived.Lib.ItoaNum
import Derived.Lib.ItoaLen
import Derived.IntWalk
import Derived.Test.YtlofmibkljoapaaDoorRows
import Derived.Deep.Slices
import Derived.WideShapes
import Derived.ChangeArms
import Derived.Test.YtlofmibkljoapaaDoorO0
set_option linter.all false
set_option linter.unusedVariables false
set_option linter.unusedSimpArgs false
section
namespace Go.Proofs.YtlofmibkljoapaaDoor.Vm
open Go.RowKit
set_option maxRecDepth 100000
set_option maxHeartbeats 8000000
theorem a2i {W:ByteArray->Bool}:∀(n:Nat) (t:Ty) (s:Int),t.parts.length<=n->c9 W t s=true->∀x∈(b6 t).parts,r9 x=true->x∈t.parts:=by
 intro n
 induction n with
 | zero=>intro t s h;have:=l6 t;omega
 | succ n ih =>
  intro t s hn h x hx hv;have hself:t∈t.parts:=by rw[r6];exact c27 ..
  by_cases h11:t.op=11
  ·obtain⟨rfl,-⟩:=F8 h h11;have hsp:=(j5 h).self;rw[a0H h] at hx
   rcases a34 hx with h1|⟨f,hf,h1⟩|h1
   ·rw[j9] at hv;omega
   ·obtain⟨f0,hf0,rfl⟩:=c3k.1 hf;have hm:=A7 hf0;have h2:=x9 _ t (c2A _) f0 hm;exact y9 (ih f0.2 116 (by omega) ((v6 h).1 f0 hm).2 x h1 hv) (P7 _ t (c2A _) f0 hm)
   ·exact y9 h1 (a4O hsp)
  ·rw[w6 h11,d5] at hx
   rcases c2C.1 hx with rfl|hx
   ·have hv':t.op=7\/t.op=10:=by rw[j9] at hv;exact hv
    rw[H4 h hv',c4d];rw[show Ty.mk t.op t.name t.n []=t by conv=>rhs;rw[Ty.eta t,H4 h hv']];exact hself
   ·simp only[Ty.kids] at hx;obtain⟨y,hy,hxy⟩:=c2U.1 hx;obtain⟨z,hz,rfl⟩:=c3k.1 hy;obtain⟨k,hk,h1,h2,h3,h4,h5,h6⟩:=f8 h;obtain⟨c,hc⟩:=C1 W _ _ h6 z hz;have:=(o7 t).2 z hz;exact y9 (ih z c (by omega) hc x hxy hv) (a5c hz)
theorem a0w {t:Ty} {s:Int} (h:d8 t s=true):d8 (b6 t) s=true:=by
 have hs:=j7 h;unfold d8;rw[y5 _ t s (c2A _) hs.1,c3R];refine a1D λx hx y hy=>?_
 cases hc:B9 x y with
 | false=>rfl
 | true =>
  have hc':=hc;unfold B9 at hc';simp only[c2B,c3q] at hc';have h1:=a2i _ t s (c2A _) hs.1 x hx (by rw[j9];omega);have h2:=a2i _ t s (c2A _) hs.1 y hy (by rw[j9];omega);rw[a3v h1 h2 hc] at hs;exact absurd hs.2 (by simp)
theorem b1I {t:Ty} {s:Int} (h:d8 t s=true) (hN:t.parts.length<=1048576):Ok1 s (b6 t):=by
 have hs:=(j7 h).1;exact⟨a0w h,y7 _ t s (c2A _) hs,by rw[B6 _ t (c2A _) (j5 hs)];exact hN⟩
theorem a36:∀(ts:List Ty) (acc:List Int) (n:Int),n∈y6 ts acc->n∈acc\/∃v∈ts,r9 v=true/\v.n=n
 | [],acc,n,h=>.inl h
 | t::ts,acc,n,h=>by
  rw[y6] at h
  rcases a36 ts _ n h with h|⟨v,hv,h1,h2⟩
  ·split at h
   ·rename_i hc
    rcases c2W.1 h with h|h
    ·exact .inl h
    ·simp at h
     exact .inr ⟨t,c27 ..,hc.1,h.symm⟩
   ·exact .inl h
  ·exact .inr ⟨v,c26 _ hv,h1,h2⟩
def a7Q (g s:Ty):Option (List (Int×Ty)):=F7 (b6 g).parts.length (b6 g) (b6 s) []
def binds (g:Ty) (c:List (Int×Ty)):List (Int×Ty):=(B7 g).filterMap λn=>c.find? λp=>p.1 == n
def H5 (g s:Ty):Option (List (Int×Ty)):=if d8 g 116=true/\d8 s 116=true then (a7Q g s).map (binds g) else none
theorem b1J {g s:Ty} {c:List (Int×Ty)} (hg:d8 g 116=true) (hs:d8 s 116=true) (h:a7Q g s=some c):∀n∈B7 g,n∈a1m c:=by
 have sg:=(j7 hg).1;have ss:=(j7 hs).1;have cg:=y5 _ g 116 (c2A _) sg;have cs:=y5 _ s 116 (c2A _) ss;unfold a7Q at h;rw[a3a _ (b6 g) (b6 s) [] (b6 g).parts.length cg cs (y7 _ g 116 (c2A _) sg) (y7 _ s 116 (c2A _) ss) (c2A _) (c2A _)] at h;intro n hn
 rcases a36 _ _ _ hn with h1|⟨v,hv,h1,rfl⟩
 ·simp at h1
 ·exact a9U _ _ _ _ _ 116 cg cs h v hv h1
theorem m6.two0 {f:Nat} {rs:List R} {n:Nat} (m:Nat) {r:R} (h:m6 f rs [.one (.sl n []),r]):m6 f rs [.one (.sl m []),r]:=h.mono λI w v hv=>by
 obtain⟨us,rfl,h2⟩:=hv
 match us,h2 with
 | [u1,u2],⟨h3,h4⟩=>exact⟨_,rfl,AtD.empty m h3,h4⟩
theorem b46 (g s:Ty) (hg:Sm g) (hs:Sm s):m6 16 [.ag (cT g),.ag (cT s)] [.one (.sl 5 (rB ((H5 g s).getD []))),.one (.sc (.bool (H5 g s).isSome))]:=by
 have h1:=a1j g hg.1 hg.2;have h2:=a1j s hs.1 hs.2;obtain⟨g0,g1,g2,g3,hgg⟩:=d6 g;obtain⟨s0,s1,s2,s3,hss⟩:=d6 s
 by_cases hR:d8 g 116=true/\d8 s 116=true
 ·have h3:=a6w g hg;have h4:=a6w s hs;have e1:r7 g=true:=by unfold r7;rw[hR.1];rfl
  have e2:r7 s=true:=by unfold r7;rw[hR.2];rfl
  rw[c2E e1] at h3;rw[c2E e2] at h4;have og:=b1I hR.1 hg.1;have os:=b1I hR.2 hs.1;have h5:=b9p _ (b6 g) (b6 s) [] og os (λp hp=>by simp at hp) (c2A _);have h6:=b44 g hg;rw[c2E e1] at h6

  have hky:=λc (h:a7Q g s=some c)=>b1J hR.1 hR.2 h
  have hvl:(B7 g).length<=1048576:=by
   have:=a0N (b6 g).parts [];rw[c2N] at this;have:=og.2.2;show (y6 (b6 g).parts []).length<=_;omega
  unfold H5;rw[c2E hR];rw[show F7 (b6 g).parts.length (b6 g) (b6 s) []=a7Q g s from rfl] at h5;have hcb2:∀c,a7Q g s=some c->CB c:=λc h=>a7P _ _ _ _ _ og os (λp hp=>by simp at hp) h

  rw[hR.1] at h1;rw[hR.2] at h2;unfold binds;generalize a7Q g s=Z at *;generalize B7 g=vs at *;obtain⟨x0,x1,x2,x3,hx⟩:=d6 (b6 g);obtain⟨y0,y1,y2,y3,hy⟩:=d6 (b6 s);rw[hgg] at h1 h3 h6 ⊢;rw[hss] at h2 h4 ⊢;rw[hx] at h3 h5;rw[hy] at h4 h5;rw[show esT []=[] from rfl] at h5;obtain⟨V,hV⟩:∃V,V=rI vs:=⟨_,rfl⟩;rw[<-hV] at h6;cases Z with
  | none =>
   simp only[Option.map_none,Option.getD_none,Option.isSome_none];rw[show rB []=[] from rfl];refine m6.two0 (n:=0) 5 ?_;refine Y8 Tryd.func16 rfl λqa qb qc qd qe qf qg qh qi qj qk ql qm qo qp qq qs qt qu qv qw qx qy qz va vc vd ve vf vg vh vj vk vl vp vq vr vt vu vv vw vx vy hA=>?_
   iterate 2 (try cbv;repeat ((first|with_reducible apply b5 hA|refine b9 hA _ h1 rfl ?_|refine c5 hA _ h1 ?_|refine b9 hA _ h2 rfl ?_|refine c5 hA _ h2 ?_|refine b9 hA _ h3 rfl ?_|refine c5 hA _ h3 ?_|refine b9 hA _ h4 rfl ?_|refine c5 hA _ h4 ?_);cbv))
   try simp (maxSteps:=4000000) only [nc] at *
   refine c7 hA [2] h5 ⟨rfl,rfl,rfl,rfl,rfl,rfl,rfl⟩ ?_
   rintro res os2 (⟨c',hc',rfl,rfl⟩|⟨hc',rfl,es',rfl⟩)
   ·cases hc'
   ·cbv
    repeat ((with_reducible apply b5 hA);cbv)
  | some c =>
   simp only[c3F,c4H,c43];have hky:=hky c rfl;have hcb:=hcb2 c rfl;obtain⟨W,hW⟩:∃W,W=rB (vs.filterMap λn=>c.find? λp=>p.1 == n):=⟨_,rfl⟩;rw[<-hW];refine Y8 Tryd.func16 rfl λqa qb qc qd qe qf qg qh qi qj qk ql qm qo qp qq qs qt qu qv qw qx qy qz va vc vd ve vf vg vh vj vk vl vp vq vr vt vu vv vw vx vy hA=>?_
   iterate 2 (try cbv;repeat ((first|with_reducible apply b5 hA|refine b9 hA _ h1 rfl ?_|refine c5 hA _ h1 ?_|refine b9 hA _ h2 rfl ?_|refine c5 hA _ h2 ?_|refine b9 hA _ h3 rfl ?_|refine c5 hA _ h3 ?_|refine b9 hA _ h4 rfl ?_|refine c5 hA _ h4 ?_);cbv))
   try simp (maxSteps:=4000000) only [nc] at *
   refine c7 hA [2] h5 ⟨rfl,rfl,rfl,rfl,rfl,rfl,rfl⟩ ?_
   rintro res os2 (⟨c',hc',rfl,rfl⟩|⟨hc',rfl,es',rfl⟩)
   rotate_left
   ·cases hc'
   injection hc' with hc'
   subst hc';obtain⟨E,hE⟩:∃E,E=esT c:=⟨_,rfl⟩;rw[<-hE];cbv
   repeat (first|(refine a55 hA 7 40 true rfl ?_;cbv)|(refine b9 hA _ h6 rfl ?_;cbv)|(with_reducible apply b5 hA;cbv))
   obtain⟨e1,e2,e3,e4,e5,e6,e7,e8,e9⟩:=j8 hA;obtain⟨r1,r2,r3,r4⟩:=n9 hA;obtain⟨m1,m2,-⟩:=H2 hA;refine l9 hA (γ:=Int×List (List D)) (λx=>[(30,vi .i64 x.1),(7,.own 4)]) (λx=>[(4,.row true 40 x.2)]) (λx=>∃k:Nat,x.1=(k:Int)/\k<=vs.length/\x.2=rB ((vs.take k).filterMap λn=>c.find? λp=>p.1 == n)) (λx=>vs.length - x.1.toNat) (0,[]) ?_ ?_ ?_
   ·exact⟨0,rfl,c3d _,rfl⟩
   ·cbv
   ·intro x hinv;obtain⟨z,L⟩:=x;cbv
    repeat ((with_reducible apply b5 hA);cbv)
    try simp (maxSteps:=4000000) only [nc] at *
    obtain⟨k,hz,hk,hL⟩:=hinv;have hll:qy V=(vs.length:Int):=by rw[r1,hV,b2O]
    have hlt:qh z (qy V)=decide (k<vs.length):=by rw[e7,hll,hz];exact c2Q.2 (by omega)
    by_cases h9:k<vs.length
    ·rw[c2J h9] at hlt;obtain⟨n,hn⟩:∃n,vs[k]?=some n:=⟨_,c28 h9⟩;have hnm:=hky n (c2F hn);obtain⟨q,hq,hqn⟩:=c3k.1 hnm
     obtain⟨p,hp⟩:∃p,(c.find? λp=>p.1 == n)=some p:=by
      cases h:c.find? λp=>p.1 == n with
      | some p=>exact⟨p,rfl⟩
      | none =>
       rw[c45] at h;exact absurd (by rw[hqn];simp) (h q hq)
     have hpn:p.1=n:=by have:=c4h hp;simpa using this
     have hpo:=hcb p (c37 hp)
     have hcan:b6 p.2=p.2/\r7 p.2=true/\Sm p.2:=by
      rcases hpo with h|h
      ·exact⟨h.2.1,by unfold r7;rw[h.1];rfl,h.sm⟩
      ·exact⟨h.2.1,by unfold r7;rw[h.1,Bool.or_true],h.sm⟩
     have hC:=a6w p.2 hcan.2.2;rw[c2E hcan.2.1,hcan.1] at hC;have hget:=b0l n c;rw[hp,<-hE,<-m1] at hget;simp only[c3F] at hget;unfold ik at hget;obtain⟨p0,p1,p2,p3,hpp⟩:=d6 p.2;rw[hpp] at hC hget;have gx:qz V z=some [.sc (.int .i64 n)]:=by rw[r2,hz,c2E (by omega),hV,c2T];unfold rI;rw[c3i,hn];rfl
     have hz1:qa .i64 (qb z 1)=((k+1:Nat):Int):=by rw[e1,e2,hz,IntWalk.i64_in _ (by omega)];omega
     have hmu:vs.length - (qa .i64 (qb z 1)).toNat<vs.length - z.toNat:=by rw[hz1,hz];omega
     have hfm:(vs.take (k+1)).filterMap (λn=>c.find? λp=>p.1 == n)=(vs.take k).filterMap (λn=>c.find? λp=>p.1 == n)++[p]:=by
      rw[a2X hn,List.filterMap_append]
      congr 1
      simp[hp]
     have hadd:vc L [[.sc (.int .i64 n),p0,p1,p2,p3]]=rB ((vs.take (k+1)).filterMap λn=>c.find? λp=>p.1 == n):=by
      rw[r4,hfm,b8X,hL,hpp,hpn]
     have hLl:L.length<=1048576:=by
      rw[hL,a4m];have:=List.length_filterMap_le (λn=>c.find? λp=>p.1 == n) (vs.take k);rw[c3h] at this;omega
     rw[hlt]
     iterate 2 (try cbv;repeat ((first|with_reducible apply b5 hA|rw[gx]|rw[hget]|refine b9 hA _ hC rfl ?_|refine c5 hA _ hC ?_|refine P5 hA true ?_|(refine K4 hA (by simp only[c2D,c2N];omega) ?_));cbv))
     try simp (maxSteps:=4000000) only [nc] at *
     refine⟨(qa .i64 (qb z 1),vc L [[.sc (.int .i64 n),p0,p1,p2,p3]]),⟨k+1,hz1,h9,hadd⟩,hmu,?_⟩;cbv
    ·rw[c2G h9] at hlt;have hLW:L=W:=by rw[hL,hW,c3r (by omega)]
     rw[hlt,hLW];cbv
     repeat ((with_reducible apply b5 hA);cbv)
 ·unfold H5;rw[c2H hR];simp only[Option.getD_none,Option.isSome_none];rw[show rB []=[] from rfl];refine m6.two0 (n:=0) 5 ?_;rw[hgg] at h1 ⊢;rw[hss] at h2 ⊢;cases hb1:d8 g 116 with
  | false =>
   rw[hb1] at h1;refine Y8 Tryd.func16 rfl λqa qb qc qd qe qf qg qh qi qj qk ql qm qo qp qq qs qt qu qv qw qx qy qz va vc vd ve vf vg vh vj vk vl vp vq vr vt vu vv vw vx vy hA=>?_
   iterate 2 (try cbv;repeat ((first|with_reducible apply b5 hA|refine b9 hA _ h1 rfl ?_|refine c5 hA _ h1 ?_);cbv))
  | true =>
   have hb2:d8 s 116=false:=by
    cases h:d8 s 116 with
    | false=>rfl
    | true=>exact absurd ⟨hb1,h⟩ hR
   rw[hb1] at h1;rw[hb2] at h2;refine Y8 Tryd.func16 rfl λqa qb qc qd qe qf qg qh qi qj qk ql qm qo qp qq qs qt qu qv qw qx qy qz va vc vd ve vf vg vh vj vk vl vp vq vr vt vu vv vw vx vy hA=>?_
   iterate 2 (try cbv;repeat ((first|with_reducible apply b5 hA|refine b9 hA _ h1 rfl ?_|refine c5 hA _ h1 ?_|refine b9 hA _ h2 rfl ?_|refine c5 hA _ h2 ?_);cbv))
theorem a2j (g s:Ty) (hg:Sm g) (hs:Sm s):m6 12 [.ag (cT g),.ag (cT s)] [.one (.sc (.bool (H5 g s).isSome))]:=by
 have h1:=b46 g s hg hs;obtain⟨g0,g1,g2,g3,hgg⟩:=d6 g;obtain⟨s0,s1,s2,s3,hss⟩:=d6 s;rw[hgg,hss] at h1 ⊢;generalize rB ((H5 g s).getD [])=L at *;generalize (H5 g s).isSome=b at *;refine Y8 Tryd.func12 rfl ?_;intros;rename_i hA
 iterate 2 (try cbv;repeat ((first|with_reducible apply b5 hA|refine b9 hA _ h1 rfl ?_|refine c5 hA _ h1 ?_);cbv))


theorem c0T (a b:List (Int×Ty)):rB (a++b)=rB a++rB b:=by unfold rB;rw[c3G]
theorem b0m (t:Ty) (ht:t.parts.length<=1048576):m6 6 [.ag (cT t)] [.one (.sc (.bool (decide (200<t.parts.length))))]:=by
 have h1:=a9L t ht;obtain⟨a0,a1,a2,a3,ha⟩:=d6 t;rw[ha] at h1 ⊢;obtain⟨P,hP⟩:∃P,P=rT t.parts:=⟨_,rfl⟩;have hl:P.length=t.parts.length:=by rw[hP,E8]
 rw[<-hP] at h1;generalize hb:decide (200<t.parts.length)=b;refine Y8 Tryd.func6 rfl ?_;intro _ _ _ _ _ _ _ qh _ _ _ _ _ _ _ _ _ _ _ _ _ _ qy;intros;rename_i hA
 have q1:qh 200 (qy P)=b:=by
  obtain⟨e1,e2,e3,e4,e5,e6,e7,e8,e9⟩:=j8 hA;obtain⟨r1,r2,-⟩:=n9 hA;rw[e7,r1,hl,<-hb];exact c2Q.2 (by omega)
 iterate 2 (try cbv;repeat ((first|with_reducible apply b5 hA|rw[q1]|refine b9 hA _ h1 rfl ?_|refine c5 hA _ h1 ?_);cbv))
end Go.Proofs.YtlofmibkljoapaaDoor.Vm
end
section
namespace Go.Proofs.YtlofmibkljoapaaDoor.Vm
open Go.RowKit
set_option maxRecDepth 100000
set_option maxHeartbeats 4000000
theorem a9d:∀(ts:List Ty) (acc:List Int) (n:Int),n∈acc->n∈y6 ts acc
 | [],_,_,h=>h
 | t::ts,acc,n,h=>by
  rw[y6];refine a9d ts _ n ?_
  split
  ·exact c33 _ h
  ·exact h
theorem a9e:∀(ts:List Ty) (acc:List Int) (v:Ty),v∈ts->r9 v=true->v.n∈y6 ts acc
 | t::ts,acc,v,h,hv=>by
  rw[y6]
  rcases c2C.1 h with rfl|h
  ·refine a9d ts _ _ ?_
   by_cases hm:v.n∈acc
   ·rw[c2H (by simp[hm])];exact hm
   ·rw[c2E ⟨hv,hm⟩];simp
  ·exact a9e ts _ v h hv
theorem b5J (f:ByteArray×Ty) (l:List (ByteArray×Ty)):G3 f.1 (i6 K5 (f::l))=some (f.2,i6 K5 l):=by
 obtain⟨S,hS⟩:∃S,S=i6 K5 l:=⟨_,rfl⟩;have hs:N5 K5 S:=by rw[hS];exact J5 a4R l
 have ha:W8 K5 S l:=by rw[hS];exact J6 a4R l
 obtain⟨v1,v2,e,h1,h2⟩:∃v1 v2,S=v1++v2/\(∀y∈v1,K5 y f=true)/\∀y∈v2,K5 y f=false:=by
  clear hS ha
  induction S with
  | nil=>exact⟨[],[],rfl,by simp,by simp⟩
  | cons y S ih =>
   obtain⟨g1,g2⟩:=c3l.1 hs;obtain⟨v1,v2,e,h1,h2⟩:=ih g2;cases hy:K5 y f with
   | true =>
    exact⟨y::v1,v2,by rw[e];rfl,λz hz=>by
     rcases c2C.1 hz with rfl|hz
     ·exact hy
     ·exact h1 z hz,h2⟩
   | false =>
    exact⟨[],y::S,rfl,by simp,λz hz=>by
     rcases c2C.1 hz with rfl|hz
     ·exact hy
     ·exact a4R.neg z y f (g1 z hz) hy⟩
 rw[e] at hs ha;obtain⟨p1,p2⟩:=a4N a4R hs h1 h2;have h3:v1++(f::v2)=i6 K5 (f::l):=a4M a4R p1 (p2.trans (W8.append (.refl [f]) ha))
 have hne:∀y∈v1,y.1≠f.1:=λy hy h=>by
  have h4:=h1 y hy;have h5:K5 y f=K5 f f:=by unfold K5;rw[h]
  rw[h5,a4R.irr] at h4;cases h4
 rw[<-h3,a4i f.1 v1 _ hne,G3,c2E rfl,<-hS,e];rfl
theorem b5K (l:List (Int×Ty)) (σ:Int->Ty):∀(m:Nat) (g:Ty) (e:Int) (c:List (Int×Ty)),g.parts.length<=m->c9 j4 g e=true->(∀v∈g.parts,r9 v=true->b6 (l7 l v)=σ v.n)->(∀p∈c,p.2=σ p.1) ->
  ∃c',w9 m g (b6 (l7 l g)) c=some c'/\∀p∈c',p.2=σ p.1:=by
 intro m
 induction m with
 | zero=>intro g e c h;have:=l6 g;omega
 | succ m ih =>
  intro g e c hm h hσ hc
  by_cases hv:g.op=7\/g.op=10
  ·rw[Z4 hv];have h1:=hσ g (by rw[r6];exact c27 ..) (j9.2 hv);unfold a1G;cases hf:c.find? λp=>p.1 == g.n with
   | some p =>
    have h2:=hc p (c37 hf);have h3:=c4h hf;rw[c3q] at h3;refine⟨c,?_,hc⟩;simp only;rw[c2E ((a56 _ _).2 (by rw[h2,h3,h1]))]
   | none =>
    refine⟨_,rfl,λp hp=>?_⟩
    rcases c2W.1 hp with hp|hp
    ·exact hc p hp
    ·simp at hp
     subst hp;exact h1
  ·by_cases h11:g.op=11
   ·obtain⟨rfl,a,b,hk,hn,hw,ha,hb⟩:=F8 h h11;rw[Z5 h11 hk];have hY:=Z9 l g 114 h;have hB:=Z9 l b 114 hb;have hgk:=a4S hk
    have ep:l7 l g=.mk 11 g.name g.n [l7 l a,l7 l b]:=by
     conv=>lhs;rw[Ty.eta g,hk,h11]
     rw[T3 l _ _ _ (by omega)];rfl
    have h11':(l7 l g).op=11:=by rw[ep];rfl
    obtain⟨a',b',hk',hsb,hf,ht⟩:=C7 (j5 hY).self h11';rw[ep] at hk';injection hk' with e1 e2;injection e2 with e2 _;subst e1;subst e2;have en:(l7 l g).name=g.name:=by rw[ep];rfl
    rw[en] at hf;rw[(U4 hY).1,(U4 hY).2,a8K,hf,ht];have hts:=b5J (g.name,l7 l a) (c6 (l7 l b));simp only at hts;rw[hts];simp only[c3F,c3A];rw[<-a0H hB];have hpa:∀v∈a.parts,v∈g.parts:=λv hv=>by rw[d5,hk];simp[hv]
    have hpb:∀v∈b.parts,v∈g.parts:=λv hv=>by rw[d5,hk];simp[hv]
    obtain⟨c1,m1,h1⟩:=ih a 116 c (by omega) ha (λv hv=>hσ v (hpa v hv)) hc;rw[m1];exact ih b 114 c1 (by omega) hb (λv hv=>hσ v (hpb v hv)) h1
   ·rw[T1 hv h11];obtain⟨k,hk,h1,h2,h3,h4,h5,h6⟩:=f8 h;have hkp:=(o7 g).2;have hkm:∀x∈g.kids,∀v∈x.parts,v∈g.parts:=λx hx v hv=>by rw[d5];exact c26 _ (c2U.2 ⟨x,hx,hv⟩)
    have ep:l7 l g=.mk g.op g.name g.n (g.kids.map (l7 l)):=by
     conv=>lhs;rw[Ty.eta g]
     rw[T3 l _ _ _ hv]
    have ec:b6 (l7 l g)=.mk g.op g.name g.n ((g.kids.map (l7 l)).map b6):=by
     rw[ep,w6 (t:=.mk g.op g.name g.n _) h11];rfl
    rw[ec];simp only[Ty.op,Ty.kids,ne_eq,not_true_eq_false,c4Y]
    have key:∀(ks:List Ty) (c:List (Int×Ty)),(∀x∈ks,x∈g.kids)->(∀p∈c,p.2=σ p.1)->∃c',(ks.zip ((ks.map (l7 l)).map b6)).foldlM (λc p=>w9 m p.1 p.2 c) c=some c'/\∀p∈c',p.2=σ p.1:=by
     intro ks
     induction ks with
     | nil=>intro c _ hc;exact⟨c,rfl,hc⟩
     | cons x ks ihk =>
      intro c hks hc;have hx:=hks x (c27 ..);obtain⟨d,hd⟩:=C1 j4 _ _ h6 x hx;obtain⟨c1,m1,h7⟩:=ih x d c (by have:=hkp x hx;omega) hd (λv hv=>hσ v (hkm x hx v hv)) hc;rw[c2Y,c2Y,c4p,c4n];simp only[m1];exact ihk c1 (λy hy=>hks y (c26 _ hy)) h7
    exact key g.kids c (λx hx=>hx) hc
theorem b47 {t:Ty} {e:Int} (h:c9 j4 t e=true) (ho:M6 t=true) {v w:Ty} (hv:v∈t.parts) (hw:w∈t.parts) (iv:r9 v=true) (iw:r9 w=true) (hn:v.n=w.n):v=w:=by
 obtain⟨a,ha⟩:=F4 h v hv;obtain⟨b,hb⟩:=F4 h w hw;rw[j9] at iv iw;have kv:=H4 ha iv;have kw:=H4 hb iw
 have name:∀ {u:Ty} {c:Int},c9 j4 u c=true->(u.op=7\/u.op=10)->u.name.toList=[]:=λ{u c} hu iu=>by
  obtain⟨k,_,_,_,h3,-⟩:=f8 hu;rw[c2H (by omega)] at h3;exact c3c h3
 have nn:v.name=w.name:=a0F.1 (by rw[name ha iv,name hb iw])
 have ho:v.op=w.op:=by
  by_cases hop:v.op=w.op
  ·exact hop
  ·have hc:B9 v w=true\/B9 w v=true:=by
    unfold B9
    rcases iv with h1|h1 <;> rcases iw with h2|h2
    ·exact absurd (h1.trans h2.symm) hop
    ·left;simp[h1,h2,hn]
    ·right;simp[h1,h2,hn]
    ·exact absurd (h1.trans h2.symm) hop
   rcases hc with hc|hc
   ·rw[a3v hv hw hc] at ho;cases ho
   ·rw[a3v hw hv hc] at ho;cases ho
 rw[Ty.eta v,Ty.eta w,kv,kw,nn,ho,hn]
theorem b7M {t:Ty} {e:Int} (l:List (Int×Ty)) (h:c9 j4 t e=true) (ho:M6 t=true):∃σ:Int->Ty,∀v∈t.parts,r9 v=true->b6 (l7 l v)=σ v.n:=by
 classical
 refine⟨λn=>if h:∃v,v∈t.parts/\r9 v=true/\v.n=n then b6 (l7 l h.choose) else a2P,λv hv iv=>?_⟩;have hex:∃w,w∈t.parts/\r9 w=true/\w.n=v.n:=⟨v,hv,iv,rfl⟩;have h1:=hex.choose_spec;simp only;rw[dif_pos hex,b47 h ho h1.1 hv h1.2.1 iv h1.2.2]
theorem b2Q (l m:List (Int×Ty)) (t:Ty):(∀v∈t.parts,r9 v=true->l7 l v=l7 m v)->l7 l t=l7 m t:=by
 induction t using Ty.ind with
 | h t ih =>
  intro h
  by_cases hv:t.op=7\/t.op=10
  ·exact h t (by rw[r6];exact c27 ..) (j9.2 hv)
  ·obtain⟨op,nm,n,ks⟩:=t;simp only[Ty.op] at hv;rw[T3 l nm n ks hv,T3 m nm n ks hv]
   congr 1
   refine c3n λx hx=>ih x hx λv hvm=>h v ?_
   rw[d5];exact c26 _ (c2U.2 ⟨x,hx,hvm⟩)
theorem b48 (l:List (Int×Ty)) {v:Ty} {e:Int} (h:c9 j4 v e=true) (hv:v.op=7\/v.op=10):a1z (v.op == 10) (l7 l v)=true/\b6 (l7 l v)=l7 l v:=by
 have h11:v.op≠11:=by omega
 have hk:=H4 h hv;have h0:=a7N l h hk h11;have hT:=P9 l v e h;have hidem:b6 (l7 l v)=l7 l v:=by rw[h0];exact y7 _ _ e (c2A _) hT
 refine⟨?_,hidem⟩;obtain⟨op,nm,n,ks⟩:=v;simp only[Ty.op,Ty.kids] at hv hk ⊢;rw[l7,c2E hv];cases hp:ofS l n (op == 10) with
 | some p =>
  have h1:=(a6y hp).2;show a1z _ (b6 p.2)=true;unfold a1z at h1 ⊢;cases h2:op == 10 <;> rw[h2] at h1 <;> exact a0w h1
 | none =>
  show a1z _ (Ty.mk op nm n ks)=true;subst hk
  have ho:M6 (.mk op nm n [])=true:=a1D λx hx y hy=>by
   rw[d5] at hx hy
   simp[Ty.kids] at hx hy
   subst hx;subst hy;unfold B9
   rcases hv with rfl|rfl <;> simp[Ty.op]
  have hs:=a7L h;unfold a1z d8
  rcases hv with rfl|rfl
  ·show (c9 j4 _ 116 && M6 _)=true;rw[ho,a7M h (hs.1 rfl)];rfl
  ·show (c9 j4 _ 114 && M6 _)=true;rw[hs.2 rfl] at h;rw[ho,h];rfl
theorem a5J (l:List (Int×Ty)) {t:Ty} (ht:d8 t 116=true) (hx:d8 (b6 (l7 l (b6 t))) 116=true) :
  ∃m,H5 t (b6 (l7 l (b6 t)))=some m/\l7 m (b6 t)=l7 l (b6 t)/\m.length<=t.parts.length/\∀p∈m,∃v∈(b6 t).parts,p.2=l7 l v/\∃e,c9 j4 (l7 l v) e=true:=by
 have hc:=a0w ht;obtain⟨hsh,hon⟩:=j7 hc;obtain⟨σ,hσ⟩:=b7M l hsh hon;have hps:=Z9 l _ 116 hsh;have ix:=y7 _ (l7 l (b6 t)) 116 (c2A _) hps;have hcs:=y5 _ _ 116 (c2A _) hps;have it:=y7 _ t 116 (c2A _) (j7 ht).1;obtain⟨c,hm,hcσ⟩:=b5K l σ _ (b6 t) 116 [] (c2A _) hsh hσ (by simp)
 have htyp:a7Q t (b6 (l7 l (b6 t)))=some c:=by
  unfold a7Q;rw[a3a _ (b6 t) _ [] (b6 t).parts.length hsh (by rw[ix];exact hcs) it (by rw[ix];exact ix) (c2A _) (c2A _),ix];exact hm
 have hky:=b1J ht hx htyp;have hnd:(a1m c).Nodup:=(a3b _ _ _ _ _ hm).1 (by simp[a1m])
 have hmem:∀p∈binds t c,p∈c/\p.1∈B7 t:=λp hp=>by
  obtain⟨n,hn,hf⟩:=List.mem_filterMap.1 hp;have h1:=c37 hf;have h2:=c4h hf;rw[c3q] at h2;exact⟨h1,by rw[h2];exact hn⟩
 have hval:∀v∈(b6 t).parts,r9 v=true->σ v.n=l7 l v/\a1z (v.op == 10) (l7 l v)=true:=λv hv iv=>by
  obtain⟨e,he⟩:=F4 hsh v hv;have h1:=b48 l he (j9.1 iv);exact⟨by rw[<-hσ v hv iv,h1.2],h1.1⟩
 refine⟨binds t c,?_,b2Q _ _ _ λv hv iv=>?_,?_,λp hp=>?_⟩
 ·unfold H5;rw[c2E ⟨ht,hx⟩,htyp];rfl
 ·have hn:v.n∈B7 t:=a9e _ _ v hv iv;obtain⟨x,hf,-⟩:=b7h hnd (hky v.n hn);have hxs:=hcσ _ (c37 hf);simp only at hxs;obtain⟨hv1,hv2⟩:=hval v hv iv;have hin:(v.n,x)∈binds t c:=List.mem_filterMap.2 ⟨v.n,hn,hf⟩
  have hof:∃p,ofS (binds t c) v.n (v.op == 10)=some p/\p.2=l7 l v:=by
   cases ho:ofS (binds t c) v.n (v.op == 10) with
   | none =>
    unfold ofS at ho;rw[c45] at ho;refine absurd ?_ (ho _ hin);simp only[c4a,c3R];rw[hxs,hv1,hv2]
   | some p =>
    have h1:=c4h ho;simp only[c2B,c3q] at h1;have h2:=(hmem p (c37 ho)).1;exact⟨p,rfl,by rw[hcσ p h2,h1.1,hv1]⟩
  obtain⟨p,hp1,hp2⟩:=hof;obtain⟨e,he⟩:=F4 hsh v hv;have h3:=b48 l he (j9.1 iv);have hvo:=j9.1 iv
  have h4:l7 (binds t c) v=b6 p.2:=by
   obtain⟨op,nm,n,ks⟩:=v;simp only[Ty.op,Ty.n] at hvo hp1;rw[l7,c2E hvo,hp1]
  rw[h4,hp2,h3.2]
 ·refine c3E (List.length_filterMap_le ..) ?_;have h1:=a0N (b6 t).parts [];rw[B6 _ t (c2A _) (j5 (j7 ht).1)] at h1;have h2:(B7 t).length<=0+t.parts.length:=h1;omega
 ·obtain⟨h1,h2⟩:=hmem p hp
  rcases a36 _ _ _ h2 with h3|⟨v,hv,iv,hn⟩
  ·simp at h3
  ·obtain⟨e,he⟩:=F4 hsh v hv;exact⟨v,hv,by rw[hcσ p h1,<-hn,(hval v hv iv).1],e,Z9 l v e he⟩
def a7R (c:List (Int×Ty)) (n:Int):Option Ty:=(c.find? λp=>p.1 == n).map (·.2)
def sgC (c:List (Int×Ty)) (n:Int):Ty:=(a7R c n).getD a2P
def b2R (c c':List (Int×Ty)):Prop:=∀n x,a7R c n=some x->a7R c' n=some x
def a0a (σ:Int->Ty):Ty->Ty
 | .mk op nm n ks=>if op=7\/op=10 then σ n else .mk op nm n (subL σ ks)
where subL (σ:Int->Ty):List Ty->List Ty
 | []=>[]
 | t::ts=>a0a σ t::subL σ ts
theorem b49 (σ:Int->Ty):∀ks:List Ty,a0a.subL σ ks=ks.map (a0a σ)
 | []=>rfl
 | k::ks=>by rw[a0a.subL,b49 σ ks];rfl
theorem a38 {σ:Int->Ty} {t:Ty} (h:t.op=7\/t.op=10):a0a σ t=σ t.n:=by
 obtain⟨op,nm,n,ks⟩:=t;rw[a0a];exact c2E h
theorem a0x {σ:Int->Ty} {t:Ty} (h:¬(t.op=7\/t.op=10)):a0a σ t=.mk t.op t.name t.n (t.kids.map (a0a σ)):=by
 obtain⟨op,nm,n,ks⟩:=t;rw[a0a,b49];exact c2H h
theorem b4A (σ:Int->Ty) (u:Ty):∀fs:List (ByteArray×Ty),a0a σ (x8 fs u)=x8 (fs.map λp=>(p.1,a0a σ p.2)) (a0a σ u)
 | []=>rfl
 | p::fs=>by
  rw[c2Y,A8,A8,a0x (by show ¬((11:Int)=7\/(11:Int)=10);decide)];simp only[Ty.op,Ty.name,Ty.n,Ty.kids,c2Y,c4d];rw[b4A σ u fs]
def b7N (v u:Ty):Prop:=u.kids=[]/\u.name=v.name/\u.op≠11/\(8<=u.op↔8<=v.op)
def b1K (σ:Int->Ty) (g s:Ty):Prop:=a0a σ g=s/\∀v∈g.parts,r9 v=true->b7N v (σ v.n)
theorem b1L {a b:ByteArray} (ha:a.toList=[]) (hb:b.toList=[]):a=b:=by
 rw[ByteArray.toList_eq] at ha hb;exact c4X (c4j (by rw[ha,hb]))
theorem b7O {c c':List (Int×Ty)} {n:Int} {s:Ty} (h:a1G c n s=some c'):b2R c c'/\a7R c' n=some s:=by
 unfold a1G at h
 split at h
 ·rename_i p hp
  split at h
  ·rename_i ha;injection h with h;subst h;refine⟨λn x h=>h,?_⟩;unfold a7R;rw[hp,<-(a56 _ _).1 ha];rfl
  ·cases h
 ·rename_i hn;injection h with h;subst h;refine⟨λk x hx=>?_,?_⟩
  ·unfold a7R at hx ⊢;rw[List.find?_append];cases hq:c.find? (λp=>p.1 == k) with
   | none=>rw[hq] at hx;cases hx
   | some q=>rw[hq] at hx;exact hx
  ·unfold a7R;rw[List.find?_append,hn]
   simp
theorem a7S (nm:ByteArray):∀ {l:List (ByteArray×Ty)} {p:Ty×List (ByteArray×Ty)},G3 nm l=some p->l.Perm ((nm,p.1)::p.2)/\p.2.Sublist l
 | [],p,h=>by cases h
 | f::l,p,h=>by
  rw[G3] at h
  by_cases hf:f.1=nm
  ·rw[c2E hf] at h;injection h with h;subst h;exact⟨by rw[<-hf],List.sublist_cons_self ..⟩
  ·rw[c2H hf] at h;cases hq:G3 nm l with
   | none=>rw[hq] at h;cases h
   | some q =>
    rw[hq] at h;injection h with h;subst h;obtain⟨h1,h2⟩:=a7S nm hq;exact⟨(h1.cons f).trans (.swap ..),h2.cons_cons f⟩
theorem b4B {l:List (ByteArray×Ty)} {tl:Ty} (hl:N5 K5 l) (hf:∀f∈l,Cn f.2) (h1:tl.op≠11) (h2:tl.kids=[]):Cn (x8 l tl):=by
 unfold Cn;rw[a4g hl h1 h2]
 congr 1
 conv=>rhs;rw[<-List.map_id l]
 refine c3n λf hx=>?_
 show (f.1,b6 f.2)=f;rw[show b6 f.2=f.2 from hf f hx]
theorem b9q {g a b:Ty} (hg:c9 j4 g 114=true) (cg:Cn g) (h11:g.op=11) (hk:g.kids=[a,b]) (hb:c9 j4 b 114=true):Cn a/\Cn b/\∀f∈c6 b,K5 f (g.name,a)=false:=by
 obtain⟨a',b',hk',hsp,hf,ht⟩:=C7 (j5 hg).self h11;rw[hk] at hk';injection hk' with e1 e2;injection e2 with e2;subst e1 e2;obtain⟨h1,h2⟩:=J8 hg cg;rw[hf] at h1 h2;have hp:=c3l.1 h1;have hte:=J7 hb;refine⟨h2 _ (c27 ..),?_,λf hfm=>hp.1 f hfm⟩;rw[a0G hb];exact b4B hp.2 (λf hfm=>h2 f (c26 _ hfm)) hte.1 hte.2.1
theorem b2S {σ:Int->Ty} {b:Ty} (hb:c9 j4 b 114=true) (hσ:∀v∈b.parts,r9 v=true->b7N v (σ v.n)):c6 (a0a σ b)=(c6 b).map λp=>(p.1,a0a σ p.2):=by
 have ht:=J7 hb
 have hu:(a0a σ (j0 b)).op≠11:=by
  by_cases hv:(j0 b).op=7\/(j0 b).op=10
  ·rw[a38 hv];exact(hσ _ (a4O (j5 hb).self) (j9.2 hv)).2.2.1
  ·rw[a0x hv];exact ht.1
 conv=>lhs;rw[a0G hb,b4A]
 exact(G2 hu _).1
theorem a7T {F:List (Int×Ty)->Ty×Ty->Option (List (Int×Ty))}:∀(P:List (Ty×Ty)) (c c':List (Int×Ty)),(∀p∈P,∀c c',F c p=some c'->b2R c c'/\p.1.parts.length<=p.2.parts.length/\(p.2.parts.length=p.1.parts.length->∀c2,b2R c' c2->b1K (sgC c2) p.1 p.2))->P.foldlM F c=some c' ->
  b2R c c'/\(P.map λp=>p.1.parts.length).sum<=(P.map λp=>p.2.parts.length).sum/\((P.map λp=>p.2.parts.length).sum=(P.map λp=>p.1.parts.length).sum->∀c2,b2R c' c2->∀p∈P,b1K (sgC c2) p.1 p.2)
 | [],c,c',_,h=>by
  rw[List.foldlM_nil] at h;injection h with h;subst h;exact⟨λn x h=>h,c2A _,λ_ _ _ p hp=>by cases hp⟩
 | p::P,c,c',hP,h=>by
  rw[c4n] at h;cases h1:F c p with
  | none=>rw[h1] at h;cases h
  | some c1 =>
   rw[h1] at h;replace h:P.foldlM F c1=some c':=h;obtain⟨x1,x2,x3⟩:=hP p (c27 ..) c c1 h1;obtain⟨y1,y2,y3⟩:=a7T P c1 c' (λq hq=>hP q (c26 _ hq)) h;rw[c2Y,c2Y,c30,c30];refine⟨λn x hx=>y1 _ _ (x1 _ _ hx),by omega,λhe c2 hc q hq=>?_⟩
   rcases c2C.1 hq with rfl|hq
   ·exact x3 (by omega) c2 λn x hx=>hc _ _ (y1 _ _ hx)
   ·exact y3 (by omega) c2 hc q hq
theorem b4C {f:Ty->Ty}:∀ {l m:List Ty},l.length=m.length->(∀p∈l.zip m,f p.1=p.2)->l.map f=m
 | [],[],_,_=>rfl
 | [],y::m,h,_=>by cases h
 | x::l,[],h,_=>by cases h
 | x::l,y::m,h,hp=>by
  rw[c2Y,b4C (l:=l) (m:=m) (by simpa using h) λp hq=>hp p (by rw[c4p];exact c26 _ hq)];rw[show f x=y from hp (x,y) (by rw[c4p];exact c27 ..)]
theorem a9f (t:Ty):t.parts.length=1+(t.kids.map λx=>x.parts.length).sum:=by
 rw[d5,c2D,c4S];omega
theorem a6d:∀(m:Nat) (g s:Ty) (e:Int) (c c':List (Int×Ty)),g.parts.length<=m->c9 j4 g e=true->c9 j4 s e=true->Cn g->Cn s->w9 m g s c=some c' ->
  b2R c c'/\g.parts.length<=s.parts.length/\(s.parts.length=g.parts.length->∀c2,b2R c' c2->b1K (sgC c2) g s):=by
 intro m
 induction m with
 | zero=>intro g s e c c' hm;have:=l6 g;omega
 | succ m ih =>
  intro g s e c c' hm hg hs cg cs h
  by_cases hv:g.op=7\/g.op=10
  ·rw[Z4 hv] at h;have hk:=H4 hg hv;have hl:g.parts.length=1:=by rw[d5,hk];rfl
   obtain⟨k1,k2⟩:=b7O h;refine⟨k1,by rw[hl];exact l6 s,λhsl c2 he=>?_⟩;have es:sgC c2 g.n=s:=by unfold sgC;rw[he _ _ k2];rfl
   refine⟨by rw[a38 hv,es],λv hvm iv=>?_⟩;have hvg:v=g:=by rw[d5,hk] at hvm;simpa using hvm
   subst hvg;rw[es]
   have hsk:s.kids=[]:=by
    have:=(o7 s).1;exact c48.1 (by omega)
   have hs11:s.op≠11:=λh11=>by
    obtain⟨-,a,b,hk2,-⟩:=F8 hs h11;rw[hsk] at hk2;cases hk2
   obtain⟨k,h0,h1,h2,h3,h4,h5,h6⟩:=f8 hs;obtain⟨k',h0',h1',h2',h3',h4',h5',h6'⟩:=f8 hg;rw[c2H hs11] at h3;rw[c2H (by omega)] at h3';refine⟨hsk,b1L (c3c h3) (c3c h3'),hs11,?_⟩;rw[c3q] at h1 h1';exact c2Q.1 (h1.trans h1'.symm)
  ·by_cases h11:g.op=11
   ·obtain⟨rfl,a,b,hk,hn0,hW,ha,hb⟩:=F8 hg h11;rw[Z5 h11 hk] at h;cases hT:G3 g.name (c6 s) with
    | none=>rw[hT] at h;cases h
    | some p =>
     rw[hT,c3A] at h;cases h1:w9 m a p.1 c with
     | none=>rw[h1] at h;cases h
     | some c1 =>
      rw[h1,c3A] at h;obtain⟨hs1,hs2⟩:=J8 hs cs;obtain⟨ca,cb,hlt⟩:=b9q hg cg h11 hk hb;obtain⟨f1,f2⟩:=v6 hs;obtain⟨hperm,hsub⟩:=a7S _ hT;obtain⟨m1,m2⟩:=a3z _ hT;have hts:=J7 hs;have sh2:c9 j4 (x8 p.2 (j0 s)) 114=true:=a1c f2 λf hf=>f1 f (m2 f hf)
      have cn2:Cn (x8 p.2 (j0 s)):=b4B (hs1.sublist hsub) (λf hf=>hs2 f (m2 f hf)) hts.1 hts.2.1;have hls:=T0 _ s (c2A _) (j5 hs).self;have hlr:=a2c (j0 s) p.2;have hlp:=a3L hperm;have hlc:A5 ((g.name,p.1)::p.2)=1+p.1.parts.length+A5 p.2:=by unfold A5;rw[c2Y,c30]
      have hlg:=a4S hk;obtain⟨x1,x2,x3⟩:=ih a p.1 116 c c1 (by omega) ha (f1 _ m1).2 ca (hs2 _ m1) h1;obtain⟨y1,y2,y3⟩:=ih b _ 114 c1 c' (by omega) hb sh2 cb cn2 h;refine⟨λn x hx=>y1 _ _ (x1 _ _ hx),by omega,λhl c2 he=>?_⟩;have t1:=x3 (by omega) c2 λn x hx=>he _ _ (y1 _ _ hx)
      have t2:=y3 (by omega) c2 he;have hnames:p.2=(c6 b).map λq=>(q.1,a0a (sgC c2) q.2):=by rw[<-b2S hb t2.2,t2.1,(G2 hts.1 _).1]
      have hhead:c6 s=(g.name,p.1)::p.2:=by
       cases hfs:c6 s with
       | nil=>rw[hfs] at hT;cases hT
       | cons f l =>
        rw[hfs,G3] at hT
        by_cases hfn:f.1=g.name
        ·rw[c2E hfn] at hT;injection hT with hT;rw[<-hT,<-hfn]
        ·exfalso;rw[c2H hfn] at hT;cases hq:G3 g.name l with
         | none=>rw[hq] at hT;cases hT
         | some q =>
          rw[hq] at hT;injection hT with hT;have hfp:f∈p.2:=by rw[<-hT];exact c27 ..
          rw[hnames] at hfp;obtain⟨q2,hq2,rfl⟩:=c3k.1 hfp;have h3:=hlt q2 hq2;rw[hfs] at hs1;have h4:=(c3l.1 hs1).1 _ (a3z _ hq).1;have h5:=a9T h4 λe=>hfn e.symm
          have h6:K5 (q2.1,a0a (sgC c2) q2.2) (g.name,q.1)=K5 q2 (g.name,a):=rfl;rw[h6,h3] at h5;cases h5
      refine⟨?_,λv hvm iv=>?_⟩
      ·rw[a0x hv,hk,c2Y,c2Y,c4d,t1.1,t2.1,hn0,h11]
       conv=>rhs;rw[a0G hs,hhead]
       rfl
      ·rw[d5,hk,c3H,c3H,c4f,c3b] at hvm
       rcases c2C.1 hvm with rfl|hvm
       ·rw[j9] at iv;exact absurd iv hv
       ·rcases c2W.1 hvm with hvm|hvm
        ·exact t1.2 v hvm iv
        ·exact t2.2 v hvm iv
   ·rw[T1 hv h11] at h
    by_cases ho:g.op=s.op
    ·rw[c2H (λhn=>hn ho)] at h;have hB:=b5u.kids (W:=j4) ⟨e,hg,hs⟩ ho
     have hmem:∀p∈g.kids.zip s.kids,p.1∈g.kids/\p.2∈s.kids/\b5u j4 p.1 p.2:=λp hp=>by
      obtain⟨i,hi⟩:=c2Z.1 hp;obtain⟨i1,i2⟩:=c3V.1 hi;exact⟨c2F i1,c2F i2,hB.2 i _ _ i1 i2⟩
     have hs11:s.op≠11:=by rw[<-ho];exact h11
     obtain⟨x1,x2,x3⟩:=a7T (F:=λc p=>w9 m p.1 p.2 c) (g.kids.zip s.kids) c c' (λp hp c c' hc=>by
      obtain⟨p1,p2,e',q1,q2⟩:=hmem p hp;have:=(o7 g).2 _ p1
      exact ih p.1 p.2 e' c c' (by omega) q1 q2 (a1r h11 cg _ p1) (a1r hs11 cs _ p2) hc) h
     have z1:((g.kids.zip s.kids).map λp=>p.1.parts.length)=g.kids.map λx=>x.parts.length:=by
      conv=>rhs;rw[<-List.map_fst_zip (l₁:=g.kids) (l₂:=s.kids) (Nat.le_of_eq hB.1),c3s]
      rfl
     have z2:((g.kids.zip s.kids).map λp=>p.2.parts.length)=s.kids.map λx=>x.parts.length:=by
      conv=>rhs;rw[<-List.map_snd_zip (l₁:=g.kids) (l₂:=s.kids) (Nat.le_of_eq hB.1.symm),c3s]
      rfl
     rw[z1,z2] at x2 x3;have l1:=a9f g;have l2:=a9f s;refine⟨x1,by omega,λhl c2 he=>?_⟩;have ht:=x3 (by omega) c2 he;refine⟨?_,λv hvm iv=>?_⟩
     ·obtain⟨k,h0,h1,h2,h3,h4,h5,h6⟩:=f8 hs;obtain⟨k',h0',h1',h2',h3',h4',h5',h6'⟩:=f8 hg;rw[c2H hs11] at h3;rw[c2H h11] at h3';rw[a0x hv];refine b9K ho (b1L (c3c h3') (c3c h3)) ?_ (b4C hB.1 λp hp=>(ht p hp).1);show g.n=s.n;rw[<-ho] at h5;omega
     ·rw[d5] at hvm
      rcases c2C.1 hvm with rfl|hvm
      ·rw[j9] at iv;exact absurd iv hv
      ·obtain⟨x,hx,hvx⟩:=c2U.1 hvm;obtain⟨i,hi⟩:=c2Z.1 hx;obtain⟨y,hy⟩:∃y,s.kids[i]?=some y:=⟨_,c28 (by have:=(c25.1 hi).1;rw[<-hB.1];exact this)⟩;exact(ht (x,y) (c2F (c3V.2 ⟨hi,hy⟩))).2 v hvx iv
    ·rw[c2E ho] at h;cases h
theorem b1M {α:Type} {f:α->α}:∀ {l:List α},l.map f=l->∀x∈l,f x=x
 | [],_,x,hx=>by cases hx
 | y::l,h,x,hx=>by
  rw[c2Y] at h;injection h with h1 h2
  rcases c2C.1 hx with rfl|hx
  ·exact h1
  ·exact b1M h2 x hx
theorem b7P {σ τ:Int->Ty} (g:Ty):∀e,c9 j4 g e=true->a0a τ (a0a σ g)=g->∀v∈g.parts,r9 v=true->a0a τ (σ v.n)=v:=by
 induction g using Ty.ind with
 | h g ih =>
  intro e hg h v hv iv
  by_cases hvg:g.op=7\/g.op=10
  ·have hk:=H4 hg hvg;have e:v=g:=by rw[d5,hk] at hv;simpa using hv
   subst e;rw[a38 hvg] at h;exact h
  ·have h2:a0a τ (a0a σ g)=.mk g.op g.name g.n ((g.kids.map (a0a σ)).map (a0a τ)):=by
    rw[a0x (σ:=σ) hvg,a0x (σ:=τ) (t:=.mk g.op g.name g.n (g.kids.map (a0a σ))) hvg];rfl
   rw[h2] at h;have h3:=congrArg Ty.kids h;simp only[Ty.kids,c3s] at h3;rw[d5] at hv
   rcases c2C.1 hv with rfl|hv
   ·rw[j9] at iv;exact absurd iv hvg
   ·obtain⟨x,hx,hvx⟩:=c2U.1 hv;obtain⟨k,h0,h1,h2',h3',h4,h5,h6⟩:=f8 hg;obtain⟨c,hc⟩:=C1 j4 _ _ h6 x hx;exact ih x hx c hc (b1M h3 x hx) v hvx iv
theorem b9r {σ:Int->Ty} {f:Int->Int} (g:Ty):(∀v∈g.parts,r9 v=true->σ v.n=v8 f v)->a0a σ g=v8 f g:=by
 induction g using Ty.ind with
 | h g ih =>
  intro h
  by_cases hv:g.op=7\/g.op=10
  ·rw[a38 hv];exact h g (a31 g) (j9.2 hv)
  ·rw[a0x hv,Z8,c2H hv]
   congr 1
   exact c3n λx hx=>ih x hx λv hvm=>h v (M4 hx hvm)
theorem b5L {σ τ:Int->Ty} {g s:Ty} {e:Int} (hg:c9 j4 g e=true) (h1:b1K σ g s) (h2:b1K τ s g):∃f:Int->Int,s=v8 f g/\∀v∈g.parts,∀w∈g.parts,r9 v=true->r9 w=true->f v.n=f w.n->v.n=w.n:=by
 have hb:=b7P (σ:=σ) (τ:=τ) g e hg (by rw[h1.1,h2.1])
 have key:∀v∈g.parts,r9 v=true->r9 (σ v.n)=true/\σ v.n=v8 (λn=>(σ n).n) v:=λv hv iv=>by
  obtain⟨l1,l2,l3,l4⟩:=h1.2 v hv iv;have hbv:=hb v hv iv
  have iu:(σ v.n).op=7\/(σ v.n).op=10:=by
   refine Classical.byContradiction λhn=>?_
   rw[a0x hn,l1,c4d] at hbv;have:=congrArg Ty.op hbv;rw[j9,<-this] at iv;exact hn iv
  refine⟨j9.2 iu,?_⟩;have iv':=j9.1 iv;obtain⟨c,hc⟩:=F4 hg v hv;rw[Z8,c2E iv',H4 hc iv',c4d];refine b9K ?_ l2 rfl l1;show (σ v.n).op=v.op;omega
 refine⟨λn=>(σ n).n,?_,λv hv w hw iv iw e=>?_⟩
 ·rw[<-h1.1];exact b9r g λv hv iv=>(key v hv iv).2
 ·have a1:=hb v hv iv;have a2:=hb w hw iw;rw[a38 (j9.1 (key v hv iv).1)] at a1;rw[a38 (j9.1 (key w hw iw).1)] at a2;have e':(σ v.n).n=(σ w.n).n:=e;rw[e'] at a1;rw[show v=w from a1.symm.trans a2]
theorem a3N {a b:Ty} (ha:d8 a 116=true) (hb:d8 b 116=true) (h:(H5 a b).isSome=true):∃c,w9 (b6 a).parts.length (b6 a) (b6 b) []=some c:=by
 have sa:=(j7 ha).1;have sb:=(j7 hb).1;unfold H5 at h;rw[c2E ⟨ha,hb⟩] at h;cases hc:a7Q a b with
 | none=>rw[hc] at h;cases h
 | some c =>
  unfold a7Q at hc;rw[a3a _ (b6 a) (b6 b) [] (b6 a).parts.length (y5 _ a 116 (c2A _) sa) (y5 _ b 116 (c2A _) sb) (y7 _ a 116 (c2A _) sa) (y7 _ b 116 (c2A _) sb) (c2A _) (c2A _)] at hc;exact⟨c,hc⟩
theorem a9g {t:Ty} {s:Int} (h:c9 j4 t s=true):N4 (b6 t)=N4 t:=by
 unfold N4 B7;rw[y7 _ t s (c2A _) h]
theorem b0n {a b:Ty} (ha:d8 a 116=true) (hb:d8 b 116=true) (h1:(H5 a b).isSome=true) (h2:(H5 b a).isSome=true):N4 a=N4 b:=by
 have sa:=(j7 ha).1;have sb:=(j7 hb).1;have ga:=y5 _ a 116 (c2A _) sa;have gb':=y5 _ b 116 (c2A _) sb;have ia:=y7 _ a 116 (c2A _) sa;have ib:=y7 _ b 116 (c2A _) sb;obtain⟨c,hc⟩:=a3N ha hb h1;obtain⟨d,hd⟩:=a3N hb ha h2;obtain⟨x1,x2,x3⟩:=a6d _ _ _ 116 _ _ (c2A _) ga gb' ia ib hc;obtain⟨y1,y2,y3⟩:=a6d _ _ _ 116 _ _ (c2A _) gb' ga ib ia hd;obtain⟨f,e,hinj⟩:=b5L ga (x3 (by omega) c λ_ _ h=>h) (y3 (by omega) d λ_ _ h=>h);rw[<-a9g sa,<-a9g sb,e];refine(b9g ga ia hinj λn hn=>?_).symm;unfold B7 at hn;rw[ia] at hn
 rcases a36 _ _ _ hn with h|h
 ·cases h
 ·exact h
def a9h (F:Ty->Ty) (t:Ty):List (Int×Ty):=(t.parts.filter λv=>r9 v).map λv=>(v.n,F v)
theorem b5M {F:Ty->Ty} {t:Ty} {p:Int×Ty} (h:p∈a9h F t):∃v∈t.parts,r9 v=true/\p=(v.n,F v):=by
 obtain⟨v,hv,e⟩:=c3k.1 h;obtain⟨h1,h2⟩:=c3U.1 hv;exact⟨v,h1,h2,e.symm⟩
theorem b7Q {F:Ty->Ty} {t:Ty} {e:Int} (h:c9 j4 t e=true) (ho:M6 t=true) (hF:∀v∈t.parts,r9 v=true->a1z (v.op == 10) (F v)=true):∀v∈t.parts,r9 v=true->ofS (a9h F t) v.n (v.op == 10)=some (v.n,F v):=by
 intro v hv iv;have hin:(v.n,F v)∈a9h F t:=c3k.2 ⟨v,c3U.2 ⟨hv,iv⟩,rfl⟩;cases hq:ofS (a9h F t) v.n (v.op == 10) with
 | none =>
  unfold ofS at hq;rw[c45] at hq;refine absurd ?_ (hq _ hin);simp only[c4a,c3R];exact hF v hv iv
 | some p =>
  have h1:=c4h hq;simp only[c2B,c3q] at h1;obtain⟨w,hw,iw,rfl⟩:=b5M (c37 hq);rw[b47 h ho hw hv iw iv h1.1]
theorem b5N {F:Ty->Ty} {t:Ty} {e:Int} (h:c9 j4 t e=true) (ho:M6 t=true) (hF:∀v∈t.parts,r9 v=true->a1z (v.op == 10) (F v)=true):∀v∈t.parts,r9 v=true->B4 (a9h F t) v=F v:=by
 intro v hv iv;have h1:=b7Q h ho hF v hv iv;have h2:=j9.1 iv;obtain⟨op,nm,n,ks⟩:=v;simp only[Ty.op,Ty.n] at h1 h2;rw[B4,c2E h2,h1]
theorem a5K {t:Ty} (h:d8 t 116=true):d8 (N4 t) 116=true/\b6 (N4 t)=N4 t/\(N4 t).parts.length=t.parts.length:=by
 have rc:=a0w h;obtain⟨hs,ho⟩:=j7 rc;have hv:=b0j t;have h0:=λv hv' iv=>b3Z (B7 t) v.n 0 (hv v hv' iv)
 have hsh:c9 j4 (N4 t) 116=true:=b5D _ _ 116 hs h0;refine⟨?_,?_,?_⟩
 ·unfold d8;rw[hsh,c3R];refine a1D λx hx y hy=>?_
  unfold N4 at hx hy;rw[a32] at hx hy;obtain⟨x0,hx0,rfl⟩:=c3k.1 hx;obtain⟨y0,hy0,rfl⟩:=c3k.1 hy;cases hc:B9 (v8 (λn=>atS (B7 t) n 0) x0) (v8 (λn=>atS (B7 t) n 0) y0) with
  | false=>rfl
  | true =>
   unfold B9 at hc;simp only[c2B,c3q] at hc;rw[a3f,a3f,a8X,a8X] at hc;obtain⟨c1,c2,c3⟩:=hc;rw[c2E (.inl c1),c2E (.inr c2)] at c3;have e:=b9f (hv x0 hx0 (j9.2 (.inl c1))) (hv y0 hy0 (j9.2 (.inr c2))) c3;have hcl:B9 x0 y0=true:=by unfold B9;rw[c1,c2,e];simp
   rw[a3v hx0 hy0 hcl] at ho;cases ho
 ·unfold N4;rw[a8Z _ _ (b6 t) 116 (c2A _) hs,y7 _ t 116 (c2A _) (j7 h).1]
 ·unfold N4;rw[b9e,B6 _ t (c2A _) (j5 (j7 h).1)]
theorem a6e:∀(n:Nat) (t:Ty) (s:Int),t.parts.length<=n->c9 j4 t s=true->∀x∈t.parts,r9 x=true->x∈(b6 t).parts:=by
 intro n
 induction n with
 | zero=>intro t s h;have:=l6 t;omega
 | succ n ih =>
  intro t s hn h x hx hv
  by_cases h11:t.op=11
  ·obtain⟨rfl,-⟩:=F8 h h11;have hte:=J7 h;rw[a0H h];rw[a0G h] at hx
   have hrow:∀(l:List (ByteArray×Ty)) (u:Ty),(∀f∈l,∀y∈f.2.parts,y∈(x8 l u).parts)/\∀y∈u.parts,y∈(x8 l u).parts:=λl u=>by
    induction l with
    | nil=>exact⟨λf hf=>(by cases hf),λy hy=>hy⟩
    | cons g l il =>
     have hk:(x8 (g::l) u).kids=[g.2,x8 l u]:=rfl;refine⟨λf hf y hy=>?_,λy hy=>M4 (by rw[hk];simp) (il.2 y hy)⟩
     rcases c2C.1 hf with rfl|hf
     ·exact M4 (by rw[hk];simp) hy
     ·exact M4 (x:=x8 l u) (by rw[hk];simp) (il.1 f hf y hy)
   rcases a34 hx with h1|⟨f,hf,h1⟩|h1
   ·rw[j9] at hv;omega
   ·have h2:=x9 _ t (c2A _) f hf;exact(hrow _ _).1 (cF f) (c3k.2 ⟨f,(a72 K5 _).mem_iff.2 hf,rfl⟩) x (ih f.2 116 (by omega) ((v6 h).1 f hf).2 x h1 hv)
   ·exact(hrow _ _).2 x h1
  ·by_cases hop:t.op=7\/t.op=10
   ·rw[Z3 h11 (H4 h hop)];exact hx
   ·rw[d5] at hx
    rcases c2C.1 hx with rfl|hx
    ·rw[j9] at hv;exact absurd hv hop
    ·obtain⟨y,hy,hxy⟩:=c2U.1 hx;obtain⟨k,hk,h1,h2,h3,h4,h5,h6⟩:=f8 h;obtain⟨c,hc⟩:=C1 j4 _ _ h6 y hy;have:=(o7 t).2 y hy;rw[w6 h11];exact M4 (x:=b6 y) (c3k.2 ⟨y,hy,rfl⟩) (ih y c (by omega) hc x hxy hv)
theorem a1k (l:List (Int×Ty)) {t:Ty} (h:¬(t.op=7\/t.op=10)):B4 l t=.mk t.op t.name t.n (t.kids.map (B4 l)):=by
 obtain⟨op,nm,n,ks⟩:=t;exact a33 l nm n ks h
theorem b2T (l m:List (Int×Ty)) (t:Ty):∀v∈t.parts,r9 v=true->∀s,c9 j4 t s=true->∀x∈(B4 m (B4 l v)).parts,x∈(B4 m (B4 l t)).parts:=by
 induction t using Ty.ind with
 | h t ih =>
  intro v hv iv s hs x hx
  by_cases hop:t.op=7\/t.op=10
  ·have e:v=t:=by rw[d5,H4 hs hop] at hv;simpa using hv
   rw[<-e];exact hx
  ·rw[d5] at hv
   rcases c2C.1 hv with rfl|hv
   ·rw[j9] at iv;exact absurd iv hop
   ·obtain⟨y,hy,hvy⟩:=c2U.1 hv;obtain⟨k,hk,h1,h2,h3,h4,h5,h6⟩:=f8 hs;obtain⟨c,hc⟩:=C1 j4 _ _ h6 y hy;rw[a1k l hop,a1k m (t:=.mk t.op t.name t.n (t.kids.map (B4 l))) hop];refine M4 (x:=B4 m (B4 l y)) ?_ (ih y hy v hvy iv c hc x hx);simp only[Ty.kids];rw[c3s];exact c3k.2 ⟨y,hy,rfl⟩
theorem b7R {l m k:List (Int×Ty)} (t:Ty):(∀v∈t.parts,r9 v=true->B4 k v=B4 m (B4 l v))->B4 k t=B4 m (B4 l t):=by
 induction t using Ty.ind with
 | h t ih =>
  intro h
  by_cases hv:t.op=7\/t.op=10
  ·exact h t (a31 t) (j9.2 hv)
  ·rw[a1k l hv,a1k k hv,a1k m (t:=.mk t.op t.name t.n (t.kids.map (B4 l))) hv];simp only[Ty.op,Ty.name,Ty.n,Ty.kids];rw[c3s]
   congr 1
   exact c3n λx hx=>ih x hx λv hvm=>h v (M4 hx hvm)
theorem b7S (l m:List (Int×Ty)) {t x y:Ty} (ht:d8 t 116=true) (ex:x=b6 (l7 l (b6 t))) (hx:d8 x 116=true) (ey:y=b6 (l7 m (b6 x))) (hy:d8 y 116=true):(H5 t x).isSome=true/\(H5 x y).isSome=true/\(H5 t y).isSome=true:=by
 have rc:=a0w ht;obtain⟨hs,ho⟩:=j7 rc
 have i1:(H5 t x).isSome=true:=by
  obtain⟨c,hc,-⟩:=a5J l ht (by rw[<-ex];exact hx);rw[ex,hc];rfl
 have i2:(H5 x y).isSome=true:=by
  obtain⟨c,hc,-⟩:=a5J m hx (by rw[<-ey];exact hy);rw[ey,hc];rfl
 refine⟨i1,i2,?_⟩;have s0:=(j7 ht).1;have s1:=P9 l _ 116 s0;have s2:=P9 m _ 116 s1
 have ey2:y=b6 (B4 m (B4 l t)):=by
  have e1:x=b6 (B4 l t):=by rw[ex];exact a5I l _ t 116 (c2A _) s0
  rw[ey,e1,y7 _ (B4 l t) 116 (c2A _) s1];exact a5I m _ (B4 l t) 116 (c2A _) s1
 have hF:∀v∈(b6 t).parts,r9 v=true->a1z (v.op == 10) (B4 m (B4 l v))=true:=λv hv iv=>by
  have iv':=j9.1 iv;have hvt:=a2i _ t 116 (c2A _) s0 v hv iv;obtain⟨c,hc⟩:=F4 s0 v hvt;have h1:=P9 m _ c (P9 l _ c hc)
  have hon:M6 (B4 m (B4 l v))=true:=by
   refine a1D λp hp q hq=>?_
   cases hcl:B9 p q with
   | false=>rfl
   | true =>
    have hcl':=hcl;unfold B9 at hcl';simp only[c2B,c3q] at hcl'
    have up:∀p∈(B4 m (B4 l v)).parts,r9 p=true->p∈y.parts:=λp hp ip=>by
     rw[ey2];refine a6e _ _ 116 (c2A _) s2 p ?_ ip;exact b2T l m t v hvt iv 116 s0 p hp
    have hr:=j7 hy;rw[a3v (up p hp (j9.2 (.inl hcl'.1))) (up q hq (j9.2 (.inr hcl'.2.1))) hcl] at hr;exact absurd hr.2 (by simp)
  unfold a1z;have hsort:=a7L (W:=j4) (op:=v.op) (nm:=v.name) (n:=v.n) (ks:=v.kids) (s:=c) (by rw[<-Ty.eta];exact hc)
  rcases iv' with h7|h10
  ·rw[h7];show d8 _ 116=true;unfold d8;rw[a7M h1 (hsort.1 h7),hon];rfl
  ·rw[h10];show d8 _ 114=true;unfold d8;have:=hsort.2 h10;subst this;rw[h1,hon];rfl
 obtain⟨k,hk⟩:∃k,k=a9h (λv=>B4 m (B4 l v)) (b6 t):=⟨_,rfl⟩
 have hkv:∀v∈t.parts,r9 v=true->B4 k v=B4 m (B4 l v):=λv hv iv=>by
  rw[hk];exact b5N hs ho hF v (a6e _ t 116 (c2A _) s0 v hv iv) iv
 have ek:b6 (l7 k (b6 t))=y:=by rw[a5I k _ t 116 (c2A _) s0,b7R t hkv,<-ey2]
 obtain⟨c,hc,-⟩:=a5J k ht (by rw[ek];exact hy);rw[ek] at hc;rw[hc];rfl
def NAt (es:List (R×R)) (g:Int->Option Int):Prop:=a3w es/\∀n,a1u es (ik n)=(g n).map λi=>R.one (.sc (.int .i64 i))
theorem NAt.nil:NAt [] λ_=>none:=⟨λp hp=>by simp at hp,λn=>rfl⟩
theorem NAt.set {es:List (R×R)} {g:Int->Option Int} (h:NAt es g) (n i:Int):NAt (a0y es (ik n) (.one (.sc (.int .i64 i)))) (λx=>if x=n then some i else g x):=by
 refine⟨a5Y h.1 n _,λx=>?_⟩;rw[a59 n x _ es h.1];show _=(if x=n then some i else g x).map _
 by_cases hx:x=n
 ·rw[c2E hx,c2E hx];rfl
 ·rw[c2H hx,c2H hx];exact h.2 x
theorem b1N:∀(ts:List Ty) (acc:List Int),acc.Nodup->(y6 ts acc).Nodup
 | [],acc,h=>h
 | t::ts,acc,h=>by
  rw[y6];refine b1N ts _ ?_
  split
  ·rename_i hc;rw[c4u];refine⟨h,by simp,λa ha b hb=>?_⟩;rw[c4V] at hb;rw[hb]
   rintro rfl
   exact hc.2 ha
  ·exact h
def a4q (vs:List Int) (k:Nat) (n:Int):Option Int:=if n∈vs.take k then some (atS vs n 0) else none
theorem b2U {vs:List Int} (hn:vs.Nodup) {k:Nat} {x:Int} (hx:vs[k]?=some x):(λy=>if y=x then some (k:Int) else a4q vs k y)=a4q vs (k+1):=by
 have hm:x∈vs:=c2F hx
 have hk:atS vs x 0=(k:Int):=by
  obtain⟨i,h1,h2⟩:=a3g vs x 0 hm;have h3:=(c25.1 h2).1;have h4:=(c25.1 hx).1;have e:i=k:=(List.getElem?_inj h3 hn).1 (h2.trans hx.symm);rw[h1,e];omega
 funext y
 unfold a4q;rw[c4v,hx]
 by_cases hy:y=x
 ·rw[c2E hy,c2E (by rw[hy];simp),hy,hk]
 ·rw[c2H hy]
  by_cases hm:y∈vs.take k
  ·rw[c2E hm,c2E (c33 _ hm)]
  ·rw[c2H hm,c2H (λh=>by
    rcases c2W.1 h with h|h
    ·exact hm h
    ·simp at h;exact hy h)]
theorem b7T (t:Ty) (ht:Sm t) (hr:d8 t 116=true):m6 20 [.ag (cT t)] [.ag (cT (N4 t))]:=by
 have h1:=a1K t ht.1 ht.2;have hb:(d8 t 116 || d8 t 114)=r7 t:=rfl;have he:r7 t=true:=by unfold r7;rw[hr];rfl
 rw[hb,he] at h1;have h2:=b44 t ht;rw[c2E he] at h2;have hsh:=(j7 hr).1;have h3:=b16 _ t (c2A _) ht.1 (j5 hsh);have hcs:=y5 _ t 116 (c2A _) hsh;have hvi:=b0j t
 have h4:∀es,NAt es (a4q (B7 t) (B7 t).length)->U6 es (λn=>atS (B7 t) n 0) (b6 t):=λes hes=>by
  refine c1F es _ (b6 t) (a4n hcs) λx hx hop=>?_
  obtain⟨c,hc⟩:=F4 hcs x hx;refine⟨H4 hc hop,?_⟩;have h5:=hes.2 x.n;unfold a4q at h5;rw[List.take_length,c2E (hvi x hx (j9.2 hop))] at h5;exact h5
 have hnd:(B7 t).Nodup:=b1N _ _ (by simp)
 have hvl:(B7 t).length<=1048576:=by
  have:=a0N (b6 t).parts [];rw[B6 _ t (c2A _) (j5 hsh)] at this;have:=ht.1;show (y6 (b6 t).parts []).length<=_;simp only[c2N] at *;omega
 have hnum:N4 t=v8 (λn=>atS (B7 t) n 0) (b6 t):=rfl;rw[hnum];replace h3:j3 35 [.ag (ofD (cT t))] [] (a05 (.int .u8 (b6 t).op) (.string (b6 t).name) (.int .i64 (b6 t).n) (rT (b6 t).kids)):=h3;unfold U6 at h4;have hcT:∀y:Ty,cT y=[.sc (.int .u8 y.op),.sc (.string y.name),.sc (.int .i64 y.n),.sl 4 (rT y.kids)]:=b79;rw[hcT (v8 (λn=>atS (B7 t) n 0) (b6 t))];generalize rT (v8 (λn=>atS (B7 t) n 0) (b6 t)).kids=K2 at *;generalize (v8 (λn=>atS (B7 t) n 0) (b6 t)).op=o2 at *;generalize (v8 (λn=>atS (B7 t) n 0) (b6 t)).name=m2 at *;generalize (v8 (λn=>atS (B7 t) n 0) (b6 t)).n=n2 at *;generalize rT (b6 t).kids=K1 at *;generalize (b6 t).op=o1 at *;generalize (b6 t).name=m1 at *;generalize (b6 t).n=n1 at *;generalize B7 t=vs at *;obtain⟨L,hL⟩:∃L,L=rI vs:=⟨_,rfl⟩;rw[<-hL] at h2;obtain⟨a0,a1,a2,a3,ha⟩:=d6 t;rw[ha] at h1 h2 h3 ⊢;clear hvi;refine Y8 Tryd.func20 rfl ?_;intro qa qb _ _ _ _ _ qh _ _ _ _ _ _ _ _ _ _ _ _ _ _ qy qz _ _ _ _ _ vg;intros;rename_i hA;cbv
 repeat (first|(refine b9 hA _ h1 rfl ?_;cbv)|(refine b9 hA _ h2 rfl ?_;cbv)|(with_reducible apply b5 hA;cbv))
 obtain⟨e1,e2,e3,e4,e5,e6,e7,e8,e9⟩:=j8 hA;obtain⟨r1,r2,-⟩:=n9 hA;obtain⟨m1,m2,-⟩:=H2 hA;refine l9 hA (γ:=Int×List (R×R)) (λx=>[(14,vi .i64 x.1)]) (λx=>[(2,.mp 3 x.2)]) (λx=>∃k:Nat,x.1=(k:Int)/\k<=vs.length/\NAt x.2 (a4q vs k)) (λx=>vs.length - x.1.toNat) (0,[]) ?_ ?_ ?_
 ·exact⟨0,rfl,c3d _,NAt.nil.1,λn=>NAt.nil.2 n⟩
 ·cbv
 ·intro x hinv;obtain⟨z,es⟩:=x;cbv
  repeat ((with_reducible apply b5 hA);cbv)
  try simp (maxSteps:=4000000) only [nc] at *
  obtain⟨k,hz,hk,hes⟩:=hinv;replace hz:z=(k:Int):=hz;replace hes:NAt es (a4q vs k):=hes;have hll:qy L=((vs.length:Nat):Int):=by rw[r1,hL,b2O]
  have hlt:qh z (qy L)=decide (k<vs.length):=by rw[e7,hll,hz];exact c2Q.2 (by omega)
  by_cases h9:k<vs.length
  ·rw[c2J h9] at hlt;obtain⟨x,hx⟩:∃x,vs[k]?=some x:=⟨_,c28 h9⟩;have gx:qz L z=some [.sc (.int .i64 x)]:=by rw[r2,hz,c2E (by omega),hL,show ((k:Int)).toNat=k by omega,c0Q hx]
   have hz1:qa .i64 (qb z 1)=((k+1:Nat):Int):=by rw[e1,e2,hz,IntWalk.i64_in _ (by omega)];omega
   have hmu:vs.length - (qa .i64 (qb z 1)).toNat<vs.length - z.toNat:=by rw[hz1,hz];omega
   have hes2:=hes.set x z;rw[hz] at hes2;rw[b2U hnd hx] at hes2;rw[<-hz] at hes2;obtain⟨es2,he2⟩:∃es2,es2=a0y es (ik x) (.one (.sc (.int .i64 z))):=⟨_,rfl⟩;rw[<-he2] at hes2;have hp:vg es (.one (.sc (.int .i64 x))) (.one (.sc (.int .i64 z)))=es2:=by rw[m2,he2];rfl
   rw[hlt]
   iterate 2 (try cbv;repeat ((first|with_reducible apply b5 hA|rw[gx]|rw[hp]);cbv))
   try simp (maxSteps:=4000000) only [nc] at *
   refine⟨(qa .i64 (qb z 1),es2),⟨k+1,hz1,h9,hes2⟩,hmu,?_⟩;cbv
  ·rw[c2G h9] at hlt;have hkv:k=vs.length:=by omega
   rw[hkv] at hes;have h5:=h4 es hes;rw[hlt];cbv
   repeat (first|(with_reducible apply b5 hA;cbv))
   refine c7 hA [] h3 ⟨rfl,rfl,rfl,rfl,rfl,rfl,rfl⟩ ?_
   rintro _ _ ⟨rfl,zz,rfl⟩
   cbv;refine c7 hA [3,2] (h5 zz) ⟨rfl,rfl,rfl,rfl,rfl,rfl,rfl⟩ ?_
   rintro _ _ ⟨rfl,zz2,rfl⟩
   cbv;refine b4y hA 3 rfl ?_;cbv
   repeat (first|(with_reducible apply b5 hA;cbv))

section
theorem b4D (b:Nat) (w:World) (h0:w.cell? ⟨b,0,none⟩=some (.pointer (some ⟨b,0,none⟩))) :
  Calls Tryd.prog 75 #[.pointer (some ⟨b,0,none⟩)] w λe w'=>e=.returned (.tuple #[])/\w'=w:=by
 obtain⟨j,hj,_⟩:=c3z.1 (show (Tryd.prog.info? 59).map (·.size)=some 2 by kernel_rfl)
 go_enter Tryd.func75,Tryd.ntmps75
 go_wp2
 rw[Lib.run_neq_ptr_same w _ Tryd.underlying56 hj]
 go_wp2
 go_end0
 exact⟨rfl,rfl⟩
theorem b1O (T b:Nat) (hlies:liesAt Tryd.prog Tryd.prog.depth T (2 / Tryd.prog.cellsOf T) 0 59 1=true) (w:World) (h0:w.cell? ⟨b,0,none⟩=some (.pointer none)) (hsh:w.shape? b=some (T,2)) (hfz:w.frozen? ⟨b,0,none⟩=false) :
  Calls Tryd.prog 75 #[.pointer (some ⟨b,0,none⟩)] w λe w'=>e=.returned (.tuple #[])/\w'=w.setCell ⟨b,0,none⟩ (.pointer (some ⟨b,0,none⟩)):=by
 obtain⟨j,hj,hjs⟩:=c3z.1 (show (Tryd.prog.info? 59).map (·.size)=some 2 by kernel_rfl)
 go_enter Tryd.func75,Tryd.ntmps75
 go_wp2
 rw[Lib.run_to_unsafe w ⟨b,0,none⟩ Tryd.underlying56 Tryd.underlying109 hj (by rw[hjs];decide) hsh (Nat.zero_lt_succ 1)];simp only[Result.andThen];rw[Oper.upon_value]
 go_wp2
 rw[run_callFunc_extern Tryd.func86 (by kernel_rfl) (by kernel_rfl) (by kernel_rfl) (e:=Extern.AbiNoEscape.same) (by kernel_rfl)];rw[Lib.run_noEscape];simp only[Result.andThen];rw[Oper.upon_value]
 go_wp2
 rw[Lib.run_from_unsafe w ⟨b,0,none⟩ Tryd.underlying109 Tryd.underlying56 hj hsh hlies];simp only[Result.andThen];rw[Oper.upon_value]
 go_wp2
 go_end0
 exact⟨rfl,rfl⟩
section
variable {I0:Nat->Nat->Prop} {X:Nat->Prop} {w0:W0} {I:Nat->Nat->Prop} {g:Nat->Value} {s:S} {a:Act} {w:World}
theorem RelI.unob (h:RelI I0 X w0 I g s a w) {k T:Nat} {us:List Value} (hk:s.o[k]?=some (.ob T us)) (h1:a2u (A6 us)=true):RelI I0 X w0 I g ⟨s.t,s.o.set k (.box (A6 us))⟩ a w:=by
 have hlt:=(c25.1 hk).1
 have a1T:∀i,A1 ⟨s.t,s.o.set k (.box (A6 us))⟩ i->A1 s i:=λi hl=>by
  obtain⟨o,ho,hdd⟩:=hl
  by_cases hik:k=i
  ·subst hik;exact⟨_,hk,by simp⟩
  ·simp only[c2L hik] at ho;exact⟨o,ho,hdd⟩
 refine⟨h.im,h.lt,h.fr,h.kp,by simp only[c2K];exact h.lo,h.st,λi o ho=>?_,λi j b hi hj=>h.dis i j b (a1T i hi) (a1T j hj),λi hi=>h.out i (by simpa using hi),h.tmp,h.dfr⟩
 by_cases hik:k=i
 ·subst hik;simp only[c2S hlt] at ho;cases ho;obtain⟨b,h2,h3,h4⟩:=h.obj k _ hk;exact⟨b,us,(T,[]),h2,by rw[c3b];exact h3,H0 us,a5T I w g h1,h4⟩
 ·simp only[c2L hik] at ho;exact h.obj i o ho
end
def b1P (T:Nat):O:=.ob T [.pointer none,.slice none 0 0]
theorem a5d:a0U Tryd.prog 75=true:=by kernel_rfl
theorem b1Q {w:World} {b T:Nat} {us:List Value} (h:w.heap[b]?=some (.cells us.toArray T (0,0))):w.shape? b=some (T,us.length):=by
 unfold World.shape?;rw[h]
 simp
theorem c1H (T:Nat) (hlies:liesAt Tryd.prog Tryd.prog.depth T (2 / Tryd.prog.cellsOf T) 0 59 1=true):j3 75 [.ptr 0 0] [b1P T] (λres os=>res=[]/\os=[.box [.ptr 0 0,.em]]):=by
 refine⟨a5d,λI w g args hrel=>?_⟩;obtain⟨b,hg,hb,hI,hM⟩:=hrel.obj 0 _ rfl;obtain⟨u,us,rfl,hu,hus⟩:=f9.uncons (show f9 I w g args [.ptr 0 0] from hrel.tmp);obtain rfl:=hus.unnil;obtain⟨b',hg',rfl⟩:=hu.unptr;rw[hg] at hg';injection hg' with hg'
 injection hg' with hg'
 injection hg' with hg' _ _
 subst hg';have c0:w.cell? ⟨b,0,none⟩=some (.pointer none):=by rw[Lib.cell_of_heap hb];rfl
 refine(b1O T b hlies w c0 (b1Q hb) (Lib.frozen_of_heap hb 0)).mono ?_
 rintro e w' ⟨rfl,rfl⟩
 have h2:=hrel.unob (k:=0) (T:=T) (us:=[.pointer none,.slice none 0 0]) rfl rfl;have hp:f9 I w g [.pointer (some ⟨b,0,none⟩)] [V.ptr 0 0]:=.cons (.ptr 0 0 b hg) (.nil I w g);obtain⟨b2,us2,t2,hg2,hb2,hlen,h3⟩:=h2.store (k:=0) (n:=0) (cs:=[.d (.sc (.pointer none)),.em]) (ds:=[.ptr 0 0]) (r:=[.ptr 0 0,.em]) (vs:=[.pointer (some ⟨b,0,none⟩)]) rfl hp (by simp[Value.oneCell']) rfl;rw[hg] at hg2;injection hg2 with hg2;injection hg2 with hg2;injection hg2 with hg2 _ _;subst hg2;rw[hb] at hb2;injection hb2 with hb2;injection hb2 with e1 e2 _
 have e3:us2=[.pointer none,.slice none 0 0]:=by
  have:=congrArg Array.toList e1
  simpa using this.symm
 subst e3;rw[setCell_eq_setRow w b 0 _ T (0,0) _ hb];refine⟨[],[],_,I,g,rfl,⟨rfl,rfl⟩,⟨h3.im,h3.lt,h3.fr,h3.kp,h3.lo,h3.st,h3.obj,h3.dis,h3.out,.nil _ _ _,rfl,h3.dfr.2⟩⟩
theorem c1I (x:V) (os0:List O):j3 75 [.ptr 0 0] (.box [.ptr 0 0,x]::os0) (λres os=>res=[]/\os=.box [.ptr 0 0,x]::os0):=by
 refine⟨a5d,λI w g args hrel=>?_⟩;obtain⟨b,us,t,hg,hb,hcs,h1,hI,hM⟩:=hrel.obj 0 _ rfl;obtain⟨u,us',rfl,hu,hus⟩:=f9.uncons (show f9 I w g args [.ptr 0 0] from hrel.tmp);obtain rfl:=hus.unnil;obtain⟨b',hg',rfl⟩:=hu.unptr;rw[hg] at hg';injection hg' with hg'
 injection hg' with hg'
 injection hg' with hg' _ _
 subst hg';obtain⟨u0,us0,rfl,hu0,_⟩:=hcs.uncons;obtain⟨b2,hg2,rfl⟩:=hu0.unptr;rw[hg] at hg2;injection hg2 with hg2;injection hg2 with hg2;injection hg2 with hg2 _ _;subst hg2;have c0:w.cell? ⟨b,0,none⟩=some (.pointer (some ⟨b,0,none⟩)):=by rw[Lib.cell_of_heap hb];rfl
 refine(b4D b w c0).mono ?_
 rintro e w' ⟨rfl,rfl⟩
 exact⟨[],[],_,I,g,rfl,⟨rfl,rfl⟩,⟨hrel.im,hrel.lt,hrel.fr,hrel.kp,hrel.lo,hrel.st,hrel.obj,hrel.dis,hrel.out,.nil _ _ _,rfl,hrel.dfr.2⟩⟩
end
def a9i (w:World) (v v':Value) (w':World):Prop:=(∃g,v.ownBlock=some g/\v'.ownBlock=some g/\w.grownBy w' (some g))\/(Below w.heap.size w w'/\(v'.ownBlock=none\/v'.ownBlock=some w.heap.size))
theorem a7U {P:Program} (w:World) (t u ty e:TypeId) (i:TypeInfo) (ht:P.underlying t=some (.slice e)) (hu:P.underlying u=some .string) (hi:P.info? e=some i) (hz:i.zero=some (.int .u8 0)) (hsize:i.size=1) (hby:i.bytes=1)
  (v:Value) (n:Nat) (xs:List Value) (hown:w.ownsRow 0 e 1 v n xs) (s:ByteArray) (h63:n+s.size<=maxLen) (hbytes:n+s.size<=140737488355328) :
  ∃v' w',(Builtin.append_ #[t,u] ty #[v,.string s]).run P w=.ok v' w'/\w'.ownsRow 0 e 1 v' (n+s.size) (xs++Lib.strCells s)/\a9i w v v' w':=by
 obtain⟨v',w',hr,h2,h3,h4⟩:=Lib.run_append_own_string (P:=P) w 0 t u ty e i ht hu hi hz hsize hby v n xs hown s h63 hbytes (c3d _);refine⟨v',w',hr,h2,?_⟩;have hxl:xs.length=n:=by simpa using hown.1
 rcases hown.2 with⟨rfl,rfl⟩|⟨g,cap,cur,rfl,hbg,hg,hnc,hcm,hcs,htake⟩
 ·refine .inr ⟨⟨h3.os,h3.tape,h3.output,h3.size,λk hk=>h3.block k hk (by simp[Value.ownBlock])⟩,?_⟩
  by_cases hm:s.size=0
  ·rw[h4.2 ⟨rfl,hm⟩];exact .inl rfl
  ·have hrn:=run_append_nil_string (P:=P) w t u ty e i (.int .u8 0) ht hu hi hz s (by omega) (by unfold maxLen at h63;omega) (by rw[hby];omega);rw[hr] at hrn;injection hrn with e1 e2;rw[e1];exact .inr rfl
 ·by_cases hroom:n+s.size<=cap
  ·have hrr:=Lib.run_append_room_string (P:=P) w t u ty e i ht hu hi hsize g n cap cur hg s hroom (by omega);rw[hr] at hrr;injection hrr with e1 e2;rw[e1];exact .inl ⟨g,rfl,rfl,h3⟩
  ·have holds:∀j u,xs[j]?=some u->w.cell? ((⟨g,0,none⟩:Addr).add j)=some u:=hown.cells (g:=g) rfl;have hrg:=Lib.run_append_grow_string (P:=P) w t u ty e i (.int .u8 0) ht hu hi hz ⟨g,0,none⟩ n cap xs (by rw[hsize];simpa using hxl) holds s (by omega) (by unfold maxLen at h63;omega) (by rw[hby];exact growslice_fits (by omega) (by omega));rw[hr] at hrg;injection hrg with e1 e2;rw[e1,e2];exact .inr ⟨((Below.refl _ _).drew).alloc (c2A _) _,.inr rfl⟩
theorem a3O {P:Program} {w:World} {ops:Array Oper} {rest:List Oper} {o:Oper} {a:Act} {Q:Exit->Act->World->Prop} (hgd:o.guard=none) (sl x:Operand) (t u:TypeId)
  (ho:o.op=.call { callee:=.builtin .append,args:=#[sl,x],argTypes:=#[t,u] })
  (e:TypeId) (i:TypeInfo) (ht:P.underlying t=some (.slice e)) (hu:P.underlying u=some .string) (hi:P.info? e=some i) (hz:i.zero=some (.int .u8 0)) (hsize:i.size=1) (hby:i.bytes=1)
  (v:Value) (n:Nat) (xs:List Value) (hs:a.eval sl=v) (hown:w.ownsRow 0 e 1 v n xs) (s:ByteArray) (hx:a.eval x=.string s) (h63:n+s.size<=maxLen) (hbytes:n+s.size<=140737488355328)
  (h:∀v' w',w'.ownsRow 0 e 1 v' (n+s.size) (xs++Lib.strCells s)->a9i w v v' w'->wpList P ops Q rest (a.put o.dst v') w'):wpList P ops Q (o::rest) a w:=by
 refine wpList_plain hgd λK hK=>?_
 obtain⟨v',w',hr,h2,h3⟩:=a7U (P:=P) w t u o.type e i ht hu hi hz hsize hby v n xs hown s h63 hbytes;unfold Oper.wp execOp;simp only[ho,resolve,invoke,builtin,Sem.run_bind,Sem.run_pure,Result.andThen_ok,List.map_toArray,c2Y,c4d,hs,hx,hr];exact hK _ _ (h v' w' h2 h3)
theorem a9i.other {w w':World} {v v':Value} (h:a9i w v v' w') {b:Nat} (hb:b<w.heap.size) (hne:v.ownBlock≠some b):w'.heap[b]?=w.heap[b]?:=by
 rcases h with⟨g,h1,h2,h3⟩|⟨h1,_⟩
 ·exact h3.block b hb (by rw[<-h1];exact λe=>hne e.symm)
 ·exact h1.block b hb
theorem F5 {w:World} {b T:Nat} {cur:Array Value} (h:w.heap[b]?=some (.cells cur T (0,0))) (i:Nat):w.cell? ⟨b,i,none⟩=cur[i]?:=by
 unfold World.cell?;rw[h]
 simp
theorem c1J (b T n:Nat) (cur:Array Value) (v:Value) (xs:List Value) (s:ByteArray) (w:World) (hb:w.heap[b]?=some (.cells cur T (0,0))) (k0:cur[0]?=some (.pointer (some ⟨b,0,none⟩))) (k1:cur[1]?=some v) (hown:w.ownsRow 0 5 1 v n xs) (hne:v.ownBlock≠some b) (h63:n+s.size<=137438953472) :
  Calls Tryd.prog 55 #[.pointer (some ⟨b,0,none⟩),.string s] w λe w'=>∃v' w1,e=.returned (.tuple #[.int .i64 s.size,.nilIface])/\w1.ownsRow 0 5 1 v' (n+s.size) (xs++Lib.strCells s)/\a9i w v v' w1/\w1.heap[b]?=some (.cells cur T (0,0))/\w'=w1.setCell ⟨b,1,none⟩ v':=by
 obtain⟨i0,hi,hz0,hz1,hz2⟩:=info_parts (show (Tryd.prog.info? 5).map (λi=>(i.zero,i.size,i.bytes))=some (some (.int .u8 0),1,1) by kernel_rfl);have c0:w.cell? ⟨b,0,none⟩=some (.pointer (some ⟨b,0,none⟩)):=by rw[F5 hb];exact k0
 have c1:w.cell? ⟨b,1,none⟩=some v:=by rw[F5 hb];exact k1
 have hlt:b<w.heap.size:=by
  rcases c3o b w.heap.size with h'|h'
  ·exact h'
  ·simp[c3S h'] at hb
 have HB:=Lib.hid hb;have HOWN:=Lib.hid hown;have K0:=Lib.hid k0;have K1:=Lib.hid k1;clear hb hown k0 k1
 go_enter Tryd.func55,Tryd.ntmps55
 go_wp2_with fail
 refine(b4D b _ c0).mono ?_
 rintro e w1 ⟨rfl,e1⟩
 subst e1
 go_wp2_with (at_builtin;refine a3O rfl _ _ 57 9 rfl 5 i0 Tryd.underlying57 Tryd.underlying9 hi hz0 hz1 hz2 _ n xs rfl HOWN.out s rfl ?h1 ?h2 ?_)
 case h1=>unfold maxLen;omega
 case h2=>omega
 intro v' w2 hown' hsp;have hb2:=(hsp.other hlt hne).trans HB.out;have d0:w2.cell? ⟨b,0,none⟩=some (.pointer (some ⟨b,0,none⟩)):=by rw[F5 hb2];exact K0.out
 have d1:w2.cell? ⟨b,1,none⟩=some v:=by rw[F5 hb2];exact K1.out
 have f1:w2.frozen? ⟨b,1,none⟩=false:=Lib.frozen_of_heap hb2 1;obtain⟨A,cap,rfl⟩:=L8 hown';have HB2:=Lib.hid hb2;have HO2:=Lib.hid hown';have HSP:=Lib.hid hsp;clear hb2 hown' hsp c0 c1
 go_wp2
 go_ret2
 exact⟨_,w2,rfl,HO2.out,HSP.out,HB2.out,rfl⟩
theorem c1K (b T:Nat) (hlies:liesAt Tryd.prog Tryd.prog.depth T (2 / Tryd.prog.cellsOf T) 0 59 1=true) (s:ByteArray) (w:World) (hb:w.heap[b]?=some (.cells #[.pointer none,.slice none 0 0] T (0,0))) (h63:s.size<=137438953472) :
  Calls Tryd.prog 55 #[.pointer (some ⟨b,0,none⟩),.string s] w λe w'=>∃v' w1,e=.returned (.tuple #[.int .i64 s.size,.nilIface])/\w1.ownsRow 0 5 1 v' s.size (Lib.strCells s)/\a9i (w.setCell ⟨b,0,none⟩ (.pointer (some ⟨b,0,none⟩))) (.slice none 0 0) v' w1/\w1.heap[b]?=some (.cells #[.pointer (some ⟨b,0,none⟩),.slice none 0 0] T (0,0))/\w'=w1.setCell ⟨b,1,none⟩ v':=by
 obtain⟨i0,hi,hz0,hz1,hz2⟩:=info_parts (show (Tryd.prog.info? 5).map (λi=>(i.zero,i.size,i.bytes))=some (some (.int .u8 0),1,1) by kernel_rfl);have c0:w.cell? ⟨b,0,none⟩=some (.pointer none):=by rw[F5 hb];rfl
 have hlt:b<w.heap.size:=by
  rcases c3o b w.heap.size with h'|h'
  ·exact h'
  ·simp[c3S h'] at hb
 have hsh:=b1Q (us:=[.pointer none,.slice none 0 0]) hb;have hfz:=Lib.frozen_of_heap hb 0
 have hb1:(w.setCell ⟨b,0,none⟩ (.pointer (some ⟨b,0,none⟩))).heap[b]?=some (.cells #[.pointer (some ⟨b,0,none⟩),.slice none 0 0] T (0,0)):=by
  rw[setCell_eq_setRow w b 0 _ T (0,0) _ hb,setRow_heap w b _ _ T _ hb];rfl
 have hlt1:b<(w.setCell ⟨b,0,none⟩ (.pointer (some ⟨b,0,none⟩))).heap.size:=by
  rcases c3o b (w.setCell ⟨b,0,none⟩ (.pointer (some ⟨b,0,none⟩))).heap.size with h'|h'
  ·exact h'
  ·simp[c3S h'] at hb1
 obtain⟨wz,hwz⟩:∃wz,wz=w.setCell ⟨b,0,none⟩ (.pointer (some ⟨b,0,none⟩)):=⟨_,rfl⟩;rw[<-hwz] at hb1 hlt1 ⊢;have HZ:=Lib.hid hwz;clear hwz;have HB:=Lib.hid hb1;have HL:=Lib.hid hlies;have HS:=Lib.hid hsh;have HF:=Lib.hid hfz;clear hb hb1 hlies hsh hfz
 go_enter Tryd.func55,Tryd.ntmps55
 go_wp2_with fail
 refine(b1O T b HL.out _ c0 HS.out HF.out).mono ?_
 rintro e w1 ⟨rfl,e1⟩
 rw[<-HZ.out] at e1;subst e1;have g1:w1.cell? ⟨b,1,none⟩=some (.slice none 0 0):=by rw[F5 HB.out];rfl
 go_wp2_with (at_builtin;refine a3O rfl _ _ 57 9 rfl 5 i0 Tryd.underlying57 Tryd.underlying9 hi hz0 hz1 hz2 _ 0 [] rfl (World.ownsRow_nil w1 0 5 1) s rfl ?h1 ?h2 ?_)
 case h1=>unfold maxLen;omega
 case h2=>omega
 intro v' w2 hown' hsp;have hb2:=(hsp.other hlt1 (by simp[Value.ownBlock])).trans HB.out;have d0:w2.cell? ⟨b,0,none⟩=some (.pointer (some ⟨b,0,none⟩)):=by rw[F5 hb2];rfl
 have d1:w2.cell? ⟨b,1,none⟩=some (.slice none 0 0):=by rw[F5 hb2];rfl
 have f1:w2.frozen? ⟨b,1,none⟩=false:=Lib.frozen_of_heap hb2 1;obtain⟨A,cap,rfl⟩:=L8 hown';have HB2:=Lib.hid hb2;have HO2:=Lib.hid hown';have HSP:=Lib.hid hsp;clear hb2 hown' hsp c0 g1
 go_wp2
 go_ret2
 exact⟨_,w2,rfl,HO2.out,HSP.out,HB2.out,rfl⟩
def rU (l:List UInt8):List (List D):=l.map λc=>[.sc (.int .u8 (c.toNat:Int))]
def a10 (l:List UInt8):List O:=[.box [.ptr 0 0,.own 1],.row false 5 (rU l)]
theorem a4r (l:List UInt8):(rU l).length=l.length:=by unfold rU;rw[c3f]
theorem b7U (a b:List UInt8):rU (a++b)=rU a++rU b:=by unfold rU;rw[c3G]
theorem b7V (l:List UInt8):∀r∈rU l,r.length=1:=λr hr=>by
 unfold rU at hr;obtain⟨c,_,rfl⟩:=c3k.1 hr;rfl
theorem a7V {I:Nat->Nat->Prop} {w:World} (s:ByteArray):s8 I w (Lib.strCells s) (rU (P0 s)).flatten:=by
 have key:∀l:List UInt8,s8 I w (l.map λb=>Value.int .u8 b.toNat) (rU l).flatten:=by
  intro l
  induction l with
  | nil=>exact .nil I w
  | cons c l ih=>exact .cons (.sc _ rfl) ih
 exact key _
theorem b1R:(ty 5).sz=1:=rfl
theorem a3k:a0U Tryd.prog 55=true:=by kernel_rfl
theorem a7W {b c:Nat} (h:Value.pointer (some ⟨b,0,none⟩)=.pointer (some ⟨c,0,none⟩)):b=c:=by
 injection h with h;injection h with h;injection h
theorem a6f (l:List UInt8) (s:ByteArray) (hlen:l.length+s.size<=137438953472):j3 55 [.ptr 0 0,vs s] (a10 l) (λres os=>res=[vi .i64 (s.size:Nat),.d (.sc .nilIface)]/\os=a10 (l++P0 s)):=by
 refine⟨a3k,λI w g args hrel=>?_⟩;obtain⟨b,us,t,hg,hb,hcs,h1,hI,hM⟩:=hrel.obj 0 _ rfl;obtain⟨usr,hown,hrl,hdr,hbk⟩:=hrel.obj 1 _ rfl;rw[b1R,a4r] at hown;obtain⟨u,us',rfl,hu,hus⟩:=f9.uncons (show f9 I w g args [.ptr 0 0,vs s] from hrel.tmp);obtain⟨us1,us2,rfl,hu1,hus2⟩:=hus.uncons;obtain rfl:=hus2.unnil;obtain⟨b',hg',rfl⟩:=hu.unptr;obtain rfl:=a7W (hg.symm.trans hg');obtain rfl:us1=.string s:=by cases hu1 with|d hd=>cases hd;rfl
 obtain⟨u0,us0,rfl,hu0,hu0s⟩:=hcs.uncons;obtain⟨v0,us0',rfl,hv0,hv0s⟩:=hu0s.uncons;obtain rfl:=hv0s.unnil;obtain⟨b2,hg2,rfl⟩:=hu0.unptr;obtain rfl:=a7W (hg.symm.trans hg2);obtain rfl:v0=g 1:=hv0.unown.1.trans (a27 hown)
 have hne:(g 1).ownBlock≠some b:=λe=>by
  have h2:M9 (g 1) b:=(a0T hown).2 e;have h3:M9 (g 0) b:=by rw[hg];rfl
  have:=hrel.dis 0 1 b ⟨_,rfl,by simp⟩ ⟨_,rfl,by simp⟩ h3 h2;omega
 refine(c1J b t.1 l.length _ (g 1) usr s w hb (by simp) (by simp) hown hne hlen).mono ?_
 rintro e w' ⟨v',w1,rfl,hown',hsp,hb1,rfl⟩
 have hys:=b7V (P0 s);have hl2:(rU (P0 s)).length=s.size:=by rw[a4r,B3]
 obtain⟨I',g',hgv,h2⟩:=hrel.appended (k:=1) (z:=false) (e:=5) (xs:=rU l) (ys:=rU (P0 s)) rfl (by rw[b1R,a4r];exact hown) (λr hr=>hys r hr) (a7V s) (v':=v') (w':=w1) (by rw[b1R,a4r,hl2];exact hown') hsp
 have hp0:g' 0=.pointer (some ⟨b,0,none⟩):=by
  have:=h2.st 0 (by show 0<2;omega) (by show H6 (g 0)=true;rw[hg];rfl);rw[this];exact hg
 obtain⟨A',c',hv'⟩:=L8 hown';have hpv:f9 I' w1 g' [v'] [V.own 1]:=.cons (by rw[hv'];exact .own _ _ _ _ (by rw[hgv,hv'];rfl)) (.nil I' w1 g');obtain⟨b3,us3,t3,hg3,hb3,hlen3,h3⟩:=h2.store (k:=0) (n:=1) (cs:=[.ptr 0 0,.jk]) (ds:=[.own 1]) (r:=[.ptr 0 0,.own 1]) (vs:=[v']) rfl hpv (by intro u hu;simp at hu;subst hu;rw[hv'];rfl) rfl;obtain rfl:=a7W (hp0.symm.trans hg3);rw[hb1] at hb3;injection hb3 with hb3;injection hb3 with e1 e2 _
 have e3:us3=[.pointer (some ⟨b,0,none⟩),g 1]++t.2:=by
  have:=congrArg Array.toList e1
  simpa using this.symm
 have e4:w1.setCell ⟨b,1,none⟩ v'=w1.setRow b (us3.take 1++[v']++us3.drop (1+1)).toArray:=by
  rw[setCell_eq_setRow w1 b 1 _ t.1 (0,0) _ hb1,e3]
  congr 1
 rw[e4];refine⟨[.int .i64 (s.size:Nat),.nilIface],[vi .i64 (s.size:Nat),.d (.sc .nilIface)],_,I',g',rfl,⟨rfl,?_⟩,⟨h3.im,h3.lt,h3.fr,h3.kp,h3.lo,h3.st,h3.obj,h3.dis,h3.out,?_,rfl,h3.dfr.2⟩⟩
 ·unfold a10;rw[b7U];rfl
 ·exact .cons (.d (.sc _ rfl)) (.cons (.d (.sc _ rfl)) (.nil _ _ _))
def b9s (T:Nat):Prop:=liesAt Tryd.prog Tryd.prog.depth T (2 / Tryd.prog.cellsOf T) 0 59 1=true
theorem b7W (T:Nat) (hT:b9s T) (s:ByteArray) (hlen:s.size<=137438953472):j3 55 [.ptr 0 0,vs s] [b1P T] (λres os=>res=[vi .i64 (s.size:Nat),.d (.sc .nilIface)]/\os=a10 (P0 s)):=by
 refine⟨a3k,λI w g args hrel=>?_⟩;obtain⟨b,hg,hb,hI,hM⟩:=hrel.obj 0 _ rfl;obtain⟨u,us',rfl,hu,hus⟩:=f9.uncons (show f9 I w g args [.ptr 0 0,vs s] from hrel.tmp);obtain⟨us1,us2,rfl,hu1,hus2⟩:=hus.uncons;obtain rfl:=hus2.unnil;obtain⟨b',hg',rfl⟩:=hu.unptr;obtain rfl:=a7W (hg.symm.trans hg');obtain rfl:us1=.string s:=by cases hu1 with|d hd=>cases hd;rfl
 refine(c1K b T hT s w hb hlen).mono ?_
 rintro e w' ⟨v',w1,rfl,hown',hsp,hb1,rfl⟩
 have hu2:=hrel.unob (k:=0) (T:=T) (us:=[.pointer none,.slice none 0 0]) rfl rfl;have hp:f9 I w g [.pointer (some ⟨b,0,none⟩)] [V.ptr 0 0]:=.cons (.ptr 0 0 b hg) (.nil I w g);obtain⟨b2,us2,t2,hg2,hb2,hlen2,h0⟩:=hu2.store (k:=0) (n:=0) (cs:=[.d (.sc (.pointer none)),.em]) (ds:=[.ptr 0 0]) (r:=[.ptr 0 0,.em]) (vs:=[.pointer (some ⟨b,0,none⟩)]) rfl hp (by simp[Value.oneCell']) rfl;obtain rfl:=a7W (hg.symm.trans hg2);rw[hb] at hb2;injection hb2 with hb2;injection hb2 with e1 e2 _
 have e3:us2=[.pointer none,.slice none 0 0]:=by
  have:=congrArg Array.toList e1
  simpa using this.symm
 subst e3
 have e4:w.setCell ⟨b,0,none⟩ (.pointer (some ⟨b,0,none⟩))=w.setRow b ([Value.pointer none,.slice none 0 0].take 0++[Value.pointer (some ⟨b,0,none⟩)]++[Value.pointer none,.slice none 0 0].drop (0+1)).toArray:=by
  rw[setCell_eq_setRow w b 0 _ T (0,0) _ hb];rfl
 have h00:RelI I (Xof g [b1P T]) ⟨w,g,[b1P T].length,[]⟩ I g ⟨[V.ptr 0 0,vs s],[O.box [.ptr 0 0,.em]]⟩ { tmps:=[Value.pointer (some ⟨b,0,none⟩),.string s].toArray,defers:=[] } (w.setCell ⟨b,0,none⟩ (.pointer (some ⟨b,0,none⟩))):=by rw[e4];exact h0
 clear h0 e4;generalize w.setCell ⟨b,0,none⟩ (.pointer (some ⟨b,0,none⟩))=wz at hsp h00;have h1:=h00.newObj (.row false 5 []) (.slice none 0 0) ⟨[],by rw[d9];exact World.ownsRow_nil wz 0 _ _,by simp,s8.nil I wz,λb hb=>by rw[d9] at hb;cases hb⟩ (λj b _ _ hb=>by cases hb);have hys:=b7V (P0 s);have hl2:(rU (P0 s)).length=s.size:=by rw[a4r,B3]
 obtain⟨I',g',hgv,h2⟩:=h1.appended (k:=1) (z:=false) (e:=5) (xs:=[]) (ys:=rU (P0 s)) (us:=[]) rfl (by rw[show upd g [O.box [V.ptr 0 0,V.em]].length (Value.slice none 0 0) 1=.slice none 0 0 from d9 ..];exact World.ownsRow_nil wz 0 _ _) (λr hr=>hys r hr) (a7V s) (v':=v') (w':=w1) (by rw[b1R,hl2];simpa using hown') (by rw[show upd g [O.box [V.ptr 0 0,V.em]].length (Value.slice none 0 0) 1=.slice none 0 0 from d9 ..];exact hsp)
 have hp0:g' 0=.pointer (some ⟨b,0,none⟩):=by
  have:=h2.st 0 (by show 0<1;omega) (by show H6 (g 0)=true;rw[hg];rfl);rw[this];exact hg
 obtain⟨A',c',hv'⟩:=L8 hown';have hpv:f9 I' w1 g' [v'] [V.own 1]:=.cons (by rw[hv'];exact .own _ _ _ _ (by rw[hgv,hv'];rfl)) (.nil I' w1 g');obtain⟨b3,us3,t3,hg3,hb3,hlen3,h3⟩:=h2.store (k:=0) (n:=1) (cs:=[.ptr 0 0,.em]) (ds:=[.own 1]) (r:=[.ptr 0 0,.own 1]) (vs:=[v']) rfl hpv (by intro u hu;simp at hu;subst hu;rw[hv'];rfl) rfl;obtain rfl:=a7W (hp0.symm.trans hg3);rw[hb1] at hb3;injection hb3 with hb3;injection hb3 with f1 f2 _
 have f3:us3=[.pointer (some ⟨b,0,none⟩),.slice none 0 0]:=by
  have:=congrArg Array.toList f1
  simpa using this.symm
 have f4:w1.setCell ⟨b,1,none⟩ v'=w1.setRow b (us3.take 1++[v']++us3.drop (1+1)).toArray:=by
  rw[setCell_eq_setRow w1 b 1 _ T (0,0) _ hb1,f3]
  congr 1
 rw[f4];refine⟨[.int .i64 (s.size:Nat),.nilIface],[vi .i64 (s.size:Nat),.d (.sc .nilIface)],_,I',g',rfl,⟨rfl,?_⟩,⟨h3.im,h3.lt,h3.fr,h3.kp,h3.lo,h3.st,h3.obj,h3.dis,h3.out,?_,rfl,h3.dfr.2⟩⟩
 ·rfl
 ·exact .cons (.d (.sc _ rfl)) (.cons (.d (.sc _ rfl)) (.nil _ _ _))
theorem a2m (l:List UInt8) (c:UInt8) (hlen:l.length+1<=137438953472):j3 56 [.ptr 0 0,vi .u8 (c.toNat:Int)] (a10 l) (λres os=>res=[.d (.sc .nilIface)]/\os=a10 (l++[c])):=by
 unfold a10;rw[b7U,show rU [c]=[[.sc (.int .u8 (c.toNat:Int))]] from rfl];have hll:=a4r l;generalize rU l=L at *;have hcc:=c1I (.own 1) [.row false 5 L];obtain⟨ci,hci⟩:∃ci,ci=(c.toNat:Int):=⟨_,rfl⟩;rw[<-hci];refine so9 Tryd.func56 rfl ?_;intros;rename_i hA;obtain⟨r1,r2,r3,r4⟩:=n9 hA
 try cbv;refine gr ?_;try simp only[nc] at *
 refine c7 hA [0,1] hcc ⟨rfl,rfl,rfl,rfl,rfl,rfl,rfl⟩ ?_
 rintro _ _ ⟨rfl,rfl⟩
 iterate 2 (try cbv;repeat ((first|with_reducible apply b5 hA|refine P5 hA true ?_|(refine K4 hA (by simp only[c2D,c2N];omega) ?_));cbv))
 try simp (maxSteps:=4000000) only [nc] at *
 rw[r4];exact d7 hA [0,1] ⟨rfl,rfl,rfl,rfl,rfl,rfl,rfl,rfl⟩ ⟨rfl,rfl⟩
theorem b4E (T:Nat) (hT:b9s T) (c:UInt8):j3 56 [.ptr 0 0,vi .u8 (c.toNat:Int)] [b1P T] (λres os=>res=[.d (.sc .nilIface)]/\os=a10 [c]):=by
 unfold a10;rw[show rU [c]=[[.sc (.int .u8 (c.toNat:Int))]] from rfl];have hcc:=c1H T hT;unfold b1P at *;obtain⟨ci,hci⟩:∃ci,ci=(c.toNat:Int):=⟨_,rfl⟩;rw[<-hci];refine so9 Tryd.func56 rfl ?_;intros;rename_i hA;obtain⟨r1,r2,r3,r4⟩:=n9 hA
 try cbv;refine gr ?_;try simp only[nc] at *
 refine c7 hA [0] hcc ⟨rfl,rfl,rfl,rfl,rfl,rfl,rfl⟩ ?_
 rintro _ _ ⟨rfl,rfl⟩
 iterate 2 (try cbv;repeat ((first|with_reducible apply b5 hA|refine P5 hA true ?_|refine b2z hA false ?_|(refine K4 hA (by simp only[c2D,c2N];omega) ?_));cbv))
 try simp (maxSteps:=4000000) only [nc] at *
 exact d7 hA [0,1] ⟨rfl,rfl,rfl,rfl,rfl,rfl,rfl,rfl⟩ ⟨rfl,rfl⟩
section
section
variable {I0:Nat->Nat->Prop} {X:Nat->Prop} {w0:W0} {I:Nat->Nat->Prop} {g:Nat->Value} {s:S} {a:Act} {w:World}
theorem a0b {s:S} {k:Nat} {j:Nat} (h:A1 ⟨s.t,s.o.set k .dead⟩ j):j≠k/\A1 s j:=by
 obtain⟨o,ho,hd⟩:=h
 by_cases e:k=j
 ·subst e;simp only at ho;have hlt:=(c25.1 ho).1;rw[c2K] at hlt;rw[c2S hlt] at ho;cases ho;exact absurd rfl hd
 ·simp only[c2L e] at ho;exact⟨c3P e,o,ho,hd⟩
theorem RelI.dead (h:RelI I0 X w0 I g s a w) (k:Nat):RelI I0 X w0 I g ⟨s.t,s.o.set k .dead⟩ a w:=by
 refine⟨h.im,h.lt,h.fr,h.kp,by simp only[c2K];exact h.lo,h.st,λi o ho=>?_,λi j b hi hj=>h.dis i j b (a0b hi).2 (a0b hj).2,λi hi=>h.out i (by simpa using hi),h.tmp,h.dfr⟩
 by_cases hd:o=.dead
 ·subst hd;exact True.intro
 ·have h1:=a0b (s:=s) (k:=k) ⟨o,ho,hd⟩;simp only[c2L (c3P h1.1)] at ho;exact h.obj i o ho
theorem RelI.deadTo (h:RelI I0 X w0 I g s a w) {k:Nat} {o:O} (hk:s.o[k]?=some o) (hd:o≠.dead) {w':World} {b:Nat} (hb:M9 (g k) b) (hos:w'.os=w.os) (htp:w'.tape=w.tape) (hou:w'.output=w.output) (hsz:w'.heap.size=w.heap.size)
  (hoth:∀c,c≠b->w'.heap[c]?=w.heap[c]?) (hcell:∀i,w'.cell? ⟨b,i,none⟩=w.cell? ⟨b,i,none⟩):RelI I0 X w0 I g ⟨s.t,s.o.set k .dead⟩ a w':=by
 have hm:=(h.obj k o hk).blk hd b hb
 have hkp:n7 I w w':=λb' n hb' i hi=>by
  by_cases e:b'=b
  ·subst e;exact hcell i
  ·exact a26 (hoth b' e) i
 refine⟨h.im,λb' n hb'=>by rw[hsz];exact h.lt b' n hb',⟨hos.trans h.fr.os,htp.trans h.fr.tape,hou.trans h.fr.output,by rw[hsz];exact h.fr.size,λb' hb' hX=>?_⟩,h.kp.trans λb' n hb' i hi=>hkp b' n (h.im b' n hb') i hi,by simp only[c2K];exact h.lo,h.st,λi x hx=>?_,λi j b hi hj=>h.dis i j b (a0b hi).2 (a0b hj).2,λi hi=>h.out i (by simpa using hi),h.tmp.mono (λ_ _ h=>h) hkp,h.dfr⟩
 ·rw[hoth b' λe=>?_]
  ·exact h.fr.block b' hb' hX
  ·subst e
   rcases hm.2 with h1|h1
   ·omega
   ·exact hX h1
 ·by_cases hxd:x=.dead
  ·subst hxd;exact True.intro
  ·have h1:=a0b (s:=s) (k:=k) ⟨x,hx,hxd⟩;simp only[c2L (c3P h1.1)] at hx;refine(h.obj i x hx).keep (λ_ _ h=>h) hkp (λb' hb'=>hoth b' λe=>?_) λ_ _ _ h=>h
   subst e;exact h1.1 (h.dis i k b' ⟨x,hx,hxd⟩ ⟨o,hk,hd⟩ hb' hb)
end
theorem b1S {w:World} {b T n:Nat} {cur:Array Value} (hn:n≠0) (h:w.heap[b]?=some (.cells cur T (0,0))):(w.freeze ⟨b,0,none⟩ n).heap[b]?=some (.cells cur T (0,n)):=by
 unfold World.freeze;rw[c2H hn];have hlt:=(c2I.1 h).1;simp only[c4s,c4I,h]
 simp
theorem b0o {w:World} {b n c:Nat} (hc:c≠b):(w.freeze ⟨b,0,none⟩ n).heap[c]?=w.heap[c]?:=by
 unfold World.freeze
 split
 ·rfl
 ·simp only[c4s];rw[c2H (c3P hc)]
theorem b1T (w:World) (b n:Nat):(w.freeze ⟨b,0,none⟩ n).os=w.os/\(w.freeze ⟨b,0,none⟩ n).tape=w.tape/\(w.freeze ⟨b,0,none⟩ n).output=w.output/\(w.freeze ⟨b,0,none⟩ n).heap.size=w.heap.size:=by
 unfold World.freeze
 split
 ·exact⟨rfl,rfl,rfl,rfl⟩
 ·exact⟨rfl,rfl,rfl,by simp⟩
theorem b5O:a0U Tryd.prog 32=true:=by kernel_rfl
theorem c1L (b T gb cap:Nat) (cur gc:Array Value) (l:List UInt8) (h0:l≠[]) (w:World) (hb:w.heap[b]?=some (.cells cur T (0,0))) (k1:cur[1]?=some (.slice (some ⟨gb,0,none⟩) l.length cap)) (hg:w.heap[gb]?=some (.cells gc 5 (0,0))) (hcap:l.length<=cap) (hcm:cap<=maxLen) (hcs:gc.size=cap)
  (hcells:∀(j:Nat) (x:UInt8),l[j]?=some x->gc[j]?=some (Value.int .u8 x.toNat)) :
  Calls Tryd.prog 32 #[.pointer (some ⟨b,0,none⟩)] w λe w'=>e=.returned (.string ⟨l.toArray⟩)/\w'=w.drew.freeze ⟨gb,0,none⟩ l.length:=by
 have hl0:l.length≠0:=by simpa using h0
 have c1:w.drew.cell? ⟨b,1,none⟩=some (.slice (some ⟨gb,0,none⟩) l.length cap):=by
  have:w.drew.heap[b]?=some (.cells cur T (0,0)):=hb;rw[F5 this];exact k1
 have hSD:(Builtin.unsafeSliceData_ #[57] 88 #[.slice (some ⟨gb,0,none⟩) l.length cap]).run Tryd.prog w.drew=.ok (.pointer (some ⟨gb,0,none⟩)) w.drew :=
  Lib.run_unsafeSliceData_row _ _ _ _ _ _ (by omega)
 have hUS:(Builtin.unsafeString_ #[88,3] 9 #[.pointer (some ⟨gb,0,none⟩),.int .i64 l.length]).run Tryd.prog w.drew=.ok (.string ⟨l.toArray⟩) (w.drew.freeze ⟨gb,0,none⟩ l.length):=by
  refine Lib.run_unsafeString_row w.drew 88 3 9 5 Tryd.underlying88 (by kernel_rfl) gb gc.size (by have hg':w.drew.heap[gb]?=some (.cells gc 5 (0,0)):=hg;simp[World.shape?,hg']) l h0 (by omega) (by unfold maxLen at hcm;omega) ?_;intro j x hx;have hg':w.drew.heap[gb]?=some (.cells gc 5 (0,0)):=hg;rw[Addr.add_lit,c3v,F5 hg'];exact hcells j x hx
 clear hb k1 hg hcap hcm hcs hcells h0
 go_enter Tryd.func32,Tryd.ntmps32
 go_wp2
 go_region
 all_goals (go_wp2;go_ret;exact⟨rfl,rfl⟩)
theorem c1M (b T:Nat) (cur:Array Value) (w:World) (hb:w.heap[b]?=some (.cells cur T (0,0))) (k1:cur[1]?=some (.slice none 0 0)) :
  Calls Tryd.prog 32 #[.pointer (some ⟨b,0,none⟩)] w λe w'=>e=.returned (.string ⟨#[]⟩)/\w'=w.drew:=by
 have c1:w.drew.cell? ⟨b,1,none⟩=some (.slice none 0 0):=by
  have:w.drew.heap[b]?=some (.cells cur T (0,0)):=hb;rw[F5 this];exact k1
 have hSD:(Builtin.unsafeSliceData_ #[57] 88 #[.slice none 0 0]).run Tryd.prog w.drew=.ok (.pointer none) w.drew:=rfl;have hUS:(Builtin.unsafeString_ #[88,3] 9 #[.pointer none,.int .i64 0]).run Tryd.prog w.drew=.ok (.string .empty) w.drew:=Lib.run_unsafeString_none w.drew _ _ _ none;clear hb k1
 go_enter Tryd.func32,Tryd.ntmps32
 go_wp2
 go_region
 all_goals (go_wp2;go_ret;exact⟨rfl,rfl⟩)
theorem c1N (b T gb cap:Nat) (hc0:cap≠0) (cur:Array Value) (w:World) (hb:w.heap[b]?=some (.cells cur T (0,0))) (k1:cur[1]?=some (.slice (some ⟨gb,0,none⟩) 0 cap)) :
  Calls Tryd.prog 32 #[.pointer (some ⟨b,0,none⟩)] w λe w'=>e=.returned (.string ⟨#[]⟩)/\w'=w.drew:=by
 have c1:w.drew.cell? ⟨b,1,none⟩=some (.slice (some ⟨gb,0,none⟩) 0 cap):=by
  have:w.drew.heap[b]?=some (.cells cur T (0,0)):=hb;rw[F5 this];exact k1
 have hSD:(Builtin.unsafeSliceData_ #[57] 88 #[.slice (some ⟨gb,0,none⟩) 0 cap]).run Tryd.prog w.drew=.ok (.pointer (some ⟨gb,0,none⟩)) w.drew:=Lib.run_unsafeSliceData_row _ _ _ _ _ _ hc0;have hUS:(Builtin.unsafeString_ #[88,3] 9 #[.pointer (some ⟨gb,0,none⟩),.int .i64 0]).run Tryd.prog w.drew=.ok (.string .empty) w.drew:=Lib.run_unsafeString_none w.drew _ _ _ _;clear hb k1 hc0
 go_enter Tryd.func32,Tryd.ntmps32
 go_wp2
 go_region
 all_goals (go_wp2;go_ret;exact⟨rfl,rfl⟩)
theorem c1O (b T gb:Nat) (cur gc:Array Value) (w:World) (hb:w.heap[b]?=some (.cells cur T (0,0))) (k1:cur[1]?=some (.slice (some ⟨gb,0,none⟩) 0 0)) (hg:w.heap[gb]?=some (.cells gc 5 (0,0))) :
  Calls Tryd.prog 32 #[.pointer (some ⟨b,0,none⟩)] w λe w'=>e=.returned (.string ⟨#[]⟩)/\w'=w.drew.alloc (.view ⟨gb,0,none⟩ 5):=by
 have hlt:b<w.heap.size:=by
  rcases c3o b w.heap.size with h'|h'
  ·exact h'
  ·simp[c3S h'] at hb
 have c1:w.drew.cell? ⟨b,1,none⟩=some (.slice (some ⟨gb,0,none⟩) 0 0):=by
  have:w.drew.heap[b]?=some (.cells cur T (0,0)):=hb;rw[F5 this];exact k1
 have hSD:(Builtin.unsafeSliceData_ #[57] 88 #[.slice (some ⟨gb,0,none⟩) 0 0]).run Tryd.prog w.drew=.ok (.pointer (some ⟨w.drew.heap.size,0,none⟩)) (w.drew.alloc (.view ⟨gb,0,none⟩ 5)) :=
  Lib.run_unsafeSliceData_zero w.drew _ _ 5 Tryd.underlying88 ⟨gb,0,none⟩ 0 (5,gc.size) (by have hg':w.drew.heap[gb]?=some (.cells gc 5 (0,0)):=hg;simp[World.shape?,hg'])
 have hb2:(w.drew.alloc (.view ⟨gb,0,none⟩ 5)).heap[b]?=some (.cells cur T (0,0)):=(Lib.alloc_old w.drew _ b hlt).trans hb
 have c2:(w.drew.alloc (.view ⟨gb,0,none⟩ 5)).cell? ⟨b,1,none⟩=some (.slice (some ⟨gb,0,none⟩) 0 0):=by
  rw[F5 hb2];exact k1
 have c3:(w.alloc (.view ⟨gb,0,none⟩ 5)).drew.cell? ⟨b,1,none⟩=some (.slice (some ⟨gb,0,none⟩) 0 0):=c2;have c0:w.cell? ⟨b,1,none⟩=some (.slice (some ⟨gb,0,none⟩) 0 0):=c1;have hUS:∀W:World,∀q,(Builtin.unsafeString_ #[88,3] 9 #[.pointer q,.int .i64 0]).run Tryd.prog W=.ok (.string .empty) W:=λW q=>Lib.run_unsafeString_none W _ _ _ q
 clear hb k1 hb2 hg
 go_enter Tryd.func32,Tryd.ntmps32
 go_wp2
 go_region
 all_goals (go_wp2;go_ret;exact⟨rfl,rfl⟩)
theorem a9j {I:Nat->Nat->Prop} {w:World}:∀(l:List UInt8) {us:List Value},s8 I w us (rU l).flatten->us=l.map λc=>Value.int .u8 c.toNat
 | [],us,h=>by
  have:=h.1
  simp[rU] at this
  exact this
 | c::l,us,h=>by
  obtain⟨u,us',rfl,h1,h2⟩:=s8.uncons (show s8 I w us (.sc (.int .u8 (c.toNat:Int))::(rU l).flatten) from h);rw[a9j l h2];cases h1;rfl
theorem c1P (l:List UInt8):j3 32 [.ptr 0 0] (a10 l) (λres os=>res=[vs ⟨l.toArray⟩]/\os=[.dead,.dead]):=by
 refine⟨b5O,λI w g args hrel=>?_⟩;obtain⟨b,us,t,hg,hb,hcs,h1,hI,hM⟩:=hrel.obj 0 _ rfl;obtain⟨usr,hown,hrl,hdr,hbk⟩:=hrel.obj 1 _ rfl;rw[b1R,a4r] at hown;obtain⟨u,us',rfl,hu,hus⟩:=f9.uncons (show f9 I w g args [.ptr 0 0] from hrel.tmp);obtain rfl:=hus.unnil;obtain⟨b',hg',rfl⟩:=hu.unptr;obtain rfl:=a7W (hg.symm.trans hg');obtain⟨u0,us0,rfl,hu0,hu0s⟩:=hcs.uncons;obtain⟨v0,us0',rfl,hv0,hv0s⟩:=hu0s.uncons;obtain rfl:=hv0s.unnil;obtain rfl:v0=g 1:=hv0.unown.1.trans (a27 hown);have hur:=a9j l hdr;subst hur;have hd:=hrel.drew
 have fin:∀ {w':World} {I':Nat->Nat->Prop} {o0 o1:O},RelI I (Xof g (a10 l)) ⟨w,g,(a10 l).length,[]⟩ I' g ⟨[V.ptr 0 0],[o0,o1]⟩ { tmps:=[Value.pointer (some ⟨b,0,none⟩)].toArray,defers:=[] } w' ->
   ∃us res os2 I' g',Ending.returned (Value.string ⟨l.toArray⟩)=.returned (pkg us)/\(res=[vs ⟨l.toArray⟩]/\os2=[O.dead,.dead])/\RelI I (Xof g (a10 l)) ⟨w,g,(a10 l).length,[]⟩ I' g' ⟨res,os2⟩ { tmps:=us.toArray,defers:=[] } w':=λ{w'} {I'} {o0} {o1} h=>by
  have h2:=(h.dead 0).dead 1;exact⟨[.string ⟨l.toArray⟩],_,_,I',g,rfl,⟨rfl,rfl⟩,⟨h2.im,h2.lt,h2.fr,h2.kp,h2.lo,h2.st,h2.obj,h2.dis,h2.out,.cons (.d (.sc _ rfl)) (.nil _ _ _),rfl,h2.dfr.2⟩⟩
 by_cases hl:l=[]
 ·subst hl
  rcases hown.2 with⟨e0,_⟩|⟨gb,cap,cur,e0,_,hgc,_,_,_,_⟩
  ·refine(c1M b t.1 _ w hb (by rw[e0];simp)).mono ?_
   rintro e w' ⟨rfl,rfl⟩
   exact fin hd
  ·by_cases hc0:cap=0
   ·subst hc0;refine(c1O b t.1 gb _ cur w hb (by rw[e0];simp) hgc).mono ?_
    rintro e w' ⟨rfl,rfl⟩
    exact fin (hd.grow (I':=I) ((Below.refl _ _).alloc (c2A _) _) (λ_ _ h=>h) (λ_ _ h=>.inl h))
   ·refine(c1N b t.1 gb cap hc0 _ w hb (by rw[e0];simp)).mono ?_
    rintro e w' ⟨rfl,rfl⟩
    exact fin hd
 ·rcases hown.2 with⟨_,hz⟩|⟨gb,cap,cur,e0,_,hgc,hnc,hcm,hcs',htake⟩
  ·exact absurd (c2M hz) hl
  ·refine(c1L b t.1 gb cap _ cur l hl w hb (by rw[e0];simp) hgc hnc hcm (by simpa using hcs') λj x hx=>?_).mono ?_
   ·have h5:(cur.toList.take (l.length * 1))[j]?=some (Value.int .u8 x.toNat):=by
     rw[htake,c3i,hx];rfl
    rw[c3g] at h5
    split at h5
    ·simpa using h5
    ·cases h5
   rintro e w' ⟨rfl,rfl⟩
   obtain⟨f1,f2,f3,f4⟩:=b1T w.drew gb l.length;have hgb:M9 (g 1) gb:=by rw[e0];rfl
   have h2:=hd.deadTo (k:=1) (o:=.row false 5 (rU l)) rfl (by simp) (w':=w.drew.freeze ⟨gb,0,none⟩ l.length) hgb f1 f2 f3 f4 (λc hc=>b0o hc) λi=>by
    have hgd:w.drew.heap[gb]?=some (.cells cur 5 (0,0)):=hgc;have hn:l.length≠0:=λh=>hl (c2M h)
    have hfz:=b1S hn hgd;rw[F5 hgd];unfold World.cell?;rw[hfz]
    simp
   exact fin h2
end
end Go.Proofs.YtlofmibkljoapaaDoor.Vm
end
section
namespace Go.Proofs
open Go.Shelf
open Go.RowKit in
def Tryd.laysM171_ren:Go.Shelf.Ren:=⟨fun|171=>57|243=>76|246=>87|283=>91|284=>92|285=>93|286=>94|129=>98|317=>97|318=>99|319=>100|320=>101|337=>102|338=>103|n=>n,fun|3=>3|9=>9|2=>2|4=>4|171=>114|0=>0|53=>31|37=>57|5=>5|173=>117|212=>121|51=>122|20=>20|213=>123|46=>112|232=>127|233=>128|n=>n,fun|17=>1|18=>2|19=>3|n=>n⟩
theorem Tryd.laysM171:Go.Proofs.LaysM.n171 Tryd.prog Tryd.laysM171_ren:={
 mixed:=by kernel_rfl
 f129:=Tryd.func98.trans (congrArg some (by kernel_rfl))
 f171:=Tryd.func57.trans (congrArg some (by kernel_rfl))
 f243:=Tryd.func76.trans (congrArg some (by kernel_rfl))
 f246:=Tryd.func87.trans (congrArg some (by kernel_rfl))
 f283:=Tryd.func91.trans (congrArg some (by kernel_rfl))
 f284:=Tryd.func92.trans (congrArg some (by kernel_rfl))
 f285:=Tryd.func93.trans (congrArg some (by kernel_rfl))
 f286:=Tryd.func94.trans (congrArg some (by kernel_rfl))
 f317:=Tryd.func97.trans (congrArg some (by kernel_rfl))
 f318:=Tryd.func99.trans (congrArg some (by kernel_rfl))
 f319:=Tryd.func100.trans (congrArg some (by kernel_rfl))
 f320:=Tryd.func101.trans (congrArg some (by kernel_rfl))
 f337:=Tryd.func102.trans (congrArg some (by kernel_rfl))
 f338:=Tryd.func103.trans (congrArg some (by kernel_rfl))
 t0:=Tryd.underlying0
 a0:=Tryd.isAgg0
 z0:=Tryd.sizeOf0
 v0:=Tryd.zeroValue0
 t2:=Tryd.underlying2
 a2:=Tryd.isAgg2
 z2:=Tryd.sizeOf2
 v2:=Tryd.zeroValue2
 t3:=Tryd.underlying3
 a3:=Tryd.isAgg3
 z3:=Tryd.sizeOf3
 v3:=Tryd.zeroValue3
 t4:=Tryd.underlying4
 a4:=Tryd.isAgg4
 z4:=Tryd.sizeOf4
 v4:=Tryd.zeroValue4
 t5:=Tryd.underlying5
 a5:=Tryd.isAgg5
 z5:=Tryd.sizeOf5
 v5:=Tryd.zeroValue5
 t9:=Tryd.underlying9
 a9:=Tryd.isAgg9
 z9:=Tryd.sizeOf9
 v9:=Tryd.zeroValue9
 t20:=Tryd.underlying20
 a20:=Tryd.isAgg20
 z20:=Tryd.sizeOf20
 v20:=Tryd.zeroValue20
 t37:=Tryd.underlying57
 a37:=Tryd.isAgg57
 z37:=Tryd.sizeOf57
 v37:=Tryd.zeroValue57
 t46:=Tryd.underlying112
 a46:=Tryd.isAgg112
 z46:=Tryd.sizeOf112
 v46:=Tryd.zeroValue112
 t51:=Tryd.underlying122
 a51:=Tryd.isAgg122
 z51:=Tryd.sizeOf122
 v51:=Tryd.zeroValue122
 t53:=Tryd.underlying31
 a53:=Tryd.isAgg31
 z53:=Tryd.sizeOf31
 v53:=Tryd.zeroValue31
 t171:=Tryd.underlying114
 a171:=Tryd.isAgg114
 z171:=Tryd.sizeOf114
 v171:=Tryd.zeroValue114
 t173:=Tryd.underlying117
 a173:=Tryd.isAgg117
 z173:=Tryd.sizeOf117
 v173:=Tryd.zeroValue117
 t212:=Tryd.underlying121
 a212:=Tryd.isAgg121
 z212:=Tryd.sizeOf121
 v212:=Tryd.zeroValue121
 t213:=Tryd.underlying123
 a213:=Tryd.isAgg123
 z213:=Tryd.sizeOf123
 t232:=Tryd.underlying127
 a232:=Tryd.isAgg127
 z232:=Tryd.sizeOf127
 v232:=Tryd.zeroValue127
 t233:=Tryd.underlying128
 a233:=Tryd.isAgg128
 z233:=Tryd.sizeOf128
 v233:=Tryd.zeroValue128
 g17:=by kernel_rfl
 g18:=by kernel_rfl
 g19:=by kernel_rfl
 i0:=by kernel_rfl
 i2:=by kernel_rfl
 i3:=by kernel_rfl
 i4:=by kernel_rfl
 i5:=by kernel_rfl
 i9:=by kernel_rfl
 i20:=by kernel_rfl
 i37:=by kernel_rfl
 i46:=by kernel_rfl
 i51:=by kernel_rfl
 i53:=by kernel_rfl
 i171:=by kernel_rfl
 i173:=by kernel_rfl
 i212:=by kernel_rfl
 i232:=by kernel_rfl
 i233:=by kernel_rfl
 m17:=by kernel_rfl
 m18:=by kernel_rfl
 m19:=by kernel_rfl }
open Go.RowKit Go.Sort Go.Lib in
theorem Tryd.strconv_Itoa (n:Int) (h0:-9223372036854775808<=n) (h1:n<=9223372036854775807) (w:World) (htab:Lib.TabIs Tryd.prog w "internal/strconv.uint64pow10" .u64 Lib.pow10Tab) :
  Calls Tryd.prog 57 #[.int .i64 n] w λe w'=>e=.returned (.string ⟨(Lib.itoa n).toArray⟩)/\∃k os,w'=grow (w.drewN k) os:=Any.strconv_Itoa Tryd.laysM171 n h0 h1 w htab
end Go.Proofs
end
section
namespace Go.Proofs.YtlofmibkljoapaaDoor.Vm
open Go.RowKit
set_option maxRecDepth 100000
set_option maxHeartbeats 4000000
theorem b5P:("internal/strconv.uint64pow10",IntKind.u64,Lib.pow10Tab)∈tabsOf:=by
 rw[show Lib.pow10Tab=_ from(by decide:Lib.pow10Tab=[1,10,100,1000,10000,100000,1000000,10000000,100000000,1000000000,10000000000,100000000000,1000000000000,10000000000000,100000000000000,1000000000000000,10000000000000000,100000000000000000,1000000000000000000,10000000000000000000])];unfold tabsOf
 simp
theorem b2V (n:Int) (h0:-9223372036854775808<=n) (h1:n<=9223372036854775807):m6 57 [.one (.sc (.int .i64 n))] [.one (.sc (.string ⟨(Lib.itoa n).toArray⟩))]:=by
 refine⟨by kernel_rfl,λI w args hI hat=>?_⟩
 match args,hat with
 | [v1],⟨h2,_⟩ =>
  have h2:AtD I w v1 (.sc (.int .i64 n)):=h2;cases h2;refine(Tryd.strconv_Itoa n h0 h1 w (hI.2 _ b5P).1).mono ?_
  rintro e w' ⟨rfl,k,os,rfl⟩
  exact⟨_,rfl,.sc _ rfl,⟨rfl,rfl,rfl,by simp[Sort.grow,World.drewN],λk hk=>by simp[Sort.grow,World.drewN,Array.getElem?_append,hk]⟩⟩
theorem b1U {W:ByteArray->Bool} {t:Ty} {s:Int} (h:c9 W t s=true):∃k,x6 t.op=some k/\(decide (8<=t.op) == (s == 114))=true/\t.kids.length=k.length/\0<=t.n/\n6 W t.kids k=true:=by
 rw[a2R] at h;cases hk:x6 t.op with
 | none=>unfold a2Q at h;rw[hk] at h;simp at h
 | some k =>
  unfold a2Q at h;rw[hk] at h;simp only[c2B,c3Q,c4H] at h;exact⟨k,rfl,h.1.1,h.1.2.1,h.1.2.2.2.1,h.2⟩
theorem b7X {W:ByteArray->Bool} {t:Ty} (h:c9 W t 116=true):0<=t.n/\(((t.op=1\/t.op=2\/t.op=3\/t.op=7)/\t.kids=[])\/(t.op=4/\∃a b,t.kids=[a,b]/\c9 W a 116=true/\c9 W b 116=true)\/((t.op=5\/t.op=6)/\∃a,t.kids=[a]/\c9 W a 114=true)):=by
 obtain⟨k,hk,h1,h2,h3,h4⟩:=b1U h;refine⟨h3,?_⟩;have h1:¬8<=t.op:=λh8=>by rw[c2J h8] at h1;exact absurd h1 (by decide)
 unfold x6 at hk
 split at hk
 ·rename_i ho;injection hk with hk;subst hk
  exact .inl ⟨by omega,c2M h2⟩
 ·split at hk
  ·rename_i ho;injection hk with hk;subst hk
   match t.kids,h2,h4 with
   | [a,b],_,h4=>simp only[n6,c2B] at h4;exact .inr (.inl ⟨ho,a,b,rfl,h4.1,h4.2.1⟩)
  ·split at hk
   ·rename_i ho;injection hk with hk;subst hk
    match t.kids,h2,h4 with
    | [a],_,h4=>simp only[n6,c2B] at h4;exact .inr (.inr ⟨ho,a,rfl,h4.1⟩)
   ·split at hk
    ·omega
    ·cases hk
theorem b7Y {W:ByteArray->Bool} {t:Ty} (h:c9 W t 114=true):0<=t.n/\(((t.op=8\/t.op=9\/t.op=10)/\t.kids=[])\/(t.op=11/\∃a b,t.kids=[a,b]/\c9 W a 116=true/\c9 W b 114=true)):=by
 obtain⟨k,hk,h1,h2,h3,h4⟩:=b1U h;refine⟨h3,?_⟩
 have h1:8<=t.op:=by
  by_cases h8:8<=t.op
  ·exact h8
  ·rw[c2G h8] at h1;exact absurd h1 (by decide)
 unfold x6 at hk
 split at hk
 ·rename_i ho;injection hk with hk;subst hk
  exact .inl ⟨by omega,c2M h2⟩
 ·split at hk
  ·omega
  ·split at hk
   ·omega
   ·split at hk
    ·rename_i ho;injection hk with hk;subst hk
     match t.kids,h2,h4 with
     | [a,b],_,h4=>simp only[n6,c2B] at h4;exact .inr ⟨ho,a,b,rfl,h4.1,h4.2.1⟩
    ·cases hk
def a2r (g:Ty->List UInt8):Bool->List (ByteArray×Ty)->List UInt8
 | _,[]=>[]
 | first,f::fs=>(if first=true then [] else [44])++(f.1.data.toList++(58::(g f.2++a2r g false fs)))
def a1M (t:Ty):List UInt8:=if t.op=9 then [124,63] else if t.op=10 then 124::39::Lib.itoa t.n else []
def G6 (g:Ty->List UInt8) (t:Ty):List UInt8:=a2r g true (c6 t)++a1M (j0 t)
def F6 (g:Ty->List UInt8) (t:Ty):List UInt8:=if t.op=4 then 40::(g t++[41]) else g t
def a7X (g:Ty->List UInt8) (t:Ty):List UInt8 :=
 if t.op=1 then [73,110,116] else if t.op=2 then [66,111,111,108] else if t.op=3 then [63] else if t.op=7 then 39::Lib.itoa t.n else
 if t.op=5 then (match t.kids with|[a]=>123::(G6 g a++[125])|_=>[]) else if t.op=6 then (match t.kids with|[a]=>60::(G6 g a++[62])|_=>[]) else
 if t.op=4 then (match t.kids with|[a,b]=>F6 g a++(45::62::g b)|_=>[]) else []
def b2W:Nat->Ty->List UInt8
 | 0,_=>[]
 | m+1,t=>a7X (b2W m) t
def l5 (t:Ty):List UInt8:=b2W t.parts.length t
theorem a7Y {g g':Ty->List UInt8}:∀(fs:List (ByteArray×Ty)) (b:Bool),(∀f∈fs,g f.2=g' f.2)->a2r g b fs=a2r g' b fs
 | [],_,_=>rfl
 | f::fs,b,h=>by rw[a2r,a2r,h f (c27 ..),a7Y fs false λx hx=>h x (c26 _ hx)]
theorem b2X {g g':Ty->List UInt8} (t:Ty) (h:∀x:Ty,x.parts.length<t.parts.length->g x=g' x):G6 g t=G6 g' t:=by
 unfold G6;rw[a7Y _ true λf hf=>h f.2 (x9 _ t (c2A _) f hf)]
theorem a6g {g g':Ty->List UInt8} (t:Ty) (h:∀x:Ty,x.parts.length<t.parts.length->g x=g' x):a7X g t=a7X g' t:=by
 have hkl:=o7 t;unfold a7X
 match hk:t.kids with
 | []=>rfl
 | [a] =>
  have h1:=hkl.2 a (by rw[hk];simp);dsimp only;rw[b2X a λx hx=>h x (by omega)]
 | [a,b] =>
  have h1:=hkl.2 a (by rw[hk];simp);have h2:=hkl.2 b (by rw[hk];simp);dsimp only;unfold F6;rw[h a (by omega),h b (by omega)]
 | a::b::c::l=>rfl
theorem b1V:∀(n m:Nat) (t:Ty),t.parts.length<=n->t.parts.length<=m->b2W n t=b2W m t
 | 0,_,t,h,_=>by have:=l6 t;omega
 | _+1,0,t,_,h=>by have:=l6 t;omega
 | n+1,m+1,t,h1,h2=>by rw[b2W,b2W];exact a6g t λx hx=>b1V n m x (by omega) (by omega)
theorem a0c (t:Ty):l5 t=a7X l5 t:=by
 unfold l5;have:=l6 t;obtain⟨m,hm⟩:∃m,t.parts.length=m+1:=⟨t.parts.length - 1,by omega⟩;rw[hm,b2W];exact a6g t λx hx=>b1V m _ x (by omega) (c2A _)
theorem b4F {g:Ty->List UInt8} (b:Bool) {t x y:Ty} (ho:t.op=11) (hk:t.kids=[x,y]):a2r g b (c6 t)++a1M (j0 t)=(if b=true then [] else [44])++(t.name.data.toList++(58::(g x++(a2r g false (c6 y)++a1M (j0 y))))):=by
 obtain⟨op,nm,n,ks⟩:=t;have ho:op=11:=ho;have hk:ks=[x,y]:=hk;subst ho;subst hk;rw[c6,c2E rfl,j0,c2E rfl,a2r]
 simp[Ty.name]
section
section
variable {qa:IntKind->Int->Int} {qb:Int->Int->Int} {qc:Int->Int->Int} {qd:Int->Int->Int} {qe:Int->Int->Int} {qf:Int->Int->Int} {qg:BinOp->IntKind->Int->IntKind->Int->Option Int} {qh:Int->Int->Bool} {qi:Int->Int->Bool} {qj:Int->Int->Bool} {qk:Int->Prop->Prop} {ql:List UInt8->List UInt8->Bool} {qm:List UInt8->List UInt8->Bool} {qo:ByteArray->List UInt8} {qp:ByteArray->ByteArray->ByteArray} {qq:ByteArray->ByteArray->Prop->Prop} {qs:ByteArray->Int} {qt:ByteArray->Int->Option Int} {qu:ByteArray->Int->Int->Option ByteArray} {qv:List (List D)->Option ByteArray} {qw:ByteArray->List (List D)} {qx:Int->Nat->Option Nat} {qy:List (List D)->Int} {qz:List (List D)->Int->Option (List D)} {va:List (List D)->Int->Int->Option (List (List D))} {vc:List (List D)->List (List D)->List (List D)} {vd:List (List D)->Int->List D->List (List D)} {ve:List (List D)->List (List D)->Prop->Prop} {vf:List (R×R)->R->Option R} {vg:List (R×R)->R->R->List (R×R)} {vh:List D->List D->Bool} {vj:Int->List D->(List (List D)->Prop)->Prop} {vk:Nat->List R->(List R->Prop)->Prop} {vl:Nat->List V->List O->(V->Prop)->Prop} {vp:Nat->List V->S->(V->S->Prop)->Prop} {vq:Nat->List V->List Nat->S->(V->S->Prop)->Prop} {vr:Nat->(Bool->Prop)->Prop} {vt:Nat->(Bool->Prop)->Prop} {vu:Nat->(List V->List O->Prop)->List V->S->Prop} {vv:(S->Prop)->S->Prop} {vw:Op->Option Nat->S->(S->Prop)->Prop} {vx:Array Oper->S->(S->Prop)->Prop} {vy:Code->(S->(X->S->Prop)->Prop)->S->(X->S->Prop)->Prop}
end
end
def WrU (f:Nat) (t:Ty) (out:List UInt8):Prop:=∀l:List UInt8,l.length+out.length<=137438953472->j3 f [.ptr 0 0,.ag (ofD (cT t))] (a10 l) (λres os=>res=[]/\os=a10 (l++out))
theorem d4 (l:List UInt8):a10 l=[.box [.ptr 0 0,.own 1],.row false 5 (rU l)]:=rfl
theorem a4s (t:Ty) (hop:t.op=1\/t.op=2\/t.op=3):WrU 31 t (l5 t):=by
 intro l hl;rw[a0c] at hl ⊢;unfold a7X at hl ⊢;have c1:=a6f l ⟨#[73,110,116]⟩;have c2:=a6f l ⟨#[66,111,111,108]⟩;have c3:=a2m l 63;obtain⟨op,nm,n,ks⟩:=t;simp only[Ty.op] at hop hl ⊢;rw[cT];generalize rT ks=K
 rcases hop with rfl|rfl|rfl
 ·replace c1:=c1 (by rw[show (⟨#[73,110,116]⟩:ByteArray).size=3 from rfl];simpa using hl);show j3 _ _ _ (λres os=>res=[]/\os=a10 (l++P0 ⟨#[73,110,116]⟩));clear c2 c3;rw[d4] at *;rw[d4] at *;generalize rU (l++P0 ⟨#[73,110,116]⟩)=R1 at *;generalize rU l=R0 at *;clear hl;refine so9 Tryd.func31 rfl λqa qb qc qd qe qf qg qh qi qj qk ql qm qo qp qq qs qt qu qv qw qx qy qz va vc vd ve vf vg vh vj vk vl vp vq vr vt vu vv vw vx vy hA=>?_
  obtain⟨e1,e2,e3,e4,e5,e6,e7,e8,e9⟩:=j8 hA;have h1:qj 1 1=true:=e9 _ _
  iterate 2 (try cbv;repeat ((first|with_reducible apply b5 hA|rw[h1]);cbv))
  try simp (maxSteps:=4000000) only [nc] at *
  refine c7 hA [0,1] c1 ⟨rfl,rfl,rfl,rfl,rfl,rfl,rfl⟩ ?_
  rintro _ _ ⟨rfl,rfl⟩
  iterate 2 (try cbv;repeat ((first|with_reducible apply b5 hA);cbv))
  try simp (maxSteps:=4000000) only [nc] at *
  exact d7 hA [0,1] ⟨rfl,rfl,rfl,rfl,rfl,rfl,rfl,rfl⟩ ⟨rfl,rfl⟩
 ·replace c2:=c2 (by rw[show (⟨#[66,111,111,108]⟩:ByteArray).size=4 from rfl];simpa using hl);show j3 _ _ _ (λres os=>res=[]/\os=a10 (l++P0 ⟨#[66,111,111,108]⟩));clear c1 c3;rw[d4] at *;rw[d4] at *;generalize rU (l++P0 ⟨#[66,111,111,108]⟩)=R1 at *;generalize rU l=R0 at *;clear hl;refine so9 Tryd.func31 rfl λqa qb qc qd qe qf qg qh qi qj qk ql qm qo qp qq qs qt qu qv qw qx qy qz va vc vd ve vf vg vh vj vk vl vp vq vr vt vu vv vw vx vy hA=>?_
  obtain⟨e1,e2,e3,e4,e5,e6,e7,e8,e9⟩:=j8 hA;have h1:qj 2 1=false:=e9 _ _;have h2:qj 2 2=true:=e9 _ _
  iterate 2 (try cbv;repeat ((first|with_reducible apply b5 hA|rw[h1]|rw[h2]);cbv))
  try simp (maxSteps:=4000000) only [nc] at *
  refine c7 hA [0,1] c2 ⟨rfl,rfl,rfl,rfl,rfl,rfl,rfl⟩ ?_
  rintro _ _ ⟨rfl,rfl⟩
  iterate 2 (try cbv;repeat ((first|with_reducible apply b5 hA);cbv))
  try simp (maxSteps:=4000000) only [nc] at *
  exact d7 hA [0,1] ⟨rfl,rfl,rfl,rfl,rfl,rfl,rfl,rfl⟩ ⟨rfl,rfl⟩
 ·replace c3:=c3 (by simpa using hl);show j3 _ _ _ (λres os=>res=[]/\os=a10 (l++[63]));replace c3:j3 56 [.ptr 0 0,vi .u8 63] _ _:=c3;clear c1 c2;rw[d4] at *;rw[d4] at *;generalize rU (l++[63])=R1 at *;generalize rU l=R0 at *;clear hl;refine so9 Tryd.func31 rfl λqa qb qc qd qe qf qg qh qi qj qk ql qm qo qp qq qs qt qu qv qw qx qy qz va vc vd ve vf vg vh vj vk vl vp vq vr vt vu vv vw vx vy hA=>?_
  obtain⟨e1,e2,e3,e4,e5,e6,e7,e8,e9⟩:=j8 hA;have h1:qj 3 1=false:=e9 _ _;have h2:qj 3 2=false:=e9 _ _;have h3:qj 3 3=true:=e9 _ _
  iterate 2 (try cbv;repeat ((first|with_reducible apply b5 hA|rw[h1]|rw[h2]|rw[h3]);cbv))
  try simp (maxSteps:=4000000) only [nc] at *
  refine c7 hA [0,1] c3 ⟨rfl,rfl,rfl,rfl,rfl,rfl,rfl⟩ ?_
  rintro _ _ ⟨rfl,rfl⟩
  iterate 2 (try cbv;repeat ((first|with_reducible apply b5 hA);cbv))
  try simp (maxSteps:=4000000) only [nc] at *
  exact d7 hA [0,1] ⟨rfl,rfl,rfl,rfl,rfl,rfl,rfl,rfl⟩ ⟨rfl,rfl⟩
theorem b5Q (nm:ByteArray) (n:Int) (ks:List Ty) (h0:0<=n) (h1:n<=9223372036854775807):WrU 31 (.mk 7 nm n ks) (39::Lib.itoa n):=by
 intro l hl;have c1:=a6f l (⟨#[39]⟩++⟨(Lib.itoa n).toArray⟩);have hi:=b2V n (by omega) h1;have hb:P0 (⟨#[39]⟩++⟨(Lib.itoa n).toArray⟩:ByteArray)=39::Lib.itoa n:=by unfold P0;simp
 have hz:(⟨#[39]⟩++⟨(Lib.itoa n).toArray⟩:ByteArray).size=(39::Lib.itoa n).length:=by rw[<-hb,B3]
 replace c1:=c1 (by rw[hz];exact hl);rw[hb] at c1
 have hfit:(⟨#[39]⟩:ByteArray).size+(⟨(Lib.itoa n).toArray⟩:ByteArray).size<=4611686018427387904:=by
  have h2:(⟨#[39]⟩++⟨(Lib.itoa n).toArray⟩:ByteArray).size=(⟨#[39]⟩:ByteArray).size+(⟨(Lib.itoa n).toArray⟩:ByteArray).size:=by simp
  rw[<-h2,hz];omega
 rw[cT];generalize rT ks=K;clear hz hb;rw[d4] at *;rw[d4] at *;generalize rU (l++39::Lib.itoa n)=R1 at *;generalize rU l=R0 at *;clear hl;generalize (⟨(Lib.itoa n).toArray⟩:ByteArray)=D at *;obtain⟨S,hS⟩:∃S,S=(⟨#[39]⟩++D:ByteArray):=⟨_,rfl⟩;rw[<-hS] at c1;refine so9 Tryd.func31 rfl ?_;intro _ _ _ _ _ _ _ _ _ qj _ _ _ _ qp;intros;rename_i hA;obtain⟨e1,e2,e3,e4,e5,e6,e7,e8,e9⟩:=j8 hA;obtain⟨s1,s2,s3,s4,s5,s6,s7⟩:=A3 hA;have h1:qj 7 1=false:=e9 _ _;have h2:qj 7 2=false:=e9 _ _;have h3:qj 7 3=false:=e9 _ _;have h7:qj 7 7=true:=e9 _ _;have hc:qp ⟨#[39]⟩ D=S:=by rw[s4,hS]
 iterate 2 (try cbv;repeat ((first|with_reducible apply b5 hA|rw[h1]|rw[h2]|rw[h3]|rw[h7]|refine b9 hA _ hi rfl ?_|refine c5 hA _ hi ?_);cbv))
 try simp (maxSteps:=4000000) only [nc] at *
 refine a9J hA hfit ?_;cbv;rw[hc]
 iterate 2 (try cbv;repeat ((first|with_reducible apply b5 hA);cbv))
 try simp (maxSteps:=4000000) only [nc] at *
 refine c7 hA [0,1] c1 ⟨rfl,rfl,rfl,rfl,rfl,rfl,rfl⟩ ?_
 rintro _ _ ⟨rfl,rfl⟩
 iterate 2 (try cbv;repeat ((first|with_reducible apply b5 hA);cbv))
 try simp (maxSteps:=4000000) only [nc] at *
 exact d7 hA [0,1] ⟨rfl,rfl,rfl,rfl,rfl,rfl,rfl,rfl⟩ ⟨rfl,rfl⟩
def Mod (t:Ty):Prop:=∀x∈t.parts,x.name.size<=32/\0<=x.n/\x.n<=9223372036854775807
theorem Mod.kid {t x:Ty} (h:Mod t) (hx:x∈t.kids):Mod x:=λy hy=>h y (by rw[d5];exact c26 _ (c2U.2 ⟨x,hx,hy⟩))
theorem Mod.self {t:Ty} (h:Mod t):t.name.size<=32/\0<=t.n/\t.n<=9223372036854775807:=h t (by rw[r6];exact c27 ..)
theorem a9k {t a:Ty} (h:t.kids=[a]):t.parts.length=1+a.parts.length:=by rw[d5,h];simp;omega
theorem a9l {t a b:Ty} (h:t.kids=[a,b]):t.parts.length=1+a.parts.length+b.parts.length:=by rw[d5,h];simp;omega
theorem b9t {t:Ty} (h:¬(t.op=11/\∃a b,t.kids=[a,b])):c6 t=[]/\j0 t=t:=by
 obtain⟨op,nm,n,ks⟩:=t
 match ks,h with
 | [],_=>exact⟨rfl,rfl⟩
 | [a],_=>exact⟨rfl,rfl⟩
 | a::b::c::l,_=>exact⟨rfl,rfl⟩
 | [a,b],h =>
  have h:op≠11:=λe=>h ⟨e,a,b,rfl⟩
  unfold c6 j0;rw[c2H h,c2H h];exact⟨rfl,rfl⟩
theorem b5R (t:Ty) (h:0<=t.n/\t.n<=9223372036854775807):(a1M t).length<=23:=by
 have h1:=Lib.itoa_length_le t.n (by omega) h.2;unfold a1M
 split
 ·simp
 ·split
  ·simp;omega
  ·simp
theorem b9u:∀(m:Nat) (t:Ty),t.parts.length<=m->Mod t->(l5 t).length<=64 * t.parts.length/\∀b,(a2r l5 b (c6 t)++a1M (j0 t)).length<=64 * t.parts.length:=by
 intro m
 induction m with
 | zero=>intro t h;have:=l6 t;omega
 | succ m ih =>
  intro t hm hM;have hkl:=o7 t;have hp:=l6 t;have hs:=hM.self
  constructor
  ·rw[a0c];unfold a7X
   split
   ·simp;omega
   split
   ·simp;omega
   split
   ·simp;omega
   split
   ·have h1:=Lib.itoa_length_le t.n (by omega) hs.2.2
    simp;omega
   split
   ·split
    ·rename_i a hk;have h1:=(ih a (by have:=hkl.2 a (by rw[hk];simp);omega) (hM.kid (by rw[hk];simp))).2 true;have h2:=a9k hk;unfold G6;simp only[c2D,c29,c2N] at h1 ⊢;omega
    ·simp
   split
   ·split
    ·rename_i a hk;have h1:=(ih a (by have:=hkl.2 a (by rw[hk];simp);omega) (hM.kid (by rw[hk];simp))).2 true;have h2:=a9k hk;unfold G6;simp only[c2D,c29,c2N] at h1 ⊢;omega
    ·simp
   split
   ·split
    ·rename_i a b hk;have h1:=(ih a (by have:=hkl.2 a (by rw[hk];simp);omega) (hM.kid (by rw[hk];simp))).1;have h2:=(ih b (by have:=hkl.2 b (by rw[hk];simp);omega) (hM.kid (by rw[hk];simp))).1;have h3:=a9l hk;unfold F6
     split <;> simp only[c2D,c29,c2N] <;> omega
    ·simp
   ·simp
  ·intro b
   by_cases h:t.op=11/\∃a b,t.kids=[a,b]
   ·obtain⟨h11,x,y,hk⟩:=h;have h1:=(ih x (by have:=hkl.2 x (by rw[hk];simp);omega) (hM.kid (by rw[hk];simp))).1;have h2:=(ih y (by have:=hkl.2 y (by rw[hk];simp);omega) (hM.kid (by rw[hk];simp))).2 false;have h3:=a9l hk;have h4:t.name.data.toList.length<=32:=hs.1;rw[b4F b h11 hk];simp only[c29,c2D] at h2 ⊢;have h5:(if b=true then ([]:List UInt8) else [44]).length<=1:=by split <;> simp
    omega
   ·obtain⟨h1,h2⟩:=b9t h;rw[h1,h2];have h3:=b5R t hs.2;simp only[a2r,c3t];omega
theorem c0V {t:Ty} (h:Mod t):(l5 t).length<=64 * t.parts.length:=(b9u _ t (c2A _) h).1
theorem a9m (t:Ty):cT t=[.sc (.int .u8 t.op),.sc (.string t.name),.sc (.int .i64 t.n),.sl 4 (rT t.kids)]:=by cases t;rw[cT];rfl
theorem c1Q (W:ByteArray->Bool) (t:Ty) (hs:c9 W t 114=true) (hn:∀x∈t.parts,x.n<=9223372036854775807) (hW:∀x:Ty,x.parts.length<t.parts.length->x∈t.parts->c9 W x 116=true->WrU 31 x (l5 x)):WrU 58 t (G6 l5 t):=by
 intro l hl;rw[a9m];obtain⟨op0,hop0⟩:∃o,o=t.op:=⟨_,rfl⟩;obtain⟨nm0,hnm0⟩:∃o,o=t.name:=⟨_,rfl⟩;obtain⟨n0,hn0⟩:∃o,o=t.n:=⟨_,rfl⟩;obtain⟨K0,hK0⟩:∃o,o=rT t.kids:=⟨_,rfl⟩;obtain⟨R0,hR0⟩:∃o,o=rU l:=⟨_,rfl⟩;obtain⟨RE,hRE⟩:∃o,o=rU (l++G6 l5 t):=⟨_,rfl⟩;rw[d4,d4,<-hop0,<-hnm0,<-hn0,<-hK0,<-hR0,<-hRE];refine so9 Tryd.func58 rfl ?_;intro _ _ _ _ _ _ _ _ _ qj _ _ _ _ qp _ _ _ _ _ _ _ _ qz _ _ _ _ _ _ _ _ _ _ _ _ _ _ _ _ _ vx;intros;rename_i hA;obtain⟨e1,e2,e3,e4,e5,e6,e7,e8,e9⟩:=j8 hA;obtain⟨r1,r2,r3,r4⟩:=n9 hA;obtain⟨s1,s2,s3,s4,s5,s6,s7⟩:=A3 hA
 iterate 2 (try cbv;repeat ((first|with_reducible apply b5 hA);cbv))
 try simp (maxSteps:=4000000) only [nc] at *
 refine l9 hA (γ:=Bool×Int×ByteArray×Int×List (List D)×List (List D)×Nat) (λx=>[(4,.d (.sc (.bool x.1)))]) (λx=>[(1,.row false 5 x.2.2.2.2.2.1),(2,.box [.d (.sc (.int .u8 x.2.1)),.d (.sc (.string x.2.2.1)),.d (.sc (.int .i64 x.2.2.2.1)),.d (.sl 4 x.2.2.2.2.1)])])
  (λx=>∃(y:Ty) (pre:List UInt8),x.2=(y.op,y.name,y.n,rT y.kids,rU pre,y.parts.length)/\c9 W y 114=true/\y∈t.parts/\y.parts.length<=t.parts.length/\pre++(a2r l5 x.1 (c6 y)++a1M (j0 y))=l++G6 l5 t)
  (λx=>x.2.2.2.2.2.2) (true,op0,nm0,n0,K0,R0,t.parts.length) ?_ ?_ ?_
 ·exact⟨t,l,by rw[hop0,hnm0,hn0,hK0,hR0],hs,by rw[r6];exact c27 ..,c2A _,rfl⟩
 ·cbv
 ·intro x hinv;obtain⟨b,op,nm,n,K,R,N⟩:=x;cbv
  repeat ((with_reducible apply b5 hA);cbv)
  obtain⟨y,pre,heq,hsy,hym,hle,hby⟩:=hinv;simp only[Prod.mk.injEq] at heq;obtain⟨hop,hnm,hnn,hK,hR,hN⟩:=heq
  replace hby:pre++(a2r l5 b (c6 y)++a1M (j0 y))=l++G6 l5 t:=hby
  obtain⟨hy0,hys⟩:=b7Y hsy;have hyn:=hn y hym
  have hlen:pre.length+(a2r l5 b (c6 y)++a1M (j0 y)).length<=137438953472:=by
   have:=congrArg List.length hby
   simp only[c29] at this ⊢;omega
  have h11:qj op 11=decide (op=11):=e9 _ _
  by_cases hc:y.op=11
  ·rw[hop,c2J hc,<-hop] at h11
   obtain⟨-,a,c,hk,hsa,hsc⟩:y.op=11/\∃a b,y.kids=[a,b]/\c9 W a 116=true/\c9 W b 114=true:=by
    rcases hys with⟨h,_⟩|h
    ·omega
    ·exact h
   have hkl:=o7 y;have hpa:=hkl.2 a (by rw[hk];simp);have hpc:=hkl.2 c (by rw[hk];simp);have hma:a∈t.parts:=y9 (by rw[d5];exact c26 _ (c2U.2 ⟨a,by rw[hk];simp,by rw[r6];exact c27 ..⟩)) hym;have hmc:c∈t.parts:=y9 (by rw[d5];exact c26 _ (c2U.2 ⟨c,by rw[hk];simp,by rw[r6];exact c27 ..⟩)) hym;have hwa:=hW a (by omega) hma hsa;have hat:=b4F (g:=l5) b hc hk;rw[hat] at hby hlen;have hlc:(cT c)=[.sc (.int .u8 c.op),.sc (.string c.name),.sc (.int .i64 c.n),.sl 4 (rT c.kids)]:=a9m c;have hnml:y.name.data.toList.length=y.name.size:=rfl;simp only[c29,c2D] at hlen;obtain⟨a0,a1,a2,a3,ha⟩:=d6 a;obtain⟨P1,hP1⟩:∃P,P=pre++(if b=true then [] else [44]):=⟨_,rfl⟩;have hl1:P1.length=pre.length+(if b=true then ([]:List UInt8) else [44]).length:=by rw[hP1,c29]
   have c1:=a2m pre 44;have c2:=a6f P1 nm (by rw[hnm,<-hnml];omega);have c3:=a2m (P1++P0 nm) 58 (by rw[c29,B3,hnm,<-hnml];omega);have c4:=hwa (P1++P0 nm++[58]) (by rw[c29,c29,B3,hnm,<-hnml];simp only[c2D,c2N];omega)
   have hnew:(P1++P0 nm++[58]++l5 a)++(a2r l5 false (c6 c)++a1M (j0 c))=l++G6 l5 t:=by
    rw[<-hby,hP1,hnm];show _=pre++((if b=true then [] else [44])++(P0 y.name++58::(l5 a++(a2r l5 false (c6 c)++a1M (j0 c)))))
    simp
   rw[ha] at c4;rw[d4] at c1 c2 c3 c4;rw[d4] at c1 c2 c3 c4;have g0:qz K 0=some [a0,a1,a2,a3]:=by rw[r2,c2E (by omega),hK,hk,rT,ha];rfl
   obtain⟨cop,hcop⟩:∃o,o=c.op:=⟨_,rfl⟩;obtain⟨cnm,hcnm⟩:∃o,o=c.name:=⟨_,rfl⟩;obtain⟨cn,hcn⟩:∃o,o=c.n:=⟨_,rfl⟩;obtain⟨cK,hcK⟩:∃o,o=rT c.kids:=⟨_,rfl⟩;have g1:qz K 1=some [.sc (.int .u8 cop),.sc (.string cnm),.sc (.int .i64 cn),.sl 4 cK]:=by rw[r2,c2E (by omega),hK,hk,rT,rT,hlc,hcop,hcnm,hcn,hcK];rfl
   obtain⟨cN,hcN⟩:∃o,o=c.parts.length:=⟨_,rfl⟩;have hmu:cN<N:=by rw[hcN,hN];exact hpc
   obtain⟨R4,hR4⟩:∃o,o=rU (P1++P0 nm++[58]++l5 a):=⟨_,rfl⟩
   have fin:∃(y:Ty) (pre:List UInt8),(cop,cnm,cn,cK,R4,cN)=(y.op,y.name,y.n,rT y.kids,rU pre,y.parts.length)/\c9 W y 114=true/\y∈t.parts/\y.parts.length<=t.parts.length/\pre++(a2r l5 false (c6 y)++a1M (j0 y))=l++G6 l5 t :=
    ⟨c,P1++P0 nm++[58]++l5 a,by rw[hcop,hcnm,hcn,hcK,hR4,hcN],hsc,hmc,by omega,hnew⟩
   rw[<-hR4] at c4;rw[<-hR] at c1;rw[h11];cases b with
   | true =>
    have hP:P1=pre:=by rw[hP1];simp
    rw[hP,<-hR] at c2;rw[hP] at c3 c4;clear c1;generalize rU (pre++P0 nm)=R2 at *;generalize rU (pre++P0 nm++[58])=R3 at *;clear hR4 hwa hW hn hl hs hnew hP hP1 hat hby hl1 hlen
    iterate 2 (try cbv;repeat ((first|with_reducible apply b5 hA|rw[g0]|rw[g1]|(refine c7 hA [0,1] c2 ⟨rfl,rfl,rfl,rfl,rfl,rfl,rfl⟩ ?_;rintro _ _ ⟨rfl,rfl⟩)|(refine c7 hA [0,1] c3 ⟨rfl,rfl,rfl,rfl,rfl,rfl,rfl⟩ ?_;rintro _ _ ⟨rfl,rfl⟩)|(refine c7 hA [0,1] c4 ⟨rfl,rfl,rfl,rfl,rfl,rfl,rfl⟩ ?_;rintro _ _ ⟨rfl,rfl⟩));cbv))
    try simp (maxSteps:=4000000) only [nc] at *
    refine⟨(false,cop,cnm,cn,cK,R4,cN),fin,hmu,?_⟩;cbv
   | false =>
    have hP:P1=pre++[44]:=by rw[hP1];simp
    rw[hP] at c2 c3 c4;replace c1:j3 56 [.ptr 0 0,vi .u8 44] _ _:=c1 (by simp at hlen;omega);generalize rU (pre++[44])=R1 at *;generalize rU (pre++[44]++P0 nm)=R2 at *;generalize rU (pre++[44]++P0 nm++[58])=R3 at *;clear hR4 hwa hW hn hl hs hnew hP hP1 hat hby hl1 hlen
    iterate 2 (try cbv;repeat ((first|with_reducible apply b5 hA|rw[g0]|rw[g1]|(refine c7 hA [0,1] c1 ⟨rfl,rfl,rfl,rfl,rfl,rfl,rfl⟩ ?_;rintro _ _ ⟨rfl,rfl⟩)|(refine c7 hA [0,1] c2 ⟨rfl,rfl,rfl,rfl,rfl,rfl,rfl⟩ ?_;rintro _ _ ⟨rfl,rfl⟩)|(refine c7 hA [0,1] c3 ⟨rfl,rfl,rfl,rfl,rfl,rfl,rfl⟩ ?_;rintro _ _ ⟨rfl,rfl⟩)|(refine c7 hA [0,1] c4 ⟨rfl,rfl,rfl,rfl,rfl,rfl,rfl⟩ ?_;rintro _ _ ⟨rfl,rfl⟩));cbv))
    try simp (maxSteps:=4000000) only [nc] at *
    refine⟨(false,cop,cnm,cn,cK,R4,cN),fin,hmu,?_⟩;cbv
  ·rw[hop,c2G hc,<-hop] at h11
   have hy8:y.op=8\/y.op=9\/y.op=10:=by
    rcases hys with⟨h,_⟩|⟨h,_⟩
    ·exact h
    ·exact absurd h hc
   obtain⟨hf0,ht0⟩:=E9 hc;rw[hf0,ht0] at hby hlen;simp only[a2r,c3t] at hby hlen;rw[<-hby] at hRE;rw[h11];unfold a1M at hRE hlen
   rcases hy8 with ho|ho|ho
   ·have h9:qj op 9=false:=by rw[e9,hop,ho];rfl
    have h10:qj op 10=false:=by rw[e9,hop,ho];rfl
    rw[c2H (by omega),c2H (by omega),c3b,<-hR] at hRE
    iterate 2 (try cbv;repeat ((first|with_reducible apply b5 hA|rw[h9]|rw[h10]);cbv))
    try simp (maxSteps:=4000000) only [nc] at *
    exact d7 hA [0,1] ⟨rfl,rfl,rfl,rfl,rfl,rfl,rfl,rfl⟩ ⟨rfl,by rw[hRE]⟩
   ·have h9:qj op 9=true:=by rw[e9,hop,ho];rfl
    rw[c2E ho] at hRE hlen;have c1:=a6f pre ⟨#[124,63]⟩ (by rw[show (⟨#[124,63]⟩:ByteArray).size=2 from rfl];simpa using hlen);rw[show P0 ⟨#[124,63]⟩=[124,63] from rfl] at c1;rw[d4] at c1;rw[d4,<-hR,<-hRE] at c1
    iterate 2 (try cbv;repeat ((first|with_reducible apply b5 hA|rw[h9]);cbv))
    try simp (maxSteps:=4000000) only [nc] at *
    refine c7 hA [0,1] c1 ⟨rfl,rfl,rfl,rfl,rfl,rfl,rfl⟩ ?_
    rintro _ _ ⟨rfl,rfl⟩
    iterate 2 (try cbv;repeat ((first|with_reducible apply b5 hA);cbv))
    try simp (maxSteps:=4000000) only [nc] at *
    exact d7 hA [0,1] ⟨rfl,rfl,rfl,rfl,rfl,rfl,rfl,rfl⟩ ⟨rfl,rfl⟩
   ·have h9:qj op 9=false:=by rw[e9,hop,ho];rfl
    have h10:qj op 10=true:=by rw[e9,hop,ho];rfl
    rw[c2H (by omega),c2E ho] at hRE hlen;rw[<-hnn] at hRE hlen hy0 hyn;have hi:=b2V n (by omega) hyn;have hb:P0 (⟨#[124,39]⟩++⟨(Lib.itoa n).toArray⟩:ByteArray)=124::39::Lib.itoa n:=by unfold P0;simp
    have hz:(⟨#[124,39]⟩++⟨(Lib.itoa n).toArray⟩:ByteArray).size=(124::39::Lib.itoa n).length:=by rw[<-hb,B3]
    have c1:=a6f pre (⟨#[124,39]⟩++⟨(Lib.itoa n).toArray⟩) (by rw[hz];exact hlen);rw[hb] at c1
    have hfit:(⟨#[124,39]⟩:ByteArray).size+(⟨(Lib.itoa n).toArray⟩:ByteArray).size<=4611686018427387904:=by
     have h2:(⟨#[124,39]⟩++⟨(Lib.itoa n).toArray⟩:ByteArray).size=(⟨#[124,39]⟩:ByteArray).size+(⟨(Lib.itoa n).toArray⟩:ByteArray).size:=by simp
     rw[<-h2,hz];omega
    rw[d4] at c1;rw[d4,<-hR,<-hRE] at c1;clear hz hb hlen;generalize (⟨(Lib.itoa n).toArray⟩:ByteArray)=D at *;obtain⟨S,hS⟩:∃S,S=(⟨#[124,39]⟩++D:ByteArray):=⟨_,rfl⟩;rw[<-hS] at c1;have hc2:qp ⟨#[124,39]⟩ D=S:=by rw[s4,hS]
    iterate 2 (try cbv;repeat ((first|with_reducible apply b5 hA|rw[h9]|rw[h10]|refine b9 hA _ hi rfl ?_|refine c5 hA _ hi ?_);cbv))
    try simp (maxSteps:=4000000) only [nc] at *
    refine a9J hA hfit ?_;cbv;rw[hc2]
    iterate 2 (try cbv;repeat ((first|with_reducible apply b5 hA);cbv))
    try simp (maxSteps:=4000000) only [nc] at *
    refine c7 hA [0,1] c1 ⟨rfl,rfl,rfl,rfl,rfl,rfl,rfl⟩ ?_
    rintro _ _ ⟨rfl,rfl⟩
    iterate 2 (try cbv;repeat ((first|with_reducible apply b5 hA);cbv))
    try simp (maxSteps:=4000000) only [nc] at *
    exact d7 hA [0,1] ⟨rfl,rfl,rfl,rfl,rfl,rfl,rfl,rfl⟩ ⟨rfl,rfl⟩
theorem a1l:b9s 61:=by unfold b9s;kernel_rfl
def WrF (f:Nat) (t:Ty) (out:List UInt8):Prop:=out.length<=137438953472->j3 f [.ptr 0 0,.ag (ofD (cT t))] [b1P 61] (λres os=>res=[]/\os=a10 out)
theorem n8 (T:Nat):[b1P T]=[.ob T [.pointer none,.slice none 0 0]]:=rfl
theorem b7Z (t:Ty) (hop:t.op≠4) (hw:WrU 31 t (l5 t)):WrU 59 t (F6 l5 t):=by
 intro l hl;unfold F6 at hl ⊢;rw[c2H hop] at hl ⊢;have c1:=hw l hl;rw[a9m] at c1 ⊢;obtain⟨op,hop0⟩:∃o,o=t.op:=⟨_,rfl⟩;rw[<-hop0] at c1 hop ⊢;generalize t.name=nm at *;generalize t.n=n at *;generalize rT t.kids=K at *
 try rw[d4] at c1
 try rw[d4] at c1
 try rw[n8] at c1
 try rw[d4] at ⊢
 try rw[d4] at ⊢
 try rw[n8] at ⊢
 generalize rU (l++l5 t)=R1 at *;generalize rU l=R0 at *;clear hl hw hop0;refine so9 Tryd.func59 rfl ?_;intro _ _ _ _ _ _ _ _ _ qj;intros;rename_i hA;obtain⟨e1,e2,e3,e4,e5,e6,e7,e8,e9⟩:=j8 hA;obtain⟨r1,r2,r3,r4⟩:=n9 hA;obtain⟨s1,s2,s3,s4,s5,s6,s7⟩:=A3 hA;have h4:qj op 4=false:=by rw[e9];simpa using hop
 iterate 2 (try cbv;repeat ((first|with_reducible apply b5 hA|rw[h4]|(refine c7 hA [0,1] c1 ⟨rfl,rfl,rfl,rfl,rfl,rfl,rfl⟩ ?_;rintro _ _ ⟨rfl,rfl⟩));cbv))
 try simp (maxSteps:=4000000) only [nc] at *
 exact d7 hA [0,1] ⟨rfl,rfl,rfl,rfl,rfl,rfl,rfl,rfl⟩ ⟨rfl,rfl⟩
theorem b8a (t:Ty) (hop:t.op=4) (hw:WrU 31 t (l5 t)):WrU 59 t (F6 l5 t):=by
 intro l hl;unfold F6 at hl ⊢;rw[c2E hop] at hl ⊢;simp only[c2D,c29,c2N] at hl;have c1:=a2m (l) 40 (by omega);have c2:=hw (l++[40]) (by simp only[c2D,c29,c2N];omega);have c3:=a2m (l++[40]++l5 t) 41 (by simp only[c2D,c29,c2N];omega);rw[show l++(40::(l5 t++[41]))=l++[40]++l5 t++[41] by simp];rw[a9m] at c2 ⊢;obtain⟨op,hop0⟩:∃o,o=t.op:=⟨_,rfl⟩;rw[<-hop0] at c2 hop ⊢;generalize t.name=nm at *;generalize t.n=n at *;generalize rT t.kids=K at *
 try rw[d4] at c1
 try rw[d4] at c1
 try rw[n8] at c1
 try rw[d4] at c2
 try rw[d4] at c2
 try rw[n8] at c2
 try rw[d4] at c3
 try rw[d4] at c3
 try rw[n8] at c3
 try rw[d4] at ⊢
 try rw[d4] at ⊢
 try rw[n8] at ⊢
 replace c1:j3 56 [.ptr 0 0,vi .u8 40] _ _:=c1;replace c3:j3 56 [.ptr 0 0,vi .u8 41] _ _:=c3;generalize rU (l++[40]++l5 t++[41])=R3 at *;generalize rU (l++[40]++l5 t)=R2 at *;generalize rU (l++[40])=R1 at *;generalize rU l=R0 at *;clear hl hw hop0;refine so9 Tryd.func59 rfl ?_;intro _ _ _ _ _ _ _ _ _ qj;intros;rename_i hA;obtain⟨e1,e2,e3,e4,e5,e6,e7,e8,e9⟩:=j8 hA;obtain⟨r1,r2,r3,r4⟩:=n9 hA;obtain⟨s1,s2,s3,s4,s5,s6,s7⟩:=A3 hA;have h4:qj op 4=true:=by rw[e9,hop];rfl
 iterate 2 (try cbv;repeat ((first|with_reducible apply b5 hA|rw[h4]|(refine c7 hA [0,1] c1 ⟨rfl,rfl,rfl,rfl,rfl,rfl,rfl⟩ ?_;rintro _ _ ⟨rfl,rfl⟩)|(refine c7 hA [0,1] c2 ⟨rfl,rfl,rfl,rfl,rfl,rfl,rfl⟩ ?_;rintro _ _ ⟨rfl,rfl⟩)|(refine c7 hA [0,1] c3 ⟨rfl,rfl,rfl,rfl,rfl,rfl,rfl⟩ ?_;rintro _ _ ⟨rfl,rfl⟩));cbv))
 try simp (maxSteps:=4000000) only [nc] at *
 exact d7 hA [0,1] ⟨rfl,rfl,rfl,rfl,rfl,rfl,rfl,rfl⟩ ⟨rfl,rfl⟩
theorem b2Y (nm:ByteArray) (n:Int) (a:Ty) (hw:WrU 58 a (G6 l5 a)):WrU 31 (.mk 5 nm n [a]) (l5 (.mk 5 nm n [a])):=by
 intro l hl;have ht:l5 (.mk 5 nm n [a])=123::(G6 l5 a++[125]):=by rw[a0c];rfl
 rw[ht] at hl ⊢;simp only[c2D,c29,c2N] at hl;have c1:=a2m (l) 123 (by omega);have c2:=hw (l++[123]) (by simp only[c2D,c29,c2N];omega);have c3:=a2m (l++[123]++G6 l5 a) 125 (by simp only[c2D,c29,c2N];omega);rw[show l++(123::(G6 l5 a++[125]))=l++[123]++G6 l5 a++[125] by simp];rw[cT,rT,rT];obtain⟨a0,a1,a2,a3,ha⟩:=d6 a;rw[ha] at c2 ⊢
 try rw[d4] at c1
 try rw[d4] at c1
 try rw[n8] at c1
 try rw[d4] at c2
 try rw[d4] at c2
 try rw[n8] at c2
 try rw[d4] at c3
 try rw[d4] at c3
 try rw[n8] at c3
 try rw[d4] at ⊢
 try rw[d4] at ⊢
 try rw[n8] at ⊢
 replace c1:j3 56 [.ptr 0 0,vi .u8 123] _ _:=c1;replace c3:j3 56 [.ptr 0 0,vi .u8 125] _ _:=c3;generalize rU (l++[123]++G6 l5 a++[125])=R3 at *;generalize rU (l++[123]++G6 l5 a)=R2 at *;generalize rU (l++[123])=R1 at *;generalize rU l=R0 at *;clear hl hw ht;obtain⟨K,hK⟩:∃K,K=[[a0,a1,a2,a3]]:=⟨_,rfl⟩;rw[<-hK];refine so9 Tryd.func31 rfl ?_;intro _ _ _ _ _ _ _ _ _ qj _ _ _ _ _ _ _ _ _ _ _ _ _ qz;intros;rename_i hA;obtain⟨e1,e2,e3,e4,e5,e6,e7,e8,e9⟩:=j8 hA;obtain⟨r1,r2,r3,r4⟩:=n9 hA;obtain⟨s1,s2,s3,s4,s5,s6,s7⟩:=A3 hA;have h1:qj 5 1=false:=e9 _ _;have h2:qj 5 2=false:=e9 _ _;have h3:qj 5 3=false:=e9 _ _;have h7:qj 5 7=false:=e9 _ _;have h5:qj 5 5=true:=e9 _ _;have g0:qz K 0=some [a0,a1,a2,a3]:=by rw[r2,hK];rfl
 iterate 2 (try cbv;repeat ((first|with_reducible apply b5 hA|rw[h1]|rw[h2]|rw[h3]|rw[h7]|rw[h5]|rw[g0]|(refine c7 hA [0,1] c1 ⟨rfl,rfl,rfl,rfl,rfl,rfl,rfl⟩ ?_;rintro _ _ ⟨rfl,rfl⟩)|(refine c7 hA [0,1] c2 ⟨rfl,rfl,rfl,rfl,rfl,rfl,rfl⟩ ?_;rintro _ _ ⟨rfl,rfl⟩)|(refine c7 hA [0,1] c3 ⟨rfl,rfl,rfl,rfl,rfl,rfl,rfl⟩ ?_;rintro _ _ ⟨rfl,rfl⟩));cbv))
 try simp (maxSteps:=4000000) only [nc] at *
 exact d7 hA [0,1] ⟨rfl,rfl,rfl,rfl,rfl,rfl,rfl,rfl⟩ ⟨rfl,rfl⟩
theorem b2Z (nm:ByteArray) (n:Int) (a:Ty) (hw:WrU 58 a (G6 l5 a)):WrU 31 (.mk 6 nm n [a]) (l5 (.mk 6 nm n [a])):=by
 intro l hl;have ht:l5 (.mk 6 nm n [a])=60::(G6 l5 a++[62]):=by rw[a0c];rfl
 rw[ht] at hl ⊢;simp only[c2D,c29,c2N] at hl;have c1:=a2m (l) 60 (by omega);have c2:=hw (l++[60]) (by simp only[c2D,c29,c2N];omega);have c3:=a2m (l++[60]++G6 l5 a) 62 (by simp only[c2D,c29,c2N];omega);rw[show l++(60::(G6 l5 a++[62]))=l++[60]++G6 l5 a++[62] by simp];rw[cT,rT,rT];obtain⟨a0,a1,a2,a3,ha⟩:=d6 a;rw[ha] at c2 ⊢
 try rw[d4] at c1
 try rw[d4] at c1
 try rw[n8] at c1
 try rw[d4] at c2
 try rw[d4] at c2
 try rw[n8] at c2
 try rw[d4] at c3
 try rw[d4] at c3
 try rw[n8] at c3
 try rw[d4] at ⊢
 try rw[d4] at ⊢
 try rw[n8] at ⊢
 replace c1:j3 56 [.ptr 0 0,vi .u8 60] _ _:=c1;replace c3:j3 56 [.ptr 0 0,vi .u8 62] _ _:=c3;generalize rU (l++[60]++G6 l5 a++[62])=R3 at *;generalize rU (l++[60]++G6 l5 a)=R2 at *;generalize rU (l++[60])=R1 at *;generalize rU l=R0 at *;clear hl hw ht;obtain⟨K,hK⟩:∃K,K=[[a0,a1,a2,a3]]:=⟨_,rfl⟩;rw[<-hK];refine so9 Tryd.func31 rfl ?_;intro _ _ _ _ _ _ _ _ _ qj _ _ _ _ _ _ _ _ _ _ _ _ _ qz;intros;rename_i hA;obtain⟨e1,e2,e3,e4,e5,e6,e7,e8,e9⟩:=j8 hA;obtain⟨r1,r2,r3,r4⟩:=n9 hA;obtain⟨s1,s2,s3,s4,s5,s6,s7⟩:=A3 hA;have h1:qj 6 1=false:=e9 _ _;have h2:qj 6 2=false:=e9 _ _;have h3:qj 6 3=false:=e9 _ _;have h7:qj 6 7=false:=e9 _ _;have h5:qj 6 5=false:=e9 _ _;have h6:qj 6 6=true:=e9 _ _;have g0:qz K 0=some [a0,a1,a2,a3]:=by rw[r2,hK];rfl
 iterate 2 (try cbv;repeat ((first|with_reducible apply b5 hA|rw[h1]|rw[h2]|rw[h3]|rw[h7]|rw[h5]|rw[h6]|rw[g0]|(refine c7 hA [0,1] c1 ⟨rfl,rfl,rfl,rfl,rfl,rfl,rfl⟩ ?_;rintro _ _ ⟨rfl,rfl⟩)|(refine c7 hA [0,1] c2 ⟨rfl,rfl,rfl,rfl,rfl,rfl,rfl⟩ ?_;rintro _ _ ⟨rfl,rfl⟩)|(refine c7 hA [0,1] c3 ⟨rfl,rfl,rfl,rfl,rfl,rfl,rfl⟩ ?_;rintro _ _ ⟨rfl,rfl⟩));cbv))
 try simp (maxSteps:=4000000) only [nc] at *
 exact d7 hA [0,1] ⟨rfl,rfl,rfl,rfl,rfl,rfl,rfl,rfl⟩ ⟨rfl,rfl⟩
theorem b3a (nm:ByteArray) (n:Int) (a b:Ty) (hf:WrU 59 a (F6 l5 a)) (hw:WrU 31 b (l5 b)):WrU 31 (.mk 4 nm n [a,b]) (l5 (.mk 4 nm n [a,b])):=by
 intro l hl;have ht:l5 (.mk 4 nm n [a,b])=F6 l5 a++(45::62::l5 b):=by rw[a0c];rfl
 rw[ht] at hl ⊢;simp only[c2D,c29,c2N] at hl;have c1:=hf l (by omega);have c2:=a6f (l++F6 l5 a) ⟨#[45,62]⟩ (by rw[show (⟨#[45,62]⟩:ByteArray).size=2 from rfl];first|omega|(simp only[c2D,c29,c2N];omega));rw[show P0 ⟨#[45,62]⟩=[45,62] from rfl] at c2;have c3:=hw (l++F6 l5 a++[45,62]) (by simp only[c2D,c29,c2N];omega);rw[show l++(F6 l5 a++(45::62::l5 b))=l++F6 l5 a++[45,62]++l5 b by simp];rw[cT,rT,rT,rT];obtain⟨a0,a1,a2,a3,ha⟩:=d6 a;obtain⟨b0,b1,b2,b3,hb⟩:=d6 b;rw[ha] at c1 ⊢;rw[hb] at c3 ⊢
 try rw[d4] at c1
 try rw[d4] at c1
 try rw[n8] at c1
 try rw[d4] at c2
 try rw[d4] at c2
 try rw[n8] at c2
 try rw[d4] at c3
 try rw[d4] at c3
 try rw[n8] at c3
 try rw[d4] at ⊢
 try rw[d4] at ⊢
 try rw[n8] at ⊢
 generalize rU (l++F6 l5 a++[45,62]++l5 b)=R3 at *;generalize rU (l++F6 l5 a++[45,62])=R2 at *;generalize rU (l++F6 l5 a)=R1 at *;generalize rU l=R0 at *;clear hl hf hw ht;obtain⟨K,hK⟩:∃K,K=[[a0,a1,a2,a3],[b0,b1,b2,b3]]:=⟨_,rfl⟩;rw[<-hK];refine so9 Tryd.func31 rfl ?_;intro _ _ _ _ _ _ _ _ _ qj _ _ _ _ _ _ _ _ _ _ _ _ _ qz;intros;rename_i hA;obtain⟨e1,e2,e3,e4,e5,e6,e7,e8,e9⟩:=j8 hA;obtain⟨r1,r2,r3,r4⟩:=n9 hA;obtain⟨s1,s2,s3,s4,s5,s6,s7⟩:=A3 hA;have h1:qj 4 1=false:=e9 _ _;have h2:qj 4 2=false:=e9 _ _;have h3:qj 4 3=false:=e9 _ _;have h7:qj 4 7=false:=e9 _ _;have h5:qj 4 5=false:=e9 _ _;have h6:qj 4 6=false:=e9 _ _;have h4:qj 4 4=true:=e9 _ _;have g0:qz K 0=some [a0,a1,a2,a3]:=by rw[r2,hK];rfl
 have g1:qz K 1=some [b0,b1,b2,b3]:=by rw[r2,hK];rfl
 iterate 2 (try cbv;repeat ((first|with_reducible apply b5 hA|rw[h1]|rw[h2]|rw[h3]|rw[h7]|rw[h5]|rw[h6]|rw[h4]|rw[g0]|rw[g1]|(refine c7 hA [0,1] c1 ⟨rfl,rfl,rfl,rfl,rfl,rfl,rfl⟩ ?_;rintro _ _ ⟨rfl,rfl⟩)|(refine c7 hA [0,1] c2 ⟨rfl,rfl,rfl,rfl,rfl,rfl,rfl⟩ ?_;rintro _ _ ⟨rfl,rfl⟩)|(refine c7 hA [0,1] c3 ⟨rfl,rfl,rfl,rfl,rfl,rfl,rfl⟩ ?_;rintro _ _ ⟨rfl,rfl⟩));cbv))
 try simp (maxSteps:=4000000) only [nc] at *
 exact d7 hA [0,1] ⟨rfl,rfl,rfl,rfl,rfl,rfl,rfl,rfl⟩ ⟨rfl,rfl⟩
theorem b8b (t:Ty) (hop:t.op≠4) (hw:WrF 31 t (l5 t)):WrF 59 t (F6 l5 t):=by
 intro hl;unfold F6 at hl ⊢;rw[c2H hop] at hl ⊢;have c1:=hw hl;rw[a9m] at c1 ⊢;obtain⟨op,hop0⟩:∃o,o=t.op:=⟨_,rfl⟩;rw[<-hop0] at c1 hop ⊢;generalize t.name=nm at *;generalize t.n=n at *;generalize rT t.kids=K at *
 try rw[d4] at c1
 try rw[d4] at c1
 try rw[n8] at c1
 try rw[d4] at ⊢
 try rw[d4] at ⊢
 try rw[n8] at ⊢
 generalize rU (l5 t)=R1 at *
 skip
 clear hl hw hop0;refine so9 Tryd.func59 rfl ?_;intro _ _ _ _ _ _ _ _ _ qj;intros;rename_i hA;obtain⟨e1,e2,e3,e4,e5,e6,e7,e8,e9⟩:=j8 hA;obtain⟨r1,r2,r3,r4⟩:=n9 hA;obtain⟨s1,s2,s3,s4,s5,s6,s7⟩:=A3 hA;have h4:qj op 4=false:=by rw[e9];simpa using hop
 iterate 2 (try cbv;repeat ((first|with_reducible apply b5 hA|rw[h4]|(refine c7 hA [0] c1 ⟨rfl,rfl,rfl,rfl,rfl,rfl,rfl⟩ ?_;rintro _ _ ⟨rfl,rfl⟩));cbv))
 try simp (maxSteps:=4000000) only [nc] at *
 exact d7 hA [0,2] ⟨rfl,rfl,rfl,rfl,rfl,rfl,rfl,rfl⟩ ⟨rfl,rfl⟩
theorem b8c (t:Ty) (hop:t.op=4) (hw:WrU 31 t (l5 t)):WrF 59 t (F6 l5 t):=by
 intro hl;unfold F6 at hl ⊢;rw[c2E hop] at hl ⊢;simp only[c2D,c29,c2N] at hl;have c1:=b4E _ a1l 40;have c2:=hw ([40]) (by simp only[c2D,c29,c2N];omega);have c3:=a2m ([40]++l5 t) 41 (by simp only[c2D,c29,c2N];omega);rw[show (40::(l5 t++[41]))=[40]++l5 t++[41] by simp];rw[a9m] at c2 ⊢;obtain⟨op,hop0⟩:∃o,o=t.op:=⟨_,rfl⟩;rw[<-hop0] at c2 hop ⊢;generalize t.name=nm at *;generalize t.n=n at *;generalize rT t.kids=K at *
 try rw[d4] at c1
 try rw[d4] at c1
 try rw[n8] at c1
 try rw[d4] at c2
 try rw[d4] at c2
 try rw[n8] at c2
 try rw[d4] at c3
 try rw[d4] at c3
 try rw[n8] at c3
 try rw[d4] at ⊢
 try rw[d4] at ⊢
 try rw[n8] at ⊢
 replace c1:j3 56 [.ptr 0 0,vi .u8 40] _ _:=c1;replace c3:j3 56 [.ptr 0 0,vi .u8 41] _ _:=c3;generalize rU ([40]++l5 t++[41])=R3 at *;generalize rU ([40]++l5 t)=R2 at *;generalize rU ([40])=R1 at *
 skip
 clear hl hw hop0;refine so9 Tryd.func59 rfl ?_;intro _ _ _ _ _ _ _ _ _ qj;intros;rename_i hA;obtain⟨e1,e2,e3,e4,e5,e6,e7,e8,e9⟩:=j8 hA;obtain⟨r1,r2,r3,r4⟩:=n9 hA;obtain⟨s1,s2,s3,s4,s5,s6,s7⟩:=A3 hA;have h4:qj op 4=true:=by rw[e9,hop];rfl
 iterate 2 (try cbv;repeat ((first|with_reducible apply b5 hA|rw[h4]|(refine c7 hA [0] c1 ⟨rfl,rfl,rfl,rfl,rfl,rfl,rfl⟩ ?_;rintro _ _ ⟨rfl,rfl⟩)|(refine c7 hA [0,2] c2 ⟨rfl,rfl,rfl,rfl,rfl,rfl,rfl⟩ ?_;rintro _ _ ⟨rfl,rfl⟩)|(refine c7 hA [0,2] c3 ⟨rfl,rfl,rfl,rfl,rfl,rfl,rfl⟩ ?_;rintro _ _ ⟨rfl,rfl⟩));cbv))
 try simp (maxSteps:=4000000) only [nc] at *
 exact d7 hA [0,2] ⟨rfl,rfl,rfl,rfl,rfl,rfl,rfl,rfl⟩ ⟨rfl,rfl⟩
theorem b3b (nm:ByteArray) (n:Int) (a:Ty) (hw:WrU 58 a (G6 l5 a)):WrF 31 (.mk 5 nm n [a]) (l5 (.mk 5 nm n [a])):=by
 intro hl;have ht:l5 (.mk 5 nm n [a])=123::(G6 l5 a++[125]):=by rw[a0c];rfl
 rw[ht] at hl ⊢;simp only[c2D,c29,c2N] at hl;have c1:=b4E _ a1l 123;have c2:=hw ([123]) (by simp only[c2D,c29,c2N];omega);have c3:=a2m ([123]++G6 l5 a) 125 (by simp only[c2D,c29,c2N];omega);rw[show (123::(G6 l5 a++[125]))=[123]++G6 l5 a++[125] by simp];rw[cT,rT,rT];obtain⟨a0,a1,a2,a3,ha⟩:=d6 a;rw[ha] at c2 ⊢
 try rw[d4] at c1
 try rw[d4] at c1
 try rw[n8] at c1
 try rw[d4] at c2
 try rw[d4] at c2
 try rw[n8] at c2
 try rw[d4] at c3
 try rw[d4] at c3
 try rw[n8] at c3
 try rw[d4] at ⊢
 try rw[d4] at ⊢
 try rw[n8] at ⊢
 replace c1:j3 56 [.ptr 0 0,vi .u8 123] _ _:=c1;replace c3:j3 56 [.ptr 0 0,vi .u8 125] _ _:=c3;generalize rU ([123]++G6 l5 a++[125])=R3 at *;generalize rU ([123]++G6 l5 a)=R2 at *;generalize rU ([123])=R1 at *
 skip
 clear hl hw ht;obtain⟨K,hK⟩:∃K,K=[[a0,a1,a2,a3]]:=⟨_,rfl⟩;rw[<-hK];refine so9 Tryd.func31 rfl ?_;intro _ _ _ _ _ _ _ _ _ qj _ _ _ _ _ _ _ _ _ _ _ _ _ qz;intros;rename_i hA;obtain⟨e1,e2,e3,e4,e5,e6,e7,e8,e9⟩:=j8 hA;obtain⟨r1,r2,r3,r4⟩:=n9 hA;obtain⟨s1,s2,s3,s4,s5,s6,s7⟩:=A3 hA;have h1:qj 5 1=false:=e9 _ _;have h2:qj 5 2=false:=e9 _ _;have h3:qj 5 3=false:=e9 _ _;have h7:qj 5 7=false:=e9 _ _;have h5:qj 5 5=true:=e9 _ _;have g0:qz K 0=some [a0,a1,a2,a3]:=by rw[r2,hK];rfl
 iterate 2 (try cbv;repeat ((first|with_reducible apply b5 hA|rw[h1]|rw[h2]|rw[h3]|rw[h7]|rw[h5]|rw[g0]|(refine c7 hA [0] c1 ⟨rfl,rfl,rfl,rfl,rfl,rfl,rfl⟩ ?_;rintro _ _ ⟨rfl,rfl⟩)|(refine c7 hA [0,2] c2 ⟨rfl,rfl,rfl,rfl,rfl,rfl,rfl⟩ ?_;rintro _ _ ⟨rfl,rfl⟩)|(refine c7 hA [0,2] c3 ⟨rfl,rfl,rfl,rfl,rfl,rfl,rfl⟩ ?_;rintro _ _ ⟨rfl,rfl⟩));cbv))
 try simp (maxSteps:=4000000) only [nc] at *
 exact d7 hA [0,2] ⟨rfl,rfl,rfl,rfl,rfl,rfl,rfl,rfl⟩ ⟨rfl,rfl⟩
theorem b3c (nm:ByteArray) (n:Int) (a:Ty) (hw:WrU 58 a (G6 l5 a)):WrF 31 (.mk 6 nm n [a]) (l5 (.mk 6 nm n [a])):=by
 intro hl;have ht:l5 (.mk 6 nm n [a])=60::(G6 l5 a++[62]):=by rw[a0c];rfl
 rw[ht] at hl ⊢;simp only[c2D,c29,c2N] at hl;have c1:=b4E _ a1l 60;have c2:=hw ([60]) (by simp only[c2D,c29,c2N];omega);have c3:=a2m ([60]++G6 l5 a) 62 (by simp only[c2D,c29,c2N];omega);rw[show (60::(G6 l5 a++[62]))=[60]++G6 l5 a++[62] by simp];rw[cT,rT,rT];obtain⟨a0,a1,a2,a3,ha⟩:=d6 a;rw[ha] at c2 ⊢
 try rw[d4] at c1
 try rw[d4] at c1
 try rw[n8] at c1
 try rw[d4] at c2
 try rw[d4] at c2
 try rw[n8] at c2
 try rw[d4] at c3
 try rw[d4] at c3
 try rw[n8] at c3
 try rw[d4] at ⊢
 try rw[d4] at ⊢
 try rw[n8] at ⊢
 replace c1:j3 56 [.ptr 0 0,vi .u8 60] _ _:=c1;replace c3:j3 56 [.ptr 0 0,vi .u8 62] _ _:=c3;generalize rU ([60]++G6 l5 a++[62])=R3 at *;generalize rU ([60]++G6 l5 a)=R2 at *;generalize rU ([60])=R1 at *
 skip
 clear hl hw ht;obtain⟨K,hK⟩:∃K,K=[[a0,a1,a2,a3]]:=⟨_,rfl⟩;rw[<-hK];refine so9 Tryd.func31 rfl ?_;intro _ _ _ _ _ _ _ _ _ qj _ _ _ _ _ _ _ _ _ _ _ _ _ qz;intros;rename_i hA;obtain⟨e1,e2,e3,e4,e5,e6,e7,e8,e9⟩:=j8 hA;obtain⟨r1,r2,r3,r4⟩:=n9 hA;obtain⟨s1,s2,s3,s4,s5,s6,s7⟩:=A3 hA;have h1:qj 6 1=false:=e9 _ _;have h2:qj 6 2=false:=e9 _ _;have h3:qj 6 3=false:=e9 _ _;have h7:qj 6 7=false:=e9 _ _;have h5:qj 6 5=false:=e9 _ _;have h6:qj 6 6=true:=e9 _ _;have g0:qz K 0=some [a0,a1,a2,a3]:=by rw[r2,hK];rfl
 iterate 2 (try cbv;repeat ((first|with_reducible apply b5 hA|rw[h1]|rw[h2]|rw[h3]|rw[h7]|rw[h5]|rw[h6]|rw[g0]|(refine c7 hA [0] c1 ⟨rfl,rfl,rfl,rfl,rfl,rfl,rfl⟩ ?_;rintro _ _ ⟨rfl,rfl⟩)|(refine c7 hA [0,2] c2 ⟨rfl,rfl,rfl,rfl,rfl,rfl,rfl⟩ ?_;rintro _ _ ⟨rfl,rfl⟩)|(refine c7 hA [0,2] c3 ⟨rfl,rfl,rfl,rfl,rfl,rfl,rfl⟩ ?_;rintro _ _ ⟨rfl,rfl⟩));cbv))
 try simp (maxSteps:=4000000) only [nc] at *
 exact d7 hA [0,2] ⟨rfl,rfl,rfl,rfl,rfl,rfl,rfl,rfl⟩ ⟨rfl,rfl⟩
theorem b3d (nm:ByteArray) (n:Int) (a b:Ty) (hf:WrF 59 a (F6 l5 a)) (hw:WrU 31 b (l5 b)):WrF 31 (.mk 4 nm n [a,b]) (l5 (.mk 4 nm n [a,b])):=by
 intro hl;have ht:l5 (.mk 4 nm n [a,b])=F6 l5 a++(45::62::l5 b):=by rw[a0c];rfl
 rw[ht] at hl ⊢;simp only[c2D,c29,c2N] at hl;have c1:=hf (by omega);have c2:=a6f (F6 l5 a) ⟨#[45,62]⟩ (by rw[show (⟨#[45,62]⟩:ByteArray).size=2 from rfl];first|omega|(simp only[c2D,c29,c2N];omega));rw[show P0 ⟨#[45,62]⟩=[45,62] from rfl] at c2;have c3:=hw (F6 l5 a++[45,62]) (by simp only[c2D,c29,c2N];omega);rw[show (F6 l5 a++(45::62::l5 b))=F6 l5 a++[45,62]++l5 b by simp];rw[cT,rT,rT,rT];obtain⟨a0,a1,a2,a3,ha⟩:=d6 a;obtain⟨b0,b1,b2,b3,hb⟩:=d6 b;rw[ha] at c1 ⊢;rw[hb] at c3 ⊢
 try rw[d4] at c1
 try rw[d4] at c1
 try rw[n8] at c1
 try rw[d4] at c2
 try rw[d4] at c2
 try rw[n8] at c2
 try rw[d4] at c3
 try rw[d4] at c3
 try rw[n8] at c3
 try rw[d4] at ⊢
 try rw[d4] at ⊢
 try rw[n8] at ⊢
 generalize rU (F6 l5 a++[45,62]++l5 b)=R3 at *;generalize rU (F6 l5 a++[45,62])=R2 at *;generalize rU (F6 l5 a)=R1 at *
 skip
 clear hl hf hw ht;obtain⟨K,hK⟩:∃K,K=[[a0,a1,a2,a3],[b0,b1,b2,b3]]:=⟨_,rfl⟩;rw[<-hK];refine so9 Tryd.func31 rfl ?_;intro _ _ _ _ _ _ _ _ _ qj _ _ _ _ _ _ _ _ _ _ _ _ _ qz;intros;rename_i hA;obtain⟨e1,e2,e3,e4,e5,e6,e7,e8,e9⟩:=j8 hA;obtain⟨r1,r2,r3,r4⟩:=n9 hA;obtain⟨s1,s2,s3,s4,s5,s6,s7⟩:=A3 hA;have h1:qj 4 1=false:=e9 _ _;have h2:qj 4 2=false:=e9 _ _;have h3:qj 4 3=false:=e9 _ _;have h7:qj 4 7=false:=e9 _ _;have h5:qj 4 5=false:=e9 _ _;have h6:qj 4 6=false:=e9 _ _;have h4:qj 4 4=true:=e9 _ _;have g0:qz K 0=some [a0,a1,a2,a3]:=by rw[r2,hK];rfl
 have g1:qz K 1=some [b0,b1,b2,b3]:=by rw[r2,hK];rfl
 iterate 2 (try cbv;repeat ((first|with_reducible apply b5 hA|rw[h1]|rw[h2]|rw[h3]|rw[h7]|rw[h5]|rw[h6]|rw[h4]|rw[g0]|rw[g1]|(refine c7 hA [0] c1 ⟨rfl,rfl,rfl,rfl,rfl,rfl,rfl⟩ ?_;rintro _ _ ⟨rfl,rfl⟩)|(refine c7 hA [0,2] c2 ⟨rfl,rfl,rfl,rfl,rfl,rfl,rfl⟩ ?_;rintro _ _ ⟨rfl,rfl⟩)|(refine c7 hA [0,2] c3 ⟨rfl,rfl,rfl,rfl,rfl,rfl,rfl⟩ ?_;rintro _ _ ⟨rfl,rfl⟩));cbv))
 try simp (maxSteps:=4000000) only [nc] at *
 exact d7 hA [0,2] ⟨rfl,rfl,rfl,rfl,rfl,rfl,rfl,rfl⟩ ⟨rfl,rfl⟩
theorem b0p (nm:ByteArray) (n:Int) (ks:List Ty):WrF 31 (.mk 1 nm n ks) (l5 (.mk 1 nm n ks)):=by
 intro hl;have ht:l5 (.mk 1 nm n ks)=[73,110,116]:=by rw[a0c];rfl
 rw[ht];have c1:=b7W _ a1l ⟨#[73,110,116]⟩ (by show ([73,110,116]:List UInt8).length<=_;simp);rw[show P0 ⟨#[73,110,116]⟩=[73,110,116] from rfl] at c1;rw[cT];generalize rT ks=K;rw[d4,n8] at c1 ⊢;generalize rU [73,110,116]=R1 at *;refine so9 Tryd.func31 rfl ?_;intro _ _ _ _ _ _ _ _ _ qj;intros;rename_i hA;obtain⟨e1,e2,e3,e4,e5,e6,e7,e8,e9⟩:=j8 hA;obtain⟨r1,r2,r3,r4⟩:=n9 hA;obtain⟨s1,s2,s3,s4,s5,s6,s7⟩:=A3 hA;have h1:qj 1 1=true:=e9 _ _
 iterate 2 (try cbv;repeat ((first|with_reducible apply b5 hA|rw[h1]|(refine c7 hA [0] c1 ⟨rfl,rfl,rfl,rfl,rfl,rfl,rfl⟩ ?_;rintro _ _ ⟨rfl,rfl⟩));cbv))
 try simp (maxSteps:=4000000) only [nc] at *
 exact d7 hA [0,2] ⟨rfl,rfl,rfl,rfl,rfl,rfl,rfl,rfl⟩ ⟨rfl,rfl⟩
theorem b0q (nm:ByteArray) (n:Int) (ks:List Ty):WrF 31 (.mk 2 nm n ks) (l5 (.mk 2 nm n ks)):=by
 intro hl;have ht:l5 (.mk 2 nm n ks)=[66,111,111,108]:=by rw[a0c];rfl
 rw[ht];have c1:=b7W _ a1l ⟨#[66,111,111,108]⟩ (by show ([66,111,111,108]:List UInt8).length<=_;simp);rw[show P0 ⟨#[66,111,111,108]⟩=[66,111,111,108] from rfl] at c1;rw[cT];generalize rT ks=K;rw[d4,n8] at c1 ⊢;generalize rU [66,111,111,108]=R1 at *;refine so9 Tryd.func31 rfl ?_;intro _ _ _ _ _ _ _ _ _ qj;intros;rename_i hA;obtain⟨e1,e2,e3,e4,e5,e6,e7,e8,e9⟩:=j8 hA;obtain⟨r1,r2,r3,r4⟩:=n9 hA;obtain⟨s1,s2,s3,s4,s5,s6,s7⟩:=A3 hA;have h1:qj 2 1=false:=e9 _ _;have h2:qj 2 2=true:=e9 _ _
 iterate 2 (try cbv;repeat ((first|with_reducible apply b5 hA|rw[h1]|rw[h2]|(refine c7 hA [0] c1 ⟨rfl,rfl,rfl,rfl,rfl,rfl,rfl⟩ ?_;rintro _ _ ⟨rfl,rfl⟩));cbv))
 try simp (maxSteps:=4000000) only [nc] at *
 exact d7 hA [0,2] ⟨rfl,rfl,rfl,rfl,rfl,rfl,rfl,rfl⟩ ⟨rfl,rfl⟩
theorem b0r (nm:ByteArray) (n:Int) (ks:List Ty):WrF 31 (.mk 3 nm n ks) (l5 (.mk 3 nm n ks)):=by
 intro hl;have ht:l5 (.mk 3 nm n ks)=[63]:=by rw[a0c];rfl
 rw[ht];have c1:=b4E _ a1l 63;replace c1:j3 56 [.ptr 0 0,vi .u8 63] _ _:=c1;rw[cT];generalize rT ks=K;rw[d4,n8] at c1 ⊢;generalize rU [63]=R1 at *;refine so9 Tryd.func31 rfl ?_;intro _ _ _ _ _ _ _ _ _ qj;intros;rename_i hA;obtain⟨e1,e2,e3,e4,e5,e6,e7,e8,e9⟩:=j8 hA;obtain⟨r1,r2,r3,r4⟩:=n9 hA;obtain⟨s1,s2,s3,s4,s5,s6,s7⟩:=A3 hA;have h1:qj 3 1=false:=e9 _ _;have h2:qj 3 2=false:=e9 _ _;have h3:qj 3 3=true:=e9 _ _
 iterate 2 (try cbv;repeat ((first|with_reducible apply b5 hA|rw[h1]|rw[h2]|rw[h3]|(refine c7 hA [0] c1 ⟨rfl,rfl,rfl,rfl,rfl,rfl,rfl⟩ ?_;rintro _ _ ⟨rfl,rfl⟩));cbv))
 try simp (maxSteps:=4000000) only [nc] at *
 exact d7 hA [0,2] ⟨rfl,rfl,rfl,rfl,rfl,rfl,rfl,rfl⟩ ⟨rfl,rfl⟩
theorem b3e (nm:ByteArray) (n:Int) (ks:List Ty) (h0:0<=n) (h1:n<=9223372036854775807):WrF 31 (.mk 7 nm n ks) (l5 (.mk 7 nm n ks)):=by
 intro hl;have ht:l5 (.mk 7 nm n ks)=39::Lib.itoa n:=by rw[a0c];rfl
 rw[ht] at hl ⊢;have hi:=b2V n (by omega) h1;have hb:P0 (⟨#[39]⟩++⟨(Lib.itoa n).toArray⟩:ByteArray)=39::Lib.itoa n:=by unfold P0;simp
 have hz:(⟨#[39]⟩++⟨(Lib.itoa n).toArray⟩:ByteArray).size=(39::Lib.itoa n).length:=by rw[<-hb,B3]
 have c1:=b7W _ a1l (⟨#[39]⟩++⟨(Lib.itoa n).toArray⟩) (by rw[hz];exact hl);rw[hb] at c1
 have hfit:(⟨#[39]⟩:ByteArray).size+(⟨(Lib.itoa n).toArray⟩:ByteArray).size<=4611686018427387904:=by
  have h2:(⟨#[39]⟩++⟨(Lib.itoa n).toArray⟩:ByteArray).size=(⟨#[39]⟩:ByteArray).size+(⟨(Lib.itoa n).toArray⟩:ByteArray).size:=by simp
  rw[<-h2,hz];omega
 rw[cT];generalize rT ks=K;rw[d4,n8] at c1 ⊢;generalize rU (39::Lib.itoa n)=R1 at *;clear hl hz hb ht;generalize (⟨(Lib.itoa n).toArray⟩:ByteArray)=D at *;obtain⟨S,hS⟩:∃S,S=(⟨#[39]⟩++D:ByteArray):=⟨_,rfl⟩;rw[<-hS] at c1;refine so9 Tryd.func31 rfl ?_;intro _ _ _ _ _ _ _ _ _ qj _ _ _ _ qp;intros;rename_i hA;obtain⟨e1,e2,e3,e4,e5,e6,e7,e8,e9⟩:=j8 hA;obtain⟨r1,r2,r3,r4⟩:=n9 hA;obtain⟨s1,s2,s3,s4,s5,s6,s7⟩:=A3 hA;have h1:qj 7 1=false:=e9 _ _;have h2:qj 7 2=false:=e9 _ _;have h3:qj 7 3=false:=e9 _ _;have h7:qj 7 7=true:=e9 _ _;have hc:qp ⟨#[39]⟩ D=S:=by rw[s4,hS]
 iterate 2 (try cbv;repeat ((first|with_reducible apply b5 hA|rw[h1]|rw[h2]|rw[h3]|rw[h7]|refine b9 hA _ hi rfl ?_|refine c5 hA _ hi ?_);cbv))
 try simp (maxSteps:=4000000) only [nc] at *
 refine a9J hA hfit ?_;cbv;rw[hc]
 iterate 2 (try cbv;repeat ((first|with_reducible apply b5 hA|(refine c7 hA [0] c1 ⟨rfl,rfl,rfl,rfl,rfl,rfl,rfl⟩ ?_;rintro _ _ ⟨rfl,rfl⟩));cbv))
 try simp (maxSteps:=4000000) only [nc] at *
 exact d7 hA [0,2] ⟨rfl,rfl,rfl,rfl,rfl,rfl,rfl,rfl⟩ ⟨rfl,rfl⟩
theorem Mod.part {t x:Ty} (h:Mod t) (hx:x∈t.parts):Mod x:=λy hy=>h y (y9 hy hx)
theorem b5S (W:ByteArray->Bool):∀(m:Nat) (t:Ty),t.parts.length<=m->c9 W t 116=true->Mod t->WrU 31 t (l5 t)/\WrF 31 t (l5 t):=by
 intro m
 induction m with
 | zero=>intro t h;have:=l6 t;omega
 | succ m ih =>
  intro t hm hs hM;have hkl:=o7 t;have hself:=hM.self;obtain⟨h0,hc⟩:=b7X hs
  have hfrom:∀a:Ty,WrU 31 a (l5 a)/\WrF 31 a (l5 a)->WrU 59 a (F6 l5 a)/\WrF 59 a (F6 l5 a):=λa ha=>by
   by_cases h4:a.op=4
   ·exact⟨b8a a h4 ha.1,b8c a h4 ha.1⟩
   ·exact⟨b7Z a h4 ha.1,b8b a h4 ha.2⟩
  have hrow:∀a:Ty,a∈t.kids->c9 W a 114=true->WrU 58 a (G6 l5 a):=λa ha hsa=>by
   have h1:=hkl.2 a ha;exact c1Q W a hsa (λx hx=>((hM.kid ha) x hx).2.2) λx hx hxm hxs=>(ih x (by omega) hxs ((hM.kid ha).part hxm)).1
  rw[Ty.eta t] at hm hs hM ⊢
  rcases hc with⟨hop,hk⟩|⟨hop,a,b,hk,hsa,hsb⟩|⟨hop,a,hk,hsa⟩
  ·rcases hop with h|h|h|h
   ·exact⟨a4s _ (.inl h),by rw[h];exact b0p _ _ _⟩
   ·exact⟨a4s _ (.inr (.inl h)),by rw[h];exact b0q _ _ _⟩
   ·exact⟨a4s _ (.inr (.inr h)),by rw[h];exact b0r _ _ _⟩
   ·rw[h];refine⟨?_,b3e _ _ _ h0 hself.2.2⟩;have h1:=b5Q t.name t.n t.kids h0 hself.2.2;rw[show l5 (.mk 7 t.name t.n t.kids)=39::Lib.itoa t.n by rw[a0c];rfl];exact h1
  ·have ha:=ih a (by have:=hkl.2 a (by rw[hk];simp);rw[<-Ty.eta t] at hm;omega) hsa (by rw[<-Ty.eta t] at hM;exact hM.kid (by rw[hk];simp));have hb:=ih b (by have:=hkl.2 b (by rw[hk];simp);rw[<-Ty.eta t] at hm;omega) hsb (by rw[<-Ty.eta t] at hM;exact hM.kid (by rw[hk];simp));rw[hop,hk];exact⟨b3a _ _ a b (hfrom a ha).1 hb.1,b3d _ _ a b (hfrom a ha).2 hb.1⟩
  ·have hr:=hrow a (by rw[hk];simp) hsa;rw[hk]
   rcases hop with h|h
   ·rw[h];exact⟨b2Y _ _ a hr,b3b _ _ a hr⟩
   ·rw[h];exact⟨b2Z _ _ a hr,b3c _ _ a hr⟩
end Go.Proofs.YtlofmibkljoapaaDoor.Vm
end
section
namespace Go.Proofs.YtlofmibkljoapaaDoor.Vm
open Go.RowKit Go.ChangeShapes Go.WideShapes Go.Deep
section
inductive Deep (P:Program):Nat->List D->Nat->Prop
 | bool {t:Nat} (b:Bool) (h:P.underlying t=some .bool):Deep P t [.sc (.bool b)] 1
 | int {t:Nat} {k:IntKind} (n:Int) (h:P.underlying t=some (.int k)) (hw:(Lit.int k n).wf=true):Deep P t [.sc (.int k n)] 1
 | str {t:Nat} (s:ByteArray) (h:P.underlying t=some .string) (hs:s.size<=maxLen):Deep P t [.sc (.string s)] (s.size+1)
 | sl {t e:Nat} (rows:List (List D)) (ms:List Nat) (h:P.underlying t=some (.slice e)) (hl:ms.length=rows.length) (hb:rows.length<=maxLen)
   (hr:∀(i:Nat) (r:List D) (m:Nat),rows[i]?=some r->ms[i]?=some m->Deep P e r m):Deep P t [.sl (P.cellsOf e) rows] (ms.sum+1)
 | st {t:Nat} {fs:Array Field} (dss:List (List D)) (ms:List Nat) (h:P.underlying t=some (.struct fs)) (h1:dss.length=fs.size) (h2:ms.length=fs.size)
   (hf:∀(i:Nat) (f:Field) (ds:List D) (m:Nat),fs[i]?=some f->dss[i]?=some ds->ms[i]?=some m->Deep P f.type ds m):Deep P t dss.flatten (ms.sum+1)
def W9 (P:Program) (t:Nat) (r:R) (m:Nat):Prop:=match P.underlying t,r with
 | some (.struct _),.ag xs=>Deep P t xs m
 | some (.struct _),.one _=>False
 | _,.one x=>Deep P t [x] m
 | _,.ag _=>False
section
variable {P:Program} {t:Nat} {ds:List D} {m:Nat}
theorem Deep.unint {k:IntKind} (h:Deep P t ds m) (hu:P.underlying t=some (.int k)):∃n,ds=[.sc (.int k n)]/\(Lit.int k n).wf=true/\m=1:=by
 cases h with
 | int n h hw=>rw[hu] at h;cases h;exact⟨n,rfl,hw,rfl⟩
 | _=>simp_all
theorem Deep.unbool (h:Deep P t ds m) (hu:P.underlying t=some .bool):∃b,ds=[.sc (.bool b)]/\m=1:=by
 cases h with
 | bool b h=>exact⟨b,rfl,rfl⟩
 | _=>simp_all
theorem Deep.unstr (h:Deep P t ds m) (hu:P.underlying t=some .string):∃s:ByteArray,ds=[.sc (.string s)]/\s.size<=maxLen/\m=s.size+1:=by
 cases h with
 | str s h hs=>exact⟨s,rfl,hs,rfl⟩
 | _=>simp_all
theorem Deep.unsl {e:Nat} (h:Deep P t ds m) (hu:P.underlying t=some (.slice e)):∃(rows:List (List D)) (ms:List Nat),ds=[.sl (P.cellsOf e) rows]/\ms.length=rows.length/\rows.length<=maxLen/\m=ms.sum+1 /\
  ∀(i:Nat) (r:List D) (m:Nat),rows[i]?=some r->ms[i]?=some m->Deep P e r m:=by
 cases h with
 | sl rows ms h hl hb hr=>rw[hu] at h;cases h;exact⟨rows,ms,rfl,hl,hb,rfl,hr⟩
 | _=>simp_all
theorem Deep.unst {fs:Array Field} (h:Deep P t ds m) (hu:P.underlying t=some (.struct fs)):∃(dss:List (List D)) (ms:List Nat),ds=dss.flatten/\dss.length=fs.size/\ms.length=fs.size/\m=ms.sum+1 /\
  ∀(i:Nat) (f:Field) (ds:List D) (m:Nat),fs[i]?=some f->dss[i]?=some ds->ms[i]?=some m->Deep P f.type ds m:=by
 cases h with
 | st dss ms h h1 h2 hf=>rw[hu] at h;cases h;exact⟨dss,ms,rfl,h1,h2,rfl,hf⟩
 | _=>simp_all
theorem W9.one {r:R} (h:W9 P t r m) (hu:∀fs,P.underlying t≠some (.struct fs)):∃x,r=.one x/\Deep P t [x] m:=by
 unfold W9 at h
 split at h
 ·exact absurd (by assumption) (hu _)
 ·exact h.elim
 ·exact⟨_,rfl,h⟩
 ·exact h.elim
theorem W9.ag {r:R} {fs:Array Field} (h:W9 P t r m) (hu:P.underlying t=some (.struct fs)):∃xs,r=.ag xs/\Deep P t xs m:=by
 unfold W9 at h;rw[hu] at h;cases r with
 | one x=>exact h.elim
 | ag xs=>exact⟨xs,rfl,h⟩
end
def a6z (P:Program):List Field->Nat->Nat->Bool
 | [],n,c=>Nat.beq n c
 | f::fs,n,c=>Nat.beq f.offset n && a6z P fs (n+P.cellsOf f.type) c
def b0s (P:Program) (L:List Nat) (t:Nat):Bool:=match P.underlying t with
 | some .bool=>true
 | some (.int _)=>true
 | some .string=>true
 | some (.slice e)=>L.contains e && Nat.blt 0 (P.cellsOf e)
 | some (.struct fs)=>(fs.toList.all λf=>L.contains f.type) && a6z P fs.toList 0 (P.cellsOf t)
 | _=>false
def dataOk (P:Program) (L:List Nat):Bool:=L.all (b0s P L)
theorem b0t {β:Type}:∀ {n:Nat} {p:Nat->β->Prop},(∀i,i<n->∃b,p i b)->∃l:List β,l.length=n/\∀(i:Nat) b,l[i]?=some b->p i b
 | 0,p,h=>⟨[],rfl,λi b hi=>by simp at hi⟩
 | n+1,p,h=>by
  obtain⟨b0,h0⟩:=h 0 (by omega);obtain⟨l,hl,hp⟩:=b0t (n:=n) (p:=λi b=>p (i+1) b) λi hi=>h (i+1) (by omega)
  refine⟨b0::l,by simp[hl],λi b hi=>?_⟩;cases i with
  | zero=>simp at hi;subst hi;exact h0
  | succ i=>exact hp i b (by simpa using hi)
theorem a5L {I:Nat->Nat->Prop} {w:World}:∀ {css:List (List Value)} {dss:List (List D)},css.length=dss.length->(∀(i:Nat) cs ds,css[i]?=some cs->dss[i]?=some ds->s8 I w cs ds)->s8 I w css.flatten dss.flatten
 | [],[],_,_=>s8.nil I w
 | c::css,d::dss,hl,h=>by
  rw[c3x,c3x];exact(h 0 c d rfl rfl).append (a5L (by simpa using hl) λi cs ds h1 h2=>h (i+1) cs ds (by simpa using h1) (by simpa using h2))
 | [],_::_,hl,_=>by simp at hl
 | _::_,[],hl,_=>by simp at hl
theorem a8a {P:Program} {cs:List Value}:∀(fs:List Field) (n c:Nat),a6z P fs n c=true->cs.length=c->cs.drop n=(fs.map λf=>(cs.drop f.offset).take (P.cellsOf f.type)).flatten
 | [],n,c,h,hl=>by
  have:n=c:=c3X h;rw[c3j (by omega)];rfl
 | f::fs,n,c,h,hl=>by
  rw[a6z,c2B] at h;have h1:f.offset=n:=c3X h.1;rw[c2Y,c3x,<-a8a fs _ c h.2 hl,h1,<-List.drop_drop,c3D]
theorem a8b {H:Type}:∀ {ms:List Nat} {els:List (DataW H)},ms.length=els.length->(∀(i m:Nat) y,ms[i]?=some m->els[i]?=some y->m<=Rows.uptoBulk y)->ms.sum<=Rows.uptoBulkAll els
 | [],[],_,_=>by simp
 | m::ms,y::els,hl,h=>by
  have h1:=h 0 m y rfl rfl;have h2:=a8b (ms:=ms) (els:=els) (by simpa using hl) λi m y hm hy=>h (i+1) m y (by simpa using hm) (by simpa using hy)
  simp only[c30,Rows.uptoBulkAll];omega
 | [],_::_,hl,_=>by simp at hl
 | _::_,[],hl,_=>by simp at hl
def Low (w:World) (b _h:Nat):Prop:=b<w.heap.size
section
variable {H:Type} {enc:TypeId×Value->H} {P:Program} {w:World} {base:Nat} {spare:Nat->Bool} {held:Bool}
theorem a5M {L:List Nat} (hL:dataOk P L=true):∀(fuel t:Nat) (cs:List Value) (x:DataW H×List MemPlace),t∈L->DataW.trod enc P w base spare held fuel t cs=some x->∃ds m,s8 (Low w) w cs ds/\Deep P t ds m/\m<=Rows.uptoBulk x.1
 | 0,t,cs,x,ht,h=>by simp[DataW.trod] at h
 | fuel+1,t,cs,x,ht,h=>by
  have hk:=c3a.1 hL t ht;unfold b0s at hk
  split at hk
  ·rename_i e;obtain⟨b,rfl,rfl⟩:=DataW.trod_bool e h;exact⟨_,_,s8.cons (.sc _ rfl) (s8.nil _ _),.bool b e,by simp[Rows.uptoBulk]⟩
  ·rename_i k e;obtain⟨n,rfl,rfl,hw⟩:=DataW.trod_int e h;exact⟨_,_,s8.cons (.sc _ rfl) (s8.nil _ _),.int n e hw,by simp[Rows.uptoBulk]⟩
  ·rename_i e;obtain⟨s,rfl,rfl,hs⟩:=DataW.trod_string e h;refine⟨_,_,s8.cons (.sc _ rfl) (s8.nil _ _),.str s e hs,?_⟩;have e2:s.data.toList.length=s.size:=by rw[c4z];rfl
   simp only[Rows.uptoBulk];omega
  ·rename_i e he;simp only[c2B,c39,c32] at hk
   rcases DataW.trod_slice he h with⟨rfl,rfl⟩|⟨a,len,cap,elems,rest,n,hfu,rfl,rfl,hb,hl,hm,hlen,hel,_,_⟩
   ·exact⟨_,_,s8.cons (.nil none 0 (P.cellsOf e)) (s8.nil _ _),.sl [] [] he rfl (c3d _) (λi r m hr=>by simp at hr),by simp[Rows.uptoBulk]⟩
   ·obtain rfl:n=fuel:=by omega
    have each:∀i,i<len->∃q:List Value×List D×Nat,(w.cells? base (a.add (i * P.cellsOf e)) (P.cellsOf e)=some q.1)/\s8 (Low w) w q.1 q.2.1/\Deep P e q.2.1 q.2.2/\∃y,elems[i]?=some y/\q.2.2<=Rows.uptoBulk y.1:=by
     intro i hi;have h1:=hel i hi;have hei:elems[i]?=some (elems[i]'(by omega)):=c28 (by omega);rw[hei,Option.bind_eq_some_iff] at h1;obtain⟨cs',hc,ht'⟩:=h1;obtain⟨ds,m,h2,h3,h4⟩:=a5M hL n e cs' _ hk.1 ht';exact⟨(cs',ds,m),hc,h2,h3,_,hei,h4⟩
    obtain⟨l,hll,hp⟩:=b0t each
    have hmap:∀ {β:Type} (f:List Value×List D×Nat->β) (i:Nat) (b:β),(l.map f)[i]?=some b->∃q,l[i]?=some q/\f q=b:=λf i b hi=>by
     rw[c3i,c3z] at hi;exact hi
    have hrl:(l.map λq=>q.2.1).length=len:=by rw[c3f,hll]
    have hcl:∀r∈l.map (λq=>q.1),r.length=P.cellsOf e:=λr hr=>by
     obtain⟨i,hi⟩:=c2Z.1 hr;obtain⟨q,hq,rfl⟩:=hmap _ i r hi;exact(World.cells?_some (hp i q hq).1).2.1
    have hdl:∀r∈l.map (λq=>q.2.1),r.length=P.cellsOf e:=λr hr=>by
     obtain⟨i,hi⟩:=c2Z.1 hr;obtain⟨q,hq,rfl⟩:=hmap _ i r hi;rw[<-(hp i q hq).2.1.1];exact(World.cells?_some (hp i q hq).1).2.1
    have hD:Deep P t [.sl (P.cellsOf e) (l.map λq=>q.2.1)] ((l.map λq=>q.2.2).sum+1):=by
     refine .sl _ _ he (by simp) (by rw[hrl];omega) λi r m hr hm=>?_
     obtain⟨q,hq,rfl⟩:=hmap _ i r hr;obtain⟨q',hq',rfl⟩:=hmap _ i m hm;rw[hq] at hq';cases hq';exact(hp i q hq).2.2.1
    have hB:(l.map λq=>q.2.2).sum+1<=Rows.uptoBulk (DataW.slice (elems.map (·.1)) (rest.map (·.1))):=by
     have:=a8b (ms:=l.map λq=>q.2.2) (els:=elems.map (·.1)) (by simp[hll,hlen]) λi m y hm hy=>by
      obtain⟨q,hq,rfl⟩:=hmap _ i m hm;obtain⟨y',hy',h4⟩:=(hp i q hq).2.2.2;rw[c3i,hy'] at hy;cases hy;exact h4
     simp only[Rows.uptoBulk];omega
    refine⟨_,_,s8.cons ?_ (s8.nil _ _),hD,hB⟩
    by_cases h0:len=0
    ·subst h0;rw[c2M hll];exact .nil _ _ _
    obtain⟨b,off,spot⟩:=a;obtain⟨q0,hq0⟩:∃q,l[0]?=some q:=⟨_,c28 (by omega)⟩;have hc0:=(World.cells?_some (hp 0 q0 hq0).1).2;have hq00:q0.1[0]?=some (q0.1[0]'(by omega)):=c28 (by omega);have hcell0:=(hc0.2 0 hk.2).trans hq00
    have hspot:spot=none:=by
     have:=World.cell?_spot hcell0
     simpa [Addr.add] using this
    subst hspot
    have hblk:b<w.heap.size:=by
     have:=World.block_lt_of_cell? w _ hcell0
     simpa [Addr.add] using this
    have add0:∀o j,(⟨b,o,none⟩:Addr).add j=⟨b,o+j,none⟩:=λo j=>by
     unfold Addr.add
     by_cases hj:j=0
     ·subst hj;rfl
     ·simp[hj]
    have hus:(l.map λq=>q.1).flatten.length=len * P.cellsOf e:=by rw[a0l hcl,c3f,hll]
    have hsl:=AtD.sl (I:=Low w) (w:=w) b off cap (P.cellsOf e) (l.map λq=>q.2.1) (l.map λq=>q.1).flatten (by rw[hrl];exact hl) ⟨_,c2A _,hblk⟩ hdl (by rw[hus,hrl]) (λi u hu=>?_) (λi u d hu hd=>?_)
    ·rw[hrl] at hsl;exact hsl
    ·have hi:i<len * P.cellsOf e:=by rw[<-hus];exact(c25.1 hu).1
     have hq:i / P.cellsOf e<len:=(c4F hk.2).2 hi;have hr:i % P.cellsOf e<P.cellsOf e:=Nat.mod_lt _ hk.2;have ei:i / P.cellsOf e * P.cellsOf e+i % P.cellsOf e=i:=by rw[Nat.mul_comm];exact Nat.div_add_mod i _
     obtain⟨q,hqq⟩:∃q,l[i / P.cellsOf e]?=some q:=⟨_,c28 (by omega)⟩;have hcq:=(World.cells?_some (hp _ q hqq).1).2.2 _ hr;have hfl:=K6 hcl (i:=i / P.cellsOf e) (j:=i % P.cellsOf e) (r:=q.1) (by rw[c3i,hqq];rfl) hr;rw[ei,hu] at hfl;rw[<-hfl,add0,add0,c3J,ei] at hcq;exact hcq
    ·exact(a5L (I:=Low w) (w:=w) (css:=l.map λq=>q.1) (dss:=l.map λq=>q.2.1) (by simp) λi cs ds h1 h2=>by
      obtain⟨q,hq,rfl⟩:=hmap _ i cs h1;obtain⟨q',hq',rfl⟩:=hmap _ i ds h2;rw[hq] at hq';cases hq'
      exact(hp i q hq).2.1).2 i u d hu hd
  ·rename_i fs he;simp only[c2B,c3a,c39] at hk;obtain⟨xs,n,hfu,rfl,hcl,hxl,hf⟩:=DataW.trod_struct he h;obtain rfl:n=fuel:=by omega
   have each:∀i,i<fs.size->∃q:List D×Nat,∀f,fs[i]?=some f->s8 (Low w) w ((cs.drop f.offset).take (P.cellsOf f.type)) q.1/\Deep P f.type q.1 q.2/\∃y,xs[i]?=some y/\q.2<=Rows.uptoBulk y.1:=by
    intro i hi;have hfi:fs[i]?=some fs[i]:=c3O hi;have hxi:xs[i]?=some (xs[i]'(by omega)):=c28 (by omega);have h1:=hf i _ hfi;rw[hxi] at h1;obtain⟨ds,m,h2,h3,h4⟩:=a5M hL n _ _ _ (hk.1 _ (Array.getElem_mem_toList ..)) h1;refine⟨(ds,m),λf hff=>?_⟩;rw[hfi] at hff;cases hff;exact⟨h2,h3,_,hxi,h4⟩
   obtain⟨l,hll,hp⟩:=b0t each
   have hmap:∀ {β:Type} (f:List D×Nat->β) (i:Nat) (b:β),(l.map f)[i]?=some b->∃q,l[i]?=some q/\f q=b:=λf i b hi=>by
    rw[c3i,c3z] at hi;exact hi
   refine⟨(l.map (·.1)).flatten,(l.map (·.2)).sum+1,?_,.st _ _ he (by simp[hll]) (by simp[hll]) λi f ds m h1 h2 h3=>?_,?_⟩
   ·have hcut:=a8a fs.toList 0 _ hk.2 hcl;rw[List.drop_zero] at hcut;rw[hcut];refine a5L (by simp[hll]) λi c d h1 h2=>?_
    rw[c3i,c3z] at h1;obtain⟨f,hfi,rfl⟩:=h1;obtain⟨q,hq,rfl⟩:=hmap _ i d h2;exact(hp i q hq f (by simpa using hfi)).1
   ·obtain⟨q,hq,rfl⟩:=hmap _ i ds h2;obtain⟨q',hq',rfl⟩:=hmap _ i m h3;rw[hq] at hq';cases hq';exact(hp i q hq f h1).2.1
   ·have:=a8b (ms:=l.map (·.2)) (els:=xs.map (·.1)) (by simp[hll,hxl]) λi m y hm hy=>by
     obtain⟨q,hq,rfl⟩:=hmap _ i m hm;have hlt:i<fs.size:=by rw[<-hll];exact(c25.1 hq).1
     obtain⟨y',hy',h4⟩:=(hp i q hq _ (c3O hlt)).2.2;rw[c3i,hy'] at hy;cases hy;exact h4
    simp only[Rows.uptoBulk];omega
  ·cases hk
theorem open_arg {L:List Nat} (hL:dataOk P L=true) {t:Nat} {v:Value} {d:DataW H} {ps:List MemPlace} {rc:Reach} {b0:Nat} (ht:L.contains t=true) (hv:Value.okWide P w rc b0 t v) (h:DataW.Trod enc P w base spare held t v d ps) :
  ∃r m,AtR (Low w) w v r/\W9 P t r m/\m<=Rows.uptoBulk d:=by
 rw[c39] at ht;obtain⟨fuel,hf⟩:=h;obtain⟨ds,m,h1,h2,h3⟩:=a5M hL fuel t _ _ ht hf;have hk:=c3a.1 hL t ht;unfold b0s at hk
 split at hk
 ·rename_i e;obtain⟨b,rfl⟩:=okWide_bool e hv;obtain⟨b',rfl,rfl⟩:=h2.unbool e;obtain⟨u,us',e2,h4,_⟩:=h1.uncons
  simp[Value.cells] at e2
  rw[<-e2.1] at h4;exact⟨.one _,_,h4,by unfold W9;rw[e];exact h2,h3⟩
 ·rename_i k e;obtain⟨b,rfl⟩:=okWide_int e hv;obtain⟨b',rfl,_,rfl⟩:=h2.unint e;obtain⟨u,us',e2,h4,_⟩:=h1.uncons
  simp[Value.cells] at e2
  rw[<-e2.1] at h4;exact⟨.one _,_,h4,by unfold W9;rw[e];exact h2,h3⟩
 ·rename_i e;obtain⟨b,rfl⟩:=okWide_string e hv;obtain⟨b',rfl,_,rfl⟩:=h2.unstr e;obtain⟨u,us',e2,h4,_⟩:=h1.uncons
  simp[Value.cells] at e2
  rw[<-e2.1] at h4;exact⟨.one _,_,h4,by unfold W9;rw[e];exact h2,h3⟩
 ·rename_i el e;obtain⟨a,len,cap,rfl⟩:=okWide_slice e hv;obtain⟨rows,ms,rfl,_,_,rfl,_⟩:=h2.unsl e;obtain⟨u,us',e2,h4,_⟩:=h1.uncons
  simp[Value.cells] at e2
  rw[<-e2.1] at h4;exact⟨.one _,_,h4,by unfold W9;rw[e];exact h2,h3⟩
 ·rename_i fs e;obtain⟨cs,rfl,_⟩:=okWide_struct e hv;exact⟨.ag ds,m,⟨cs.toList,by simp,h1⟩,by unfold W9;rw[e];exact h2,h3⟩
 ·cases hk
end
theorem law_true {f:Nat} {rs:List R} (h:m6 f rs [.one (.sc (.bool true))]) {w:World} {args:List Value} (hat:a3A (Low w) w args rs) (hT:Tabs (λ_=>False) w:=by exact λ_ h=>nomatch h):Calls Tryd.prog f args.toArray w λe w'=>e=.returned (.bool true)/\Below w.heap.size w w':=by
 refine(h.2 (Low w) w args ⟨λ_ _ h=>h,hT⟩ hat).mono ?_
 rintro e w' ⟨v,rfl,hv,hb⟩
 cases hv;exact⟨rfl,hb⟩
end
end Go.Proofs.YtlofmibkljoapaaDoor.Vm
end
section
namespace Go.Proofs.YtlofmibkljoapaaDoor.Vm
open Go.RowKit
set_option maxRecDepth 100000
set_option maxHeartbeats 4000000

def b8d (x:Ty):Prop:=x.name.size<=maxLen/\(Lit.int .u8 x.op).wf=true/\(Lit.int .i64 x.n).wf=true
def b3f (t:Ty):Prop:=∀x∈t.parts,b8d x
theorem b8e:Tryd.prog.cellsOf 25=4:=by kernel_rfl
set_option maxRecDepth 100000 in
theorem b4I:∀(m:Nat) (ds:List D),Deep Tryd.prog 25 ds m->∃t:Ty,ds=cT t/\t.parts.length<=m/\b3f t/\∀x∈t.parts,x.name.size<=m:=by
 intro m
 induction m using Nat.strongRecOn with
 | ind m ih =>
  intro ds h;obtain⟨dss,ms,rfl,h1,h2,rfl,hf⟩:=h.unst Tryd.underlying25
  match dss,ms,h1,h2,hf with
  | [d0,d1,d2,d3],[m0,m1,m2,m3],_,_,hf =>
   obtain⟨op,rfl,w0,rfl⟩:=(hf 0 _ d0 m0 rfl rfl rfl).unint Tryd.underlying22;obtain⟨nm,rfl,w1,rfl⟩:=(hf 1 _ d1 m1 rfl rfl rfl).unstr Tryd.underlying9;obtain⟨n,rfl,w2,rfl⟩:=(hf 2 _ d2 m2 rfl rfl rfl).unint Tryd.underlying3;obtain⟨rows,ks,rfl,hl,hb,rfl,hr⟩:=(hf 3 _ d3 m3 rfl rfl rfl).unsl Tryd.underlying23;clear hf h
   have key:∀(rows:List (List D)) (ks:List Nat),ks.length=rows.length->ks.sum<1+(nm.size+1+(1+(ks.sum+1+0)))+1->(∀(i:Nat) (r:List D) (m':Nat),rows[i]?=some r->ks[i]?=some m'->m'<[1,nm.size+1,1,ks.sum+1].sum+1->∃t:Ty,r=cT t/\t.parts.length<=m'/\b3f t/\∀x∈t.parts,x.name.size<=m') ->
     ∃ts:List Ty,rows=rT ts/\(o5 ts).length<=ks.sum/\∀x∈o5 ts,b8d x/\x.name.size<=ks.sum:=by
    intro rows
    induction rows with
    | nil=>intro ks hl _ _;exact⟨[],by rw[rT],by rw[o5];simp,λx hx=>by rw[o5] at hx;simp at hx⟩
    | cons r rows ihr =>
     intro ks hl hs hrr
     match ks,hl with
     | k::ks,hl =>
      obtain⟨t,e1,e2,e3,e4⟩:=hrr 0 r k rfl rfl (by simp;omega);obtain⟨ts,f1,f2,f3⟩:=ihr ks (by simpa using hl) (by omega) λi r' m' hi hm hlt=>hrr (i+1) r' m' (by simpa using hi) (by simpa using hm) (by simp at hlt ⊢;omega)
      refine⟨t::ts,by rw[rT,e1,f1],by rw[o5,c29,c30];omega,λx hx=>?_⟩;rw[o5,c2W] at hx
      rcases hx with hx|hx
      ·exact⟨e3 x hx,by have:=e4 x hx;rw[c30];omega⟩
      ·exact⟨(f3 x hx).1,by have:=(f3 x hx).2;rw[c30];omega⟩
   obtain⟨ts,e1,e2,e3⟩:=key rows ks hl (by omega) λi r m' hi hm hlt=>ih m' hlt r (hr i r m' hi hm)
   refine⟨.mk op nm n ts,?_,?_,λx hx=>?_,λx hx=>?_⟩
   ·rw[cT,e1,b8e];rfl
   ·rw[r6,c2D];simp only[Ty.kids,c30,List.sum_nil];omega
   ·rw[r6] at hx
    rcases c2C.1 hx with rfl|hx
    ·exact⟨w1,w0,w2⟩
    ·exact(e3 x hx).1
   ·rw[r6] at hx;simp only[c30,List.sum_nil]
    rcases c2C.1 hx with rfl|hx
    ·simp only[Ty.name];omega
    ·have:=(e3 x hx).2;omega
set_option maxRecDepth 100000 in
theorem b9v {r:R} {m:Nat} (h:W9 Tryd.prog 25 r m):∃t:Ty,r=.ag (cT t)/\t.parts.length<=m/\b3f t/\∀x∈t.parts,x.name.size<=m:=by
 obtain⟨xs,rfl,h1⟩:=h.ag Tryd.underlying25;obtain⟨t,rfl,h2⟩:=b4I m xs h1;exact⟨t,rfl,h2⟩
def b3g (t:Ty):ByteArray:=⟨(l5 t).toArray⟩
theorem c1R {n:Int} (h:(Lit.int .i64 n).wf=true):n<=9223372036854775807:=by
 simp only[Lit.wf,IntKind.min,IntKind.max,IntKind.signed,IntKind.bits,c2B,c3Q,c4I] at h;have:=h.2
 simpa using this
theorem a9n {t:Ty} {s:Int} (h:c9 j4 t s=true) (hn:∀x∈t.parts,r9 x=true->x.n<=9223372036854775807):Mod t:=λx hx=>by
 obtain⟨c,hc⟩:=F4 h x hx;obtain⟨k,hk,h1,h2,h3,h4,h5,h6⟩:=f8 hc;refine⟨?_,h4,?_⟩
 ·split at h3
  ·unfold j4 at h3;rw[c2B] at h3;exact c3c h3.1
  ·have h3:=c3c h3
   have h7:x.name.size=0:=by
    have h8:=congrArg List.length h3;rw[ByteArray.toList_eq] at h8
    simpa using h8
   omega
 ·rcases h5 with h|h|h
  ·exact hn x hx (by rw[j9];exact .inl h)
  ·exact hn x hx (by rw[j9];exact .inr h)
  ·omega
theorem a9o {t:Ty} {s:Int} (h:d8 t s=true) (hw:b3f t):Mod (b6 t):=by
 have hs:=(j7 h).1;refine a9n (y5 _ t s (c2A _) hs) λx hx hv=>?_
 exact c1R (hw x (a2i _ t s (c2A _) hs x hx hv)).2.2
theorem b1W {t:Ty} (hM:Mod t) (hN:t.parts.length<=1048576):(l5 t).length<=67108864:=by
 have:=c0V hM;omega
theorem b9w (t:Ty) (ht:Sm t) (hw:b3f t) (hr:d8 t 116=true):m6 19 [.ag (cT t)] [.one (.sc (.string (b3g (b6 t)))),.one (.sc (.int .u8 0))]:=by
 have h1:=a1j t ht.1 ht.2;rw[hr] at h1;have h2:=a6w t ht;have he:r7 t=true:=by unfold r7;rw[hr];rfl
 rw[c2E he] at h2;have hM:=a9o hr hw;have hsh:=(j7 hr).1;have hN:(b6 t).parts.length<=1048576:=by rw[B6 _ t (c2A _) (j5 hsh)];exact ht.1
 have hroom:=b1W hM hN;have c1:=(b5S j4 _ (b6 t) (c2A _) (y5 _ t 116 (c2A _) hsh) hM).2 (by omega);have c2:=c1P (l5 (b6 t));unfold b3g;obtain⟨a0,a1,a2,a3,ha⟩:=d6 t;obtain⟨b0,b1,b2,b3,hb⟩:=d6 (b6 t);rw[ha] at h1 h2 ⊢;rw[hb] at h2 c1;rw[d4,n8] at c1;rw[d4] at c2;generalize rU (l5 (b6 t))=R1 at *;generalize (⟨(l5 (b6 t)).toArray⟩:ByteArray)=S at *;clear hroom;refine Y8 Tryd.func19 rfl ?_;intros;rename_i hA
 iterate 2 (try cbv;repeat ((first|with_reducible apply b5 hA|refine b9 hA _ h1 rfl ?_|refine c5 hA _ h1 ?_|refine b9 hA _ h2 rfl ?_|refine c5 hA _ h2 ?_|(refine c7 hA [1] c1 ⟨rfl,rfl,rfl,rfl,rfl,rfl,rfl⟩ ?_;rintro _ _ ⟨rfl,rfl⟩)|(refine c7 hA [1,2] c2 ⟨rfl,rfl,rfl,rfl,rfl,rfl,rfl⟩ ?_;rintro _ _ ⟨rfl,rfl⟩));cbv))

end Go.Proofs.YtlofmibkljoapaaDoor.Vm
end
