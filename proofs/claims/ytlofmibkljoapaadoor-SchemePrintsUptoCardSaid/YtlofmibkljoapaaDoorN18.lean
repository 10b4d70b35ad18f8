/- Part 18 of the proof. Conditions: none. -/
import Derived.Test.YtlofmibkljoapaaDoorN4
import Derived.Test.YtlofmibkljoapaaDoorN8
import Derived.Test.YtlofmibkljoapaaDoorN12
import Derived.Test.YtlofmibkljoapaaDoorN13
import Derived.Test.YtlofmibkljoapaaDoorN14
import Derived.Test.YtlofmibkljoapaaDoorN15
import Derived.Test.YtlofmibkljoapaaDoorN17
import Derived.Lib.Builder
import Derived.Laws.Externs
import Derived.Lib.Walk
import Derived.Lib.AppendStr
import Derived.Lib.Hide
import Derived.Lib.UnsafeStr
import Derived.Shelf.Strings.Builder1
import Derived.Shelf.Small.Strs
import Derived.Shelf.Strconv.Itoa0
import Derived.Shelf.Strconv.Itoa1
import Derived.Shelf.LaysM
import Derived.Shelf.Strconv.Itoa2
import Derived.Shelf.Strconv.Itoa3
import Derived.Test.YtlofmibkljoapaaDoorProg
import Derived.Lib.ItoaNum
import Derived.Lib.ItoaLen
import Derived.IntWalk
import Derived.Test.YtlofmibkljoapaaDoorRows
import Derived.Deep.Slices
import Derived.WideShapes
import Derived.ChangeArms
import Derived.Test.YtlofmibkljoapaaDoorN0
set_option linter.all false
set_option linter.unusedVariables false
set_option linter.unusedSimpArgs false
section
namespace Go.Proofs.YtlofmibkljoapaaDoor.Vm
open Go.RowKit
set_option maxRecDepth 100000
set_option maxHeartbeats 8000000
theorem a2r {W:ByteArray->Bool}:∀(n:Nat) (t:Ty) (s:Int),t.parts.length<=n->c8 W t s=true->∀x∈(b9 t).parts,r9 x=true->x∈t.parts:=by
 intro n
 induction n with
 | zero=>intro t s h;have:=j5 t;omega
 | succ n ih =>
  intro t s hn h x hx hv;have hself:t∈t.parts:=by rw[r7];exact c38 ..
  by_cases h11:t.op=11
  ·obtain⟨rfl,-⟩:=K9 h h11;have hsp:=(j7 h).self;rw[a2n h] at hx
   rcases a6b hx with h1|⟨f,hf,h1⟩|h1
   ·rw[l5] at hv;omega
   ·obtain⟨f0,hf0,rfl⟩:=c4o.1 hf;have hm:=B8 hf0;have h2:=A1 _ t (c3A _) f0 hm;exact A2 (ih f0.2 116 (by omega) ((y7 h).1 f0 hm).2 x h1 hv) (M5 _ t (c3A _) f0 hm)
   ·exact A2 h1 (a3c hsp)
  ·rw[x9 h11,d9] at hx
   rcases c3F.1 hx with rfl|hx
   ·have hv':t.op=7\/t.op=10:=by rw[l5] at hv;exact hv
    rw[M7 h hv',c5f];rw[show Ty.mk t.op t.name t.n []=t by conv=>rhs;rw[Ty.eta t,M7 h hv']];exact hself
   ·simp only[Ty.kids] at hx;obtain⟨y,hy,hxy⟩:=c4a.1 hx;obtain⟨z,hz,rfl⟩:=c4o.1 hy;obtain⟨k,hk,h1,h2,h3,h4,h5,h6⟩:=f9 h;obtain⟨c,hc⟩:=J0 W _ _ h6 z hz;have:=(m9 t).2 z hz;exact A2 (ih z c (by omega) hc x hxy hv) (a5m hz)
theorem U9 {t:Ty} {s:Int} (h:j1 t s=true):j1 (b9 t) s=true:=by
 have hs:=j4 h;unfold j1;rw[A3 _ t s (c3A _) hs.1,c4O];refine a2X λx hx y hy=>?_
 cases hc:F8 x y with
 | false=>rfl
 | true =>
  have hc':=hc;unfold F8 at hc';simp only[c3D,c4v] at hc';have h1:=a2r _ t s (c3A _) hs.1 x hx (by rw[l5];omega);have h2:=a2r _ t s (c3A _) hs.1 y hy (by rw[l5];omega);rw[a4S h1 h2 hc] at hs;exact absurd hs.2 (by simp)
theorem b1Y {t:Ty} {s:Int} (h:j1 t s=true) (hN:t.parts.length<=1048576):Ok1 s (b9 t):=by
 have hs:=(j4 h).1;exact⟨U9 h,A8 _ t s (c3A _) hs,by rw[E9 _ t (c3A _) (j7 hs)];exact hN⟩
theorem a3E:∀(ts:List Ty) (acc:List Int) (n:Int),n∈v8 ts acc->n∈acc\/∃v∈ts,r9 v=true/\v.n=n
 | [],acc,n,h=>.inl h
 | t::ts,acc,n,h=>by
  rw[v8] at h
  rcases a3E ts _ n h with h|⟨v,hv,h1,h2⟩
  ·split at h
   ·rename_i hc
    rcases c4b.1 h with h|h
    ·exact .inl h
    ·simp at h
     exact .inr ⟨t,c38 ..,hc.1,h.symm⟩
   ·exact .inl h
  ·exact .inr ⟨v,c36 _ hv,h1,h2⟩
def a5n (g s:Ty):Option (List (Int×Ty)):=G6 (b9 g).parts.length (b9 g) (b9 s) []
def binds (g:Ty) (c:List (Int×Ty)):List (Int×Ty):=(w5 g).filterMap λn=>c.find? λp=>p.1 == n
def G7 (g s:Ty):Option (List (Int×Ty)):=if j1 g 116=true/\j1 s 116=true then (a5n g s).map (binds g) else none
theorem b1Z {g s:Ty} {c:List (Int×Ty)} (hg:j1 g 116=true) (hs:j1 s 116=true) (h:a5n g s=some c):∀n∈w5 g,n∈a1r c:=by
 have sg:=(j4 hg).1;have ss:=(j4 hs).1;have cg:=A3 _ g 116 (c3A _) sg;have cs:=A3 _ s 116 (c3A _) ss;unfold a5n at h;rw[a3i _ (b9 g) (b9 s) [] (b9 g).parts.length cg cs (A8 _ g 116 (c3A _) sg) (A8 _ s 116 (c3A _) ss) (c3A _) (c3A _)] at h;intro n hn
 rcases a3E _ _ _ hn with h1|⟨v,hv,h1,rfl⟩
 ·simp at h1
 ·exact b0i _ _ _ _ _ 116 cg cs h v hv h1
theorem l6.two0 {f:Nat} {rs:List R} {n:Nat} (m:Nat) {r:R} (h:l6 f rs [.one (.sl n []),r]):l6 f rs [.one (.sl m []),r]:=h.mono λI w v hv=>by
 obtain⟨us,rfl,h2⟩:=hv
 match us,h2 with
 | [u1,u2],⟨h3,h4⟩=>exact⟨_,rfl,AtD.empty m h3,h4⟩
theorem b4Z (g s:Ty) (hg:Sm g) (hs:Sm s):l6 16 [.ag (cT g),.ag (cT s)] [.one (.sl 5 (rB ((G7 g s).getD []))),.one (.sc (.bool (G7 g s).isSome))]:=by
 have h1:=a1P g hg.1 hg.2;have h2:=a1P s hs.1 hs.2;obtain⟨g0,g1,g2,g3,hgg⟩:=c9 g;obtain⟨s0,s1,s2,s3,hss⟩:=c9 s
 by_cases hR:j1 g 116=true/\j1 s 116=true
 ·have h3:=a6E g hg;have h4:=a6E s hs;have e1:w6 g=true:=by unfold w6;rw[hR.1];rfl
  have e2:w6 s=true:=by unfold w6;rw[hR.2];rfl
  rw[c3E e1] at h3;rw[c3E e2] at h4;have og:=b1Y hR.1 hg.1;have os:=b1Y hR.2 hs.1;have h5:=b9Y _ (b9 g) (b9 s) [] og os (λp hp=>by simp at hp) (c3A _);have h6:=b4X g hg;rw[c3E e1] at h6

  have hky:=λc (h:a5n g s=some c)=>b1Z hR.1 hR.2 h
  have hvl:(w5 g).length<=1048576:=by
   have:=U4 (b9 g).parts [];rw[c3H] at this;have:=og.2.2;show (v8 (b9 g).parts []).length<=_;omega
  unfold G7;rw[c3E hR];rw[show G6 (b9 g).parts.length (b9 g) (b9 s) []=a5n g s from rfl] at h5;have hcb2:∀c,a5n g s=some c->CB c:=λc h=>a8g _ _ _ _ _ og os (λp hp=>by simp at hp) h

  rw[hR.1] at h1;rw[hR.2] at h2;unfold binds;generalize a5n g s=Z at *;generalize w5 g=vs at *;obtain⟨x0,x1,x2,x3,hx⟩:=c9 (b9 g);obtain⟨y0,y1,y2,y3,hy⟩:=c9 (b9 s);rw[hgg] at h1 h3 h6 ⊢;rw[hss] at h2 h4 ⊢;rw[hx] at h3 h5;rw[hy] at h4 h5;rw[show esT []=[] from rfl] at h5;obtain⟨V,hV⟩:∃V,V=rI vs:=⟨_,rfl⟩;rw[<-hV] at h6;cases Z with
  | none =>
   simp only[Option.map_none,Option.getD_none,Option.isSome_none];rw[show rB []=[] from rfl];refine l6.two0 (n:=0) 5 ?_;refine K7 Tryd.func16 rfl λqa qb qc qd qe qf qg qh qi qj qk ql qm qo qp qq qs qt qu qv qw qx qy qz vc vd ve vf vg vh vj vk vl vp vq vr vt vu vv vw vx vy vz hA=>?_
   iterate 2 (try cbv;repeat ((first|with_reducible apply b6 hA|refine c5 hA _ h1 rfl ?_|refine c7 hA _ h1 ?_|refine c5 hA _ h2 rfl ?_|refine c7 hA _ h2 ?_|refine c5 hA _ h3 rfl ?_|refine c7 hA _ h3 ?_|refine c5 hA _ h4 rfl ?_|refine c7 hA _ h4 ?_);cbv))
   try simp (maxSteps:=4000000) only [nc] at *
   refine d7 hA [2] h5 ⟨rfl,rfl,rfl,rfl,rfl,rfl,rfl⟩ ?_
   rintro res os2 (⟨c',hc',rfl,rfl⟩|⟨hc',rfl,es',rfl⟩)
   ·cases hc'
   ·cbv
    repeat ((with_reducible apply b6 hA);cbv)
  | some c =>
   simp only[c4G,c5N,c5A];have hky:=hky c rfl;have hcb:=hcb2 c rfl;obtain⟨W,hW⟩:∃W,W=rB (vs.filterMap λn=>c.find? λp=>p.1 == n):=⟨_,rfl⟩;rw[<-hW];refine K7 Tryd.func16 rfl λqa qb qc qd qe qf qg qh qi qj qk ql qm qo qp qq qs qt qu qv qw qx qy qz vc vd ve vf vg vh vj vk vl vp vq vr vt vu vv vw vx vy vz hA=>?_
   iterate 2 (try cbv;repeat ((first|with_reducible apply b6 hA|refine c5 hA _ h1 rfl ?_|refine c7 hA _ h1 ?_|refine c5 hA _ h2 rfl ?_|refine c7 hA _ h2 ?_|refine c5 hA _ h3 rfl ?_|refine c7 hA _ h3 ?_|refine c5 hA _ h4 rfl ?_|refine c7 hA _ h4 ?_);cbv))
   try simp (maxSteps:=4000000) only [nc] at *
   refine d7 hA [2] h5 ⟨rfl,rfl,rfl,rfl,rfl,rfl,rfl⟩ ?_
   rintro res os2 (⟨c',hc',rfl,rfl⟩|⟨hc',rfl,es',rfl⟩)
   rotate_left
   ·cases hc'
   injection hc' with hc'
   subst hc';obtain⟨E,hE⟩:∃E,E=esT c:=⟨_,rfl⟩;rw[<-hE];cbv
   repeat (first|(refine a2g hA 7 40 true rfl ?_;cbv)|(refine c5 hA _ h6 rfl ?_;cbv)|(with_reducible apply b6 hA;cbv))
   obtain⟨e1,e2,e3,e4,e5,e6,e7,e8,e9⟩:=j3 hA;obtain⟨r1,r2,r3,r4⟩:=m8 hA;obtain⟨m1,m2,-⟩:=N6 hA;refine l7 hA (γ:=Int×List (List D)) (λx=>[(30,vi .i64 x.1),(7,.own 4)]) (λx=>[(4,.row true 40 x.2)]) (λx=>∃k:Nat,x.1=(k:Int)/\k<=vs.length/\x.2=rB ((vs.take k).filterMap λn=>c.find? λp=>p.1 == n)) (λx=>vs.length - x.1.toNat) (0,[]) ?_ ?_ ?_
   ·exact⟨0,rfl,c4e _,rfl⟩
   ·cbv
   ·intro x hinv;obtain⟨z,L⟩:=x;cbv
    repeat ((with_reducible apply b6 hA);cbv)
    try simp (maxSteps:=4000000) only [nc] at *
    obtain⟨k,hz,hk,hL⟩:=hinv;have hll:qy V=(vs.length:Int):=by rw[r1,hV,a8e]
    have hlt:qh z (qy V)=decide (k<vs.length):=by rw[e7,hll,hz];exact c3M.2 (by omega)
    by_cases h9:k<vs.length
    ·rw[c3K h9] at hlt;obtain⟨n,hn⟩:∃n,vs[k]?=some n:=⟨_,c39 h9⟩;have hnm:=hky n (c3J hn);obtain⟨q,hq,hqn⟩:=c4o.1 hnm
     obtain⟨p,hp⟩:∃p,(c.find? λp=>p.1 == n)=some p:=by
      cases h:c.find? λp=>p.1 == n with
      | some p=>exact⟨p,rfl⟩
      | none =>
       rw[c5C] at h;exact absurd (by rw[hqn];simp) (h q hq)
     have hpn:p.1=n:=by have:=c5n hp;simpa using this
     have hpo:=hcb p (c47 hp)
     have hcan:b9 p.2=p.2/\w6 p.2=true/\Sm p.2:=by
      rcases hpo with h|h
      ·exact⟨h.2.1,by unfold w6;rw[h.1];rfl,h.sm⟩
      ·exact⟨h.2.1,by unfold w6;rw[h.1,Bool.or_true],h.sm⟩
     have hC:=a6E p.2 hcan.2.2;rw[c3E hcan.2.1,hcan.1] at hC;have hget:=b0w n c;rw[hp,<-hE,<-m1] at hget;simp only[c4G] at hget;unfold ik at hget;obtain⟨p0,p1,p2,p3,hpp⟩:=c9 p.2;rw[hpp] at hC hget;have gx:qz V z=some [.sc (.int .i64 n)]:=by rw[r2,hz,c3E (by omega),hV,c3W];unfold rI;rw[c4j,hn];rfl
     have hz1:qa .i64 (qb z 1)=((k+1:Nat):Int):=by rw[e1,e2,hz,IntWalk.i64_in _ (by omega)];omega
     have hmu:vs.length - (qa .i64 (qb z 1)).toNat<vs.length - z.toNat:=by rw[hz1,hz];omega
     have hfm:(vs.take (k+1)).filterMap (λn=>c.find? λp=>p.1 == n)=(vs.take k).filterMap (λn=>c.find? λp=>p.1 == n)++[p]:=by
      rw[a3e hn,List.filterMap_append]
      congr 1
      simp[hp]
     have hadd:vd L [[.sc (.int .i64 n),p0,p1,p2,p3]]=rB ((vs.take (k+1)).filterMap λn=>c.find? λp=>p.1 == n):=by
      rw[r4,hfm,b9N,hL,hpp,hpn]
     have hLl:L.length<=1048576:=by
      rw[hL,c1B];have:=List.length_filterMap_le (λn=>c.find? λp=>p.1 == n) (vs.take k);rw[c3Z] at this;omega
     rw[hlt]
     iterate 2 (try cbv;repeat ((first|with_reducible apply b6 hA|rw[gx]|rw[hget]|refine c5 hA _ hC rfl ?_|refine c7 hA _ hC ?_|refine z6 hA true ?_|(refine w8 hA (by simp only[c3C,c3H];omega) ?_));cbv))
     try simp (maxSteps:=4000000) only [nc] at *
     refine⟨(qa .i64 (qb z 1),vd L [[.sc (.int .i64 n),p0,p1,p2,p3]]),⟨k+1,hz1,h9,hadd⟩,hmu,?_⟩;cbv
    ·rw[c3I h9] at hlt;have hLW:L=W:=by rw[hL,hW,c4i (by omega)]
     rw[hlt,hLW];cbv
     repeat ((with_reducible apply b6 hA);cbv)
 ·unfold G7;rw[c3G hR];simp only[Option.getD_none,Option.isSome_none];rw[show rB []=[] from rfl];refine l6.two0 (n:=0) 5 ?_;rw[hgg] at h1 ⊢;rw[hss] at h2 ⊢;cases hb1:j1 g 116 with
  | false =>
   rw[hb1] at h1;refine K7 Tryd.func16 rfl λqa qb qc qd qe qf qg qh qi qj qk ql qm qo qp qq qs qt qu qv qw qx qy qz vc vd ve vf vg vh vj vk vl vp vq vr vt vu vv vw vx vy vz hA=>?_
   iterate 2 (try cbv;repeat ((first|with_reducible apply b6 hA|refine c5 hA _ h1 rfl ?_|refine c7 hA _ h1 ?_);cbv))
  | true =>
   have hb2:j1 s 116=false:=by
    cases h:j1 s 116 with
    | false=>rfl
    | true=>exact absurd ⟨hb1,h⟩ hR
   rw[hb1] at h1;rw[hb2] at h2;refine K7 Tryd.func16 rfl λqa qb qc qd qe qf qg qh qi qj qk ql qm qo qp qq qs qt qu qv qw qx qy qz vc vd ve vf vg vh vj vk vl vp vq vr vt vu vv vw vx vy vz hA=>?_
   iterate 2 (try cbv;repeat ((first|with_reducible apply b6 hA|refine c5 hA _ h1 rfl ?_|refine c7 hA _ h1 ?_|refine c5 hA _ h2 rfl ?_|refine c7 hA _ h2 ?_);cbv))
theorem a8h (g s:Ty) (hg:Sm g) (hs:Sm s):l6 12 [.ag (cT g),.ag (cT s)] [.one (.sc (.bool (G7 g s).isSome))]:=by
 have h1:=b4Z g s hg hs;obtain⟨g0,g1,g2,g3,hgg⟩:=c9 g;obtain⟨s0,s1,s2,s3,hss⟩:=c9 s;rw[hgg,hss] at h1 ⊢;generalize rB ((G7 g s).getD [])=L at *;generalize (G7 g s).isSome=b at *;refine K7 Tryd.func12 rfl ?_;intros;rename_i hA
 iterate 2 (try cbv;repeat ((first|with_reducible apply b6 hA|refine c5 hA _ h1 rfl ?_|refine c7 hA _ h1 ?_);cbv))



theorem a6c (t:Ty) (ht:t.parts.length<=1048576):l6 6 [.ag (cT t)] [.one (.sc (.bool (decide (200<t.parts.length))))]:=by
 have h1:=a9V t ht;obtain⟨a0,a1,a2,a3,ha⟩:=c9 t;rw[ha] at h1 ⊢;obtain⟨P,hP⟩:∃P,P=rT t.parts:=⟨_,rfl⟩;have hl:P.length=t.parts.length:=by rw[hP,B7]
 rw[<-hP] at h1;generalize hb:decide (200<t.parts.length)=b;refine K7 Tryd.func6 rfl ?_;intro _ _ _ _ _ _ _ qh _ _ _ _ _ _ _ _ _ _ _ _ _ _ qy;intros;rename_i hA
 have q1:qh 200 (qy P)=b:=by
  obtain⟨e1,e2,e3,e4,e5,e6,e7,e8,e9⟩:=j3 hA;obtain⟨r1,r2,-⟩:=m8 hA;rw[e7,r1,hl,<-hb];exact c3M.2 (by omega)
 iterate 2 (try cbv;repeat ((first|with_reducible apply b6 hA|rw[q1]|refine c5 hA _ h1 rfl ?_|refine c7 hA _ h1 ?_);cbv))
end Go.Proofs.YtlofmibkljoapaaDoor.Vm
end
section
namespace Go.Proofs.YtlofmibkljoapaaDoor.Vm
open Go.RowKit
set_option maxRecDepth 100000
set_option maxHeartbeats 4000000
theorem a9s:∀(ts:List Ty) (acc:List Int) (n:Int),n∈acc->n∈v8 ts acc
 | [],_,_,h=>h
 | t::ts,acc,n,h=>by
  rw[v8];refine a9s ts _ n ?_
  split
  ·exact c48 _ h
  ·exact h
theorem a9t:∀(ts:List Ty) (acc:List Int) (v:Ty),v∈ts->r9 v=true->v.n∈v8 ts acc
 | t::ts,acc,v,h,hv=>by
  rw[v8]
  rcases c3F.1 h with rfl|h
  ·refine a9s ts _ _ ?_
   by_cases hm:v.n∈acc
   ·rw[c3G (by simp[hm])];exact hm
   ·rw[c3E ⟨hv,hm⟩];simp
  ·exact a9t ts _ v h hv
theorem b6n (f:ByteArray×Ty) (l:List (ByteArray×Ty)):H3 f.1 (d5 x8 (f::l))=some (f.2,d5 x8 l):=by
 obtain⟨S,hS⟩:∃S,S=d5 x8 l:=⟨_,rfl⟩;have hs:P7 x8 S:=by rw[hS];exact M4 a7N l
 have ha:Z5 x8 S l:=by rw[hS];exact Y3 a7N l
 obtain⟨v1,v2,e,h1,h2⟩:∃v1 v2,S=v1++v2/\(∀y∈v1,x8 y f=true)/\∀y∈v2,x8 y f=false:=by
  clear hS ha
  induction S with
  | nil=>exact⟨[],[],rfl,by simp,by simp⟩
  | cons y S ih =>
   obtain⟨g1,g2⟩:=c4n.1 hs;obtain⟨v1,v2,e,h1,h2⟩:=ih g2;cases hy:x8 y f with
   | true =>
    exact⟨y::v1,v2,by rw[e];rfl,λz hz=>by
     rcases c3F.1 hz with rfl|hz
     ·exact hy
     ·exact h1 z hz,h2⟩
   | false =>
    exact⟨[],y::S,rfl,by simp,λz hz=>by
     rcases c3F.1 hz with rfl|hz
     ·exact hy
     ·exact a7N.neg z y f (g1 z hz) hy⟩
 rw[e] at hs ha;obtain⟨p1,p2⟩:=a4U a7N hs h1 h2;have h3:v1++(f::v2)=d5 x8 (f::l):=a6C a7N p1 (p2.trans (Z5.append (.refl [f]) ha))
 have hne:∀y∈v1,y.1≠f.1:=λy hy h=>by
  have h4:=h1 y hy;have h5:x8 y f=x8 f f:=by unfold x8;rw[h]
  rw[h5,a7N.irr] at h4;cases h4
 rw[<-h3,a4r f.1 v1 _ hne,H3,c3E rfl,<-hS,e];rfl
theorem b6o (l:List (Int×Ty)) (σ:Int->Ty):∀(m:Nat) (g:Ty) (e:Int) (c:List (Int×Ty)),g.parts.length<=m->c8 f8 g e=true->(∀v∈g.parts,r9 v=true->b9 (B2 l v)=σ v.n)->(∀p∈c,p.2=σ p.1) ->
  ∃c',x6 m g (b9 (B2 l g)) c=some c'/\∀p∈c',p.2=σ p.1:=by
 intro m
 induction m with
 | zero=>intro g e c h;have:=j5 g;omega
 | succ m ih =>
  intro g e c hm h hσ hc
  by_cases hv:g.op=7\/g.op=10
  ·rw[a0d hv];have h1:=hσ g (by rw[r7];exact c38 ..) (l5.2 hv);unfold a1L;cases hf:c.find? λp=>p.1 == g.n with
   | some p =>
    have h2:=hc p (c47 hf);have h3:=c5n hf;rw[c4v] at h3;refine⟨c,?_,hc⟩;simp only;rw[c3E ((a5M _ _).2 (by rw[h2,h3,h1]))]
   | none =>
    refine⟨_,rfl,λp hp=>?_⟩
    rcases c4b.1 hp with hp|hp
    ·exact hc p hp
    ·simp at hp
     subst hp;exact h1
  ·by_cases h11:g.op=11
   ·obtain⟨rfl,a,b,hk,hn,hw,ha,hb⟩:=K9 h h11;rw[a0e h11 hk];have hY:=a2q l g 114 h;have hB:=a2q l b 114 hb;have hgk:=a4Z hk
    have ep:B2 l g=.mk 11 g.name g.n [B2 l a,B2 l b]:=by
     conv=>lhs;rw[Ty.eta g,hk,h11]
     rw[U8 l _ _ _ (by omega)];rfl
    have h11':(B2 l g).op=11:=by rw[ep];rfl
    obtain⟨a',b',hk',hsb,hf,ht⟩:=C4 (j7 hY).self h11';rw[ep] at hk';injection hk' with e1 e2;injection e2 with e2 _;subst e1;subst e2;have en:(B2 l g).name=g.name:=by rw[ep];rfl
    rw[en] at hf;rw[(a2l hY).1,(a2l hY).2,a9a,hf,ht];have hts:=b6n (g.name,B2 l a) (c6 (B2 l b));simp only at hts;rw[hts];simp only[c4G,c4C];rw[<-a2n hB];have hpa:∀v∈a.parts,v∈g.parts:=λv hv=>by rw[d9,hk];simp[hv]
    have hpb:∀v∈b.parts,v∈g.parts:=λv hv=>by rw[d9,hk];simp[hv]
    obtain⟨c1,m1,h1⟩:=ih a 116 c (by omega) ha (λv hv=>hσ v (hpa v hv)) hc;rw[m1];exact ih b 114 c1 (by omega) hb (λv hv=>hσ v (hpb v hv)) h1
   ·rw[U6 hv h11];obtain⟨k,hk,h1,h2,h3,h4,h5,h6⟩:=f9 h;have hkp:=(m9 g).2;have hkm:∀x∈g.kids,∀v∈x.parts,v∈g.parts:=λx hx v hv=>by rw[d9];exact c36 _ (c4a.2 ⟨x,hx,hv⟩)
    have ep:B2 l g=.mk g.op g.name g.n (g.kids.map (B2 l)):=by
     conv=>lhs;rw[Ty.eta g]
     rw[U8 l _ _ _ hv]
    have ec:b9 (B2 l g)=.mk g.op g.name g.n ((g.kids.map (B2 l)).map b9):=by
     rw[ep,x9 (t:=.mk g.op g.name g.n _) h11];rfl
    rw[ec];simp only[Ty.op,Ty.kids,ne_eq,not_true_eq_false,c6a]
    have key:∀(ks:List Ty) (c:List (Int×Ty)),(∀x∈ks,x∈g.kids)->(∀p∈c,p.2=σ p.1)->∃c',(ks.zip ((ks.map (B2 l)).map b9)).foldlM (λc p=>x6 m p.1 p.2 c) c=some c'/\∀p∈c',p.2=σ p.1:=by
     intro ks
     induction ks with
     | nil=>intro c _ hc;exact⟨c,rfl,hc⟩
     | cons x ks ihk =>
      intro c hks hc;have hx:=hks x (c38 ..);obtain⟨d,hd⟩:=J0 f8 _ _ h6 x hx;obtain⟨c1,m1,h7⟩:=ih x d c (by have:=hkp x hx;omega) hd (λv hv=>hσ v (hkm x hx v hv)) hc;rw[c3Y,c3Y,c5y,c5v];simp only[m1];exact ihk c1 (λy hy=>hks y (c36 _ hy)) h7
    exact key g.kids c (λx hx=>hx) hc
theorem b5a {t:Ty} {e:Int} (h:c8 f8 t e=true) (ho:P6 t=true) {v w:Ty} (hv:v∈t.parts) (hw:w∈t.parts) (iv:r9 v=true) (iw:r9 w=true) (hn:v.n=w.n):v=w:=by
 obtain⟨a,ha⟩:=C8 h v hv;obtain⟨b,hb⟩:=C8 h w hw;rw[l5] at iv iw;have kv:=M7 ha iv;have kw:=M7 hb iw
 have name:∀ {u:Ty} {c:Int},c8 f8 u c=true->(u.op=7\/u.op=10)->u.name.toList=[]:=λ{u c} hu iu=>by
  obtain⟨k,_,_,_,h3,-⟩:=f9 hu;rw[c3G (by omega)] at h3;exact c4d h3
 have nn:v.name=w.name:=a0J.1 (by rw[name ha iv,name hb iw])
 have ho:v.op=w.op:=by
  by_cases hop:v.op=w.op
  ·exact hop
  ·have hc:F8 v w=true\/F8 w v=true:=by
    unfold F8
    rcases iv with h1|h1 <;> rcases iw with h2|h2
    ·exact absurd (h1.trans h2.symm) hop
    ·left;simp[h1,h2,hn]
    ·right;simp[h1,h2,hn]
    ·exact absurd (h1.trans h2.symm) hop
   rcases hc with hc|hc
   ·rw[a4S hv hw hc] at ho;cases ho
   ·rw[a4S hw hv hc] at ho;cases ho
 rw[Ty.eta v,Ty.eta w,kv,kw,nn,ho,hn]
theorem b8w {t:Ty} {e:Int} (l:List (Int×Ty)) (h:c8 f8 t e=true) (ho:P6 t=true):∃σ:Int->Ty,∀v∈t.parts,r9 v=true->b9 (B2 l v)=σ v.n:=by
 classical
 refine⟨λn=>if h:∃v,v∈t.parts/\r9 v=true/\v.n=n then b9 (B2 l h.choose) else a9T,λv hv iv=>?_⟩;have hex:∃w,w∈t.parts/\r9 w=true/\w.n=v.n:=⟨v,hv,iv,rfl⟩;have h1:=hex.choose_spec;simp only;rw[dif_pos hex,b5a h ho h1.1 hv h1.2.1 iv h1.2.2]
theorem b3p (l m:List (Int×Ty)) (t:Ty):(∀v∈t.parts,r9 v=true->B2 l v=B2 m v)->B2 l t=B2 m t:=by
 induction t using Ty.ind with
 | h t ih =>
  intro h
  by_cases hv:t.op=7\/t.op=10
  ·exact h t (by rw[r7];exact c38 ..) (l5.2 hv)
  ·obtain⟨op,nm,n,ks⟩:=t;simp only[Ty.op] at hv;rw[U8 l nm n ks hv,U8 m nm n ks hv]
   congr 1
   refine c4s λx hx=>ih x hx λv hvm=>h v ?_
   rw[d9];exact c36 _ (c4a.2 ⟨x,hx,hvm⟩)
theorem b8x (t:Ty):B2 [] t=t:=by
 induction t using Ty.ind with
 | h t ih =>
  obtain⟨op,nm,n,ks⟩:=t
  by_cases hv:op=7\/op=10
  ·rw[B2,c3E hv];rfl
  ·rw[U8 [] nm n ks hv]
   congr 1
   conv=>rhs;rw[<-List.map_id ks]
   exact c4s λx hx=>ih x hx
theorem b0x (l:List (Int×Ty)) {v:Ty} {e:Int} (h:c8 f8 v e=true) (hv:v.op=7\/v.op=10):a5h (v.op == 10) (B2 l v)=true/\b9 (B2 l v)=B2 l v:=by
 have h11:v.op≠11:=by omega
 have hk:=M7 h hv;have h0:=b8s l h hk h11;have hT:=b3n l v e h;have hidem:b9 (B2 l v)=B2 l v:=by rw[h0];exact A8 _ _ e (c3A _) hT
 refine⟨?_,hidem⟩;obtain⟨op,nm,n,ks⟩:=v;simp only[Ty.op,Ty.kids] at hv hk ⊢;rw[B2,c3E hv];cases hp:ofS l n (op == 10) with
 | some p =>
  have h1:=(b4V hp).2;show a5h _ (b9 p.2)=true;unfold a5h at h1 ⊢;cases h2:op == 10 <;> rw[h2] at h1 <;> exact U9 h1
 | none =>
  show a5h _ (Ty.mk op nm n ks)=true;subst hk
  have ho:P6 (.mk op nm n [])=true:=a2X λx hx y hy=>by
   rw[d9] at hx hy
   simp[Ty.kids] at hx hy
   subst hx;subst hy;unfold F8
   rcases hv with rfl|rfl <;> simp[Ty.op]
  have hs:=b1T h;unfold a5h j1
  rcases hv with rfl|rfl
  ·show (c8 f8 _ 116 && P6 _)=true;rw[ho,b3l h (hs.1 rfl)];rfl
  ·show (c8 f8 _ 114 && P6 _)=true;rw[hs.2 rfl] at h;rw[ho,h];rfl
theorem b6p (l:List (Int×Ty)) {t:Ty} (ht:j1 t 116=true) (hx:j1 (b9 (B2 l (b9 t))) 116=true) :
  ∃m,G7 t (b9 (B2 l (b9 t)))=some m/\B2 m (b9 t)=B2 l (b9 t)/\m.length<=t.parts.length/\∀p∈m,∃v∈(b9 t).parts,p.2=B2 l v/\∃e,c8 f8 (B2 l v) e=true:=by
 have hc:=U9 ht;obtain⟨hsh,hon⟩:=j4 hc;obtain⟨σ,hσ⟩:=b8w l hsh hon;have hps:=a2q l _ 116 hsh;have ix:=A8 _ (B2 l (b9 t)) 116 (c3A _) hps;have hcs:=A3 _ _ 116 (c3A _) hps;have it:=A8 _ t 116 (c3A _) (j4 ht).1;obtain⟨c,hm,hcσ⟩:=b6o l σ _ (b9 t) 116 [] (c3A _) hsh hσ (by simp)
 have htyp:a5n t (b9 (B2 l (b9 t)))=some c:=by
  unfold a5n;rw[a3i _ (b9 t) _ [] (b9 t).parts.length hsh (by rw[ix];exact hcs) it (by rw[ix];exact ix) (c3A _) (c3A _),ix];exact hm
 have hky:=b1Z ht hx htyp;have hnd:(a1r c).Nodup:=(a3j _ _ _ _ _ hm).1 (by simp[a1r])
 have hmem:∀p∈binds t c,p∈c/\p.1∈w5 t:=λp hp=>by
  obtain⟨n,hn,hf⟩:=List.mem_filterMap.1 hp;have h1:=c47 hf;have h2:=c5n hf;rw[c4v] at h2;exact⟨h1,by rw[h2];exact hn⟩
 have hval:∀v∈(b9 t).parts,r9 v=true->σ v.n=B2 l v/\a5h (v.op == 10) (B2 l v)=true:=λv hv iv=>by
  obtain⟨e,he⟩:=C8 hsh v hv;have h1:=b0x l he (l5.1 iv);exact⟨by rw[<-hσ v hv iv,h1.2],h1.1⟩
 refine⟨binds t c,?_,b3p _ _ _ λv hv iv=>?_,?_,λp hp=>?_⟩
 ·unfold G7;rw[c3E ⟨ht,hx⟩,htyp];rfl
 ·have hn:v.n∈w5 t:=a9t _ _ v hv iv;obtain⟨x,hf,-⟩:=b7M hnd (hky v.n hn);have hxs:=hcσ _ (c47 hf);simp only at hxs;obtain⟨hv1,hv2⟩:=hval v hv iv;have hin:(v.n,x)∈binds t c:=List.mem_filterMap.2 ⟨v.n,hn,hf⟩
  have hof:∃p,ofS (binds t c) v.n (v.op == 10)=some p/\p.2=B2 l v:=by
   cases ho:ofS (binds t c) v.n (v.op == 10) with
   | none =>
    unfold ofS at ho;rw[c5C] at ho;refine absurd ?_ (ho _ hin);simp only[c4M,c4O];rw[hxs,hv1,hv2]
   | some p =>
    have h1:=c5n ho;simp only[c3D,c4v] at h1;have h2:=(hmem p (c47 ho)).1;exact⟨p,rfl,by rw[hcσ p h2,h1.1,hv1]⟩
  obtain⟨p,hp1,hp2⟩:=hof;obtain⟨e,he⟩:=C8 hsh v hv;have h3:=b0x l he (l5.1 iv);have hvo:=l5.1 iv
  have h4:B2 (binds t c) v=b9 p.2:=by
   obtain⟨op,nm,n,ks⟩:=v;simp only[Ty.op,Ty.n] at hvo hp1;rw[B2,c3E hvo,hp1]
  rw[h4,hp2,h3.2]
 ·refine c4E (List.length_filterMap_le ..) ?_;have h1:=U4 (b9 t).parts [];rw[E9 _ t (c3A _) (j7 (j4 ht).1)] at h1;have h2:(w5 t).length<=0+t.parts.length:=h1;omega
 ·obtain⟨h1,h2⟩:=hmem p hp
  rcases a3E _ _ _ h2 with h3|⟨v,hv,iv,hn⟩
  ·simp at h3
  ·obtain⟨e,he⟩:=C8 hsh v hv;exact⟨v,hv,by rw[hcσ p h1,<-hn,(hval v hv iv).1],e,a2q l v e he⟩
def a8i (c:List (Int×Ty)) (n:Int):Option Ty:=(c.find? λp=>p.1 == n).map (·.2)
def sgC (c:List (Int×Ty)) (n:Int):Ty:=(a8i c n).getD a9T
def b3q (c c':List (Int×Ty)):Prop:=∀n x,a8i c n=some x->a8i c' n=some x
def a0h (σ:Int->Ty):Ty->Ty
 | .mk op nm n ks=>if op=7\/op=10 then σ n else .mk op nm n (subL σ ks)
where subL (σ:Int->Ty):List Ty->List Ty
 | []=>[]
 | t::ts=>a0h σ t::subL σ ts
theorem b5b (σ:Int->Ty):∀ks:List Ty,a0h.subL σ ks=ks.map (a0h σ)
 | []=>rfl
 | k::ks=>by rw[a0h.subL,b5b σ ks];rfl
theorem a3F {σ:Int->Ty} {t:Ty} (h:t.op=7\/t.op=10):a0h σ t=σ t.n:=by
 obtain⟨op,nm,n,ks⟩:=t;rw[a0h];exact c3E h
theorem a02 {σ:Int->Ty} {t:Ty} (h:¬(t.op=7\/t.op=10)):a0h σ t=.mk t.op t.name t.n (t.kids.map (a0h σ)):=by
 obtain⟨op,nm,n,ks⟩:=t;rw[a0h,b5b];exact c3G h
theorem b5c (σ:Int->Ty) (u:Ty):∀fs:List (ByteArray×Ty),a0h σ (A4 fs u)=A4 (fs.map λp=>(p.1,a0h σ p.2)) (a0h σ u)
 | []=>rfl
 | p::fs=>by
  rw[c3Y,H6,H6,a02 (by show ¬((11:Int)=7\/(11:Int)=10);decide)];simp only[Ty.op,Ty.name,Ty.n,Ty.kids,c3Y,c5f];rw[b5c σ u fs]
def b8y (v u:Ty):Prop:=u.kids=[]/\u.name=v.name/\u.op≠11/\(8<=u.op↔8<=v.op)
def b2a (σ:Int->Ty) (g s:Ty):Prop:=a0h σ g=s/\∀v∈g.parts,r9 v=true->b8y v (σ v.n)
theorem b2b {a b:ByteArray} (ha:a.toList=[]) (hb:b.toList=[]):a=b:=by
 rw[ByteArray.toList_eq] at ha hb;exact c5q (c4Y (by rw[ha,hb]))
theorem b8z {c c':List (Int×Ty)} {n:Int} {s:Ty} (h:a1L c n s=some c'):b3q c c'/\a8i c' n=some s:=by
 unfold a1L at h
 split at h
 ·rename_i p hp
  split at h
  ·rename_i ha;injection h with h;subst h;refine⟨λn x h=>h,?_⟩;unfold a8i;rw[hp,<-(a5M _ _).1 ha];rfl
  ·cases h
 ·rename_i hn;injection h with h;subst h;refine⟨λk x hx=>?_,?_⟩
  ·unfold a8i at hx ⊢;rw[List.find?_append];cases hq:c.find? (λp=>p.1 == k) with
   | none=>rw[hq] at hx;cases hx
   | some q=>rw[hq] at hx;exact hx
  ·unfold a8i;rw[List.find?_append,hn]
   simp
theorem a8j (nm:ByteArray):∀ {l:List (ByteArray×Ty)} {p:Ty×List (ByteArray×Ty)},H3 nm l=some p->l.Perm ((nm,p.1)::p.2)/\p.2.Sublist l
 | [],p,h=>by cases h
 | f::l,p,h=>by
  rw[H3] at h
  by_cases hf:f.1=nm
  ·rw[c3E hf] at h;injection h with h;subst h;exact⟨by rw[<-hf],List.sublist_cons_self ..⟩
  ·rw[c3G hf] at h;cases hq:H3 nm l with
   | none=>rw[hq] at h;cases h
   | some q =>
    rw[hq] at h;injection h with h;subst h;obtain⟨h1,h2⟩:=a8j nm hq;exact⟨(h1.cons f).trans (.swap ..),h2.cons_cons f⟩
theorem b5d {l:List (ByteArray×Ty)} {tl:Ty} (hl:P7 x8 l) (hf:∀f∈l,Cn f.2) (h1:tl.op≠11) (h2:tl.kids=[]):Cn (A4 l tl):=by
 unfold Cn;rw[a4p hl h1 h2]
 congr 1
 conv=>rhs;rw[<-List.map_id l]
 refine c4s λf hx=>?_
 show (f.1,b9 f.2)=f;rw[show b9 f.2=f.2 from hf f hx]
theorem b9Z {g a b:Ty} (hg:c8 f8 g 114=true) (cg:Cn g) (h11:g.op=11) (hk:g.kids=[a,b]) (hb:c8 f8 b 114=true):Cn a/\Cn b/\∀f∈c6 b,x8 f (g.name,a)=false:=by
 obtain⟨a',b',hk',hsp,hf,ht⟩:=C4 (j7 hg).self h11;rw[hk] at hk';injection hk' with e1 e2;injection e2 with e2;subst e1 e2;obtain⟨h1,h2⟩:=L3 hg cg;rw[hf] at h1 h2;have hp:=c4n.1 h1;have hte:=P9 hb;refine⟨h2 _ (c38 ..),?_,λf hfm=>hp.1 f hfm⟩;rw[a2m hb];exact b5d hp.2 (λf hfm=>h2 f (c36 _ hfm)) hte.1 hte.2.1
theorem b3r {σ:Int->Ty} {b:Ty} (hb:c8 f8 b 114=true) (hσ:∀v∈b.parts,r9 v=true->b8y v (σ v.n)):c6 (a0h σ b)=(c6 b).map λp=>(p.1,a0h σ p.2):=by
 have ht:=P9 hb
 have hu:(a0h σ (f7 b)).op≠11:=by
  by_cases hv:(f7 b).op=7\/(f7 b).op=10
  ·rw[a3F hv];exact(hσ _ (a3c (j7 hb).self) (l5.2 hv)).2.2.1
  ·rw[a02 hv];exact ht.1
 conv=>lhs;rw[a2m hb,b5c]
 exact(E7 hu _).1
theorem a8k {F:List (Int×Ty)->Ty×Ty->Option (List (Int×Ty))}:∀(P:List (Ty×Ty)) (c c':List (Int×Ty)),(∀p∈P,∀c c',F c p=some c'->b3q c c'/\p.1.parts.length<=p.2.parts.length/\(p.2.parts.length=p.1.parts.length->∀c2,b3q c' c2->b2a (sgC c2) p.1 p.2))->P.foldlM F c=some c' ->
  b3q c c'/\(P.map λp=>p.1.parts.length).sum<=(P.map λp=>p.2.parts.length).sum/\((P.map λp=>p.2.parts.length).sum=(P.map λp=>p.1.parts.length).sum->∀c2,b3q c' c2->∀p∈P,b2a (sgC c2) p.1 p.2)
 | [],c,c',_,h=>by
  rw[List.foldlM_nil] at h;injection h with h;subst h;exact⟨λn x h=>h,c3A _,λ_ _ _ p hp=>by cases hp⟩
 | p::P,c,c',hP,h=>by
  rw[c5v] at h;cases h1:F c p with
  | none=>rw[h1] at h;cases h
  | some c1 =>
   rw[h1] at h;replace h:P.foldlM F c1=some c':=h;obtain⟨x1,x2,x3⟩:=hP p (c38 ..) c c1 h1;obtain⟨y1,y2,y3⟩:=a8k P c1 c' (λq hq=>hP q (c36 _ hq)) h;rw[c3Y,c3Y,c4I,c4I];refine⟨λn x hx=>y1 _ _ (x1 _ _ hx),by omega,λhe c2 hc q hq=>?_⟩
   rcases c3F.1 hq with rfl|hq
   ·exact x3 (by omega) c2 λn x hx=>hc _ _ (y1 _ _ hx)
   ·exact y3 (by omega) c2 hc q hq
theorem b5e {f:Ty->Ty}:∀ {l m:List Ty},l.length=m.length->(∀p∈l.zip m,f p.1=p.2)->l.map f=m
 | [],[],_,_=>rfl
 | [],y::m,h,_=>by cases h
 | x::l,[],h,_=>by cases h
 | x::l,y::m,h,hp=>by
  rw[c3Y,b5e (l:=l) (m:=m) (by simpa using h) λp hq=>hp p (by rw[c5y];exact c36 _ hq)];rw[show f x=y from hp (x,y) (by rw[c5y];exact c38 ..)]
theorem a9u (t:Ty):t.parts.length=1+(t.kids.map λx=>x.parts.length).sum:=by
 rw[d9,c3C,List.length_flatMap];omega
theorem a6x:∀(m:Nat) (g s:Ty) (e:Int) (c c':List (Int×Ty)),g.parts.length<=m->c8 f8 g e=true->c8 f8 s e=true->Cn g->Cn s->x6 m g s c=some c' ->
  b3q c c'/\g.parts.length<=s.parts.length/\(s.parts.length=g.parts.length->∀c2,b3q c' c2->b2a (sgC c2) g s):=by
 intro m
 induction m with
 | zero=>intro g s e c c' hm;have:=j5 g;omega
 | succ m ih =>
  intro g s e c c' hm hg hs cg cs h
  by_cases hv:g.op=7\/g.op=10
  ·rw[a0d hv] at h;have hk:=M7 hg hv;have hl:g.parts.length=1:=by rw[d9,hk];rfl
   obtain⟨k1,k2⟩:=b8z h;refine⟨k1,by rw[hl];exact j5 s,λhsl c2 he=>?_⟩;have es:sgC c2 g.n=s:=by unfold sgC;rw[he _ _ k2];rfl
   refine⟨by rw[a3F hv,es],λv hvm iv=>?_⟩;have hvg:v=g:=by rw[d9,hk] at hvm;simpa using hvm
   subst hvg;rw[es]
   have hsk:s.kids=[]:=by
    have:=(m9 s).1;exact c5F.1 (by omega)
   have hs11:s.op≠11:=λh11=>by
    obtain⟨-,a,b,hk2,-⟩:=K9 hs h11;rw[hsk] at hk2;cases hk2
   obtain⟨k,h0,h1,h2,h3,h4,h5,h6⟩:=f9 hs;obtain⟨k',h0',h1',h2',h3',h4',h5',h6'⟩:=f9 hg;rw[c3G hs11] at h3;rw[c3G (by omega)] at h3';refine⟨hsk,b2b (c4d h3) (c4d h3'),hs11,?_⟩;rw[c4v] at h1 h1';exact c3M.1 (h1.trans h1'.symm)
  ·by_cases h11:g.op=11
   ·obtain⟨rfl,a,b,hk,hn0,hW,ha,hb⟩:=K9 hg h11;rw[a0e h11 hk] at h;cases hT:H3 g.name (c6 s) with
    | none=>rw[hT] at h;cases h
    | some p =>
     rw[hT,c4C] at h;cases h1:x6 m a p.1 c with
     | none=>rw[h1] at h;cases h
     | some c1 =>
      rw[h1,c4C] at h;obtain⟨hs1,hs2⟩:=L3 hs cs;obtain⟨ca,cb,hlt⟩:=b9Z hg cg h11 hk hb;obtain⟨f1,f2⟩:=y7 hs;obtain⟨hperm,hsub⟩:=a8j _ hT;obtain⟨m1,m2⟩:=a3B _ hT;have hts:=P9 hs;have sh2:c8 f8 (A4 p.2 (f7 s)) 114=true:=a1h f2 λf hf=>f1 f (m2 f hf)
      have cn2:Cn (A4 p.2 (f7 s)):=b5d (hs1.sublist hsub) (λf hf=>hs2 f (m2 f hf)) hts.1 hts.2.1;have hls:=a0y _ s (c3A _) (j7 hs).self;have hlr:=a2i (f7 s) p.2;have hlp:=a3V hperm;have hlc:B4 ((g.name,p.1)::p.2)=1+p.1.parts.length+B4 p.2:=by unfold B4;rw[c3Y,c4I]
      have hlg:=a4Z hk;obtain⟨x1,x2,x3⟩:=ih a p.1 116 c c1 (by omega) ha (f1 _ m1).2 ca (hs2 _ m1) h1;obtain⟨y1,y2,y3⟩:=ih b _ 114 c1 c' (by omega) hb sh2 cb cn2 h;refine⟨λn x hx=>y1 _ _ (x1 _ _ hx),by omega,λhl c2 he=>?_⟩;have t1:=x3 (by omega) c2 λn x hx=>he _ _ (y1 _ _ hx)
      have t2:=y3 (by omega) c2 he;have hnames:p.2=(c6 b).map λq=>(q.1,a0h (sgC c2) q.2):=by rw[<-b3r hb t2.2,t2.1,(E7 hts.1 _).1]
      have hhead:c6 s=(g.name,p.1)::p.2:=by
       cases hfs:c6 s with
       | nil=>rw[hfs] at hT;cases hT
       | cons f l =>
        rw[hfs,H3] at hT
        by_cases hfn:f.1=g.name
        ·rw[c3E hfn] at hT;injection hT with hT;rw[<-hT,<-hfn]
        ·exfalso;rw[c3G hfn] at hT;cases hq:H3 g.name l with
         | none=>rw[hq] at hT;cases hT
         | some q =>
          rw[hq] at hT;injection hT with hT;have hfp:f∈p.2:=by rw[<-hT];exact c38 ..
          rw[hnames] at hfp;obtain⟨q2,hq2,rfl⟩:=c4o.1 hfp;have h3:=hlt q2 hq2;rw[hfs] at hs1;have h4:=(c4n.1 hs1).1 _ (a3B _ hq).1;have h5:=b0h h4 λe=>hfn e.symm
          have h6:x8 (q2.1,a0h (sgC c2) q2.2) (g.name,q.1)=x8 q2 (g.name,a):=rfl;rw[h6,h3] at h5;cases h5
      refine⟨?_,λv hvm iv=>?_⟩
      ·rw[a02 hv,hk,c3Y,c3Y,c5f,t1.1,t2.1,hn0,h11]
       conv=>rhs;rw[a2m hs,hhead]
       rfl
      ·rw[d9,hk,c4H,c4H,c5k,c3X] at hvm
       rcases c3F.1 hvm with rfl|hvm
       ·rw[l5] at iv;exact absurd iv hv
       ·rcases c4b.1 hvm with hvm|hvm
        ·exact t1.2 v hvm iv
        ·exact t2.2 v hvm iv
   ·rw[U6 hv h11] at h
    by_cases ho:g.op=s.op
    ·rw[c3G (λhn=>hn ho)] at h;have hB:=b5S.kids (W:=f8) ⟨e,hg,hs⟩ ho
     have hmem:∀p∈g.kids.zip s.kids,p.1∈g.kids/\p.2∈s.kids/\b5S f8 p.1 p.2:=λp hp=>by
      obtain⟨i,hi⟩:=c4f.1 hp;obtain⟨i1,i2⟩:=c5c.1 hi;exact⟨c3J i1,c3J i2,hB.2 i _ _ i1 i2⟩
     have hs11:s.op≠11:=by rw[<-ho];exact h11
     obtain⟨x1,x2,x3⟩:=a8k (F:=λc p=>x6 m p.1 p.2 c) (g.kids.zip s.kids) c c' (λp hp c c' hc=>by
      obtain⟨p1,p2,e',q1,q2⟩:=hmem p hp;have:=(m9 g).2 _ p1
      exact ih p.1 p.2 e' c c' (by omega) q1 q2 (a1x h11 cg _ p1) (a1x hs11 cs _ p2) hc) h
     have z1:((g.kids.zip s.kids).map λp=>p.1.parts.length)=g.kids.map λx=>x.parts.length:=by
      conv=>rhs;rw[<-List.map_fst_zip (l₁:=g.kids) (l₂:=s.kids) (Nat.le_of_eq hB.1),c4X]
      rfl
     have z2:((g.kids.zip s.kids).map λp=>p.2.parts.length)=s.kids.map λx=>x.parts.length:=by
      conv=>rhs;rw[<-List.map_snd_zip (l₁:=g.kids) (l₂:=s.kids) (Nat.le_of_eq hB.1.symm),c4X]
      rfl
     rw[z1,z2] at x2 x3;have l1:=a9u g;have l2:=a9u s;refine⟨x1,by omega,λhl c2 he=>?_⟩;have ht:=x3 (by omega) c2 he;refine⟨?_,λv hvm iv=>?_⟩
     ·obtain⟨k,h0,h1,h2,h3,h4,h5,h6⟩:=f9 hs;obtain⟨k',h0',h1',h2',h3',h4',h5',h6'⟩:=f9 hg;rw[c3G hs11] at h3;rw[c3G h11] at h3';rw[a02 hv];refine b8p ho (b2b (c4d h3') (c4d h3)) ?_ (b5e hB.1 λp hp=>(ht p hp).1);show g.n=s.n;rw[<-ho] at h5;omega
     ·rw[d9] at hvm
      rcases c3F.1 hvm with rfl|hvm
      ·rw[l5] at iv;exact absurd iv hv
      ·obtain⟨x,hx,hvx⟩:=c4a.1 hvm;obtain⟨i,hi⟩:=c4f.1 hx;obtain⟨y,hy⟩:∃y,s.kids[i]?=some y:=⟨_,c39 (by have:=(c35.1 hi).1;rw[<-hB.1];exact this)⟩;exact(ht (x,y) (c3J (c5c.2 ⟨hi,hy⟩))).2 v hvx iv
    ·rw[c3E ho] at h;cases h
theorem b2c {α:Type} {f:α->α}:∀ {l:List α},l.map f=l->∀x∈l,f x=x
 | [],_,x,hx=>by cases hx
 | y::l,h,x,hx=>by
  rw[c3Y] at h;injection h with h1 h2
  rcases c3F.1 hx with rfl|hx
  ·exact h1
  ·exact b2c h2 x hx
theorem b80 {σ τ:Int->Ty} (g:Ty):∀e,c8 f8 g e=true->a0h τ (a0h σ g)=g->∀v∈g.parts,r9 v=true->a0h τ (σ v.n)=v:=by
 induction g using Ty.ind with
 | h g ih =>
  intro e hg h v hv iv
  by_cases hvg:g.op=7\/g.op=10
  ·have hk:=M7 hg hvg;have e:v=g:=by rw[d9,hk] at hv;simpa using hv
   subst e;rw[a3F hvg] at h;exact h
  ·have h2:a0h τ (a0h σ g)=.mk g.op g.name g.n ((g.kids.map (a0h σ)).map (a0h τ)):=by
    rw[a02 (σ:=σ) hvg,a02 (σ:=τ) (t:=.mk g.op g.name g.n (g.kids.map (a0h σ))) hvg];rfl
   rw[h2] at h;have h3:=congrArg Ty.kids h;simp only[Ty.kids,c4X] at h3;rw[d9] at hv
   rcases c3F.1 hv with rfl|hv
   ·rw[l5] at iv;exact absurd iv hvg
   ·obtain⟨x,hx,hvx⟩:=c4a.1 hv;obtain⟨k,h0,h1,h2',h3',h4,h5,h6⟩:=f9 hg;obtain⟨c,hc⟩:=J0 f8 _ _ h6 x hx;exact ih x hx c hc (b2c h3 x hx) v hvx iv
theorem c0a {σ:Int->Ty} {f:Int->Int} (g:Ty):(∀v∈g.parts,r9 v=true->σ v.n=o7 f v)->a0h σ g=o7 f g:=by
 induction g using Ty.ind with
 | h g ih =>
  intro h
  by_cases hv:g.op=7\/g.op=10
  ·rw[a3F hv];exact h g (a0P g) (l5.2 hv)
  ·rw[a02 hv,Y7,c3G hv]
   congr 1
   exact c4s λx hx=>ih x hx λv hvm=>h v (a0Q hx hvm)
theorem b6q {σ τ:Int->Ty} {g s:Ty} {e:Int} (hg:c8 f8 g e=true) (h1:b2a σ g s) (h2:b2a τ s g):∃f:Int->Int,s=o7 f g/\∀v∈g.parts,∀w∈g.parts,r9 v=true->r9 w=true->f v.n=f w.n->v.n=w.n:=by
 have hb:=b80 (σ:=σ) (τ:=τ) g e hg (by rw[h1.1,h2.1])
 have key:∀v∈g.parts,r9 v=true->r9 (σ v.n)=true/\σ v.n=o7 (λn=>(σ n).n) v:=λv hv iv=>by
  obtain⟨l1,l2,l3,l4⟩:=h1.2 v hv iv;have hbv:=hb v hv iv
  have iu:(σ v.n).op=7\/(σ v.n).op=10:=by
   refine Classical.byContradiction λhn=>?_
   rw[a02 hn,l1,c5f] at hbv;have:=congrArg Ty.op hbv;rw[l5,<-this] at iv;exact hn iv
  refine⟨l5.2 iu,?_⟩;have iv':=l5.1 iv;obtain⟨c,hc⟩:=C8 hg v hv;rw[Y7,c3E iv',M7 hc iv',c5f];refine b8p ?_ l2 rfl l1;show (σ v.n).op=v.op;omega
 refine⟨λn=>(σ n).n,?_,λv hv w hw iv iw e=>?_⟩
 ·rw[<-h1.1];exact c0a g λv hv iv=>(key v hv iv).2
 ·have a1:=hb v hv iv;have a2:=hb w hw iw;rw[a3F (l5.1 (key v hv iv).1)] at a1;rw[a3F (l5.1 (key w hw iw).1)] at a2;have e':(σ v.n).n=(σ w.n).n:=e;rw[e'] at a1;rw[show v=w from a1.symm.trans a2]
theorem a3X {a b:Ty} (ha:j1 a 116=true) (hb:j1 b 116=true) (h:(G7 a b).isSome=true):∃c,x6 (b9 a).parts.length (b9 a) (b9 b) []=some c:=by
 have sa:=(j4 ha).1;have sb:=(j4 hb).1;unfold G7 at h;rw[c3E ⟨ha,hb⟩] at h;cases hc:a5n a b with
 | none=>rw[hc] at h;cases h
 | some c =>
  unfold a5n at hc;rw[a3i _ (b9 a) (b9 b) [] (b9 a).parts.length (A3 _ a 116 (c3A _) sa) (A3 _ b 116 (c3A _) sb) (A8 _ a 116 (c3A _) sa) (A8 _ b 116 (c3A _) sb) (c3A _) (c3A _)] at hc;exact⟨c,hc⟩
theorem a9v {t:Ty} {s:Int} (h:c8 f8 t s=true):C3 (b9 t)=C3 t:=by
 unfold C3 w5;rw[A8 _ t s (c3A _) h]
theorem b0y {a b:Ty} (ha:j1 a 116=true) (hb:j1 b 116=true) (h1:(G7 a b).isSome=true) (h2:(G7 b a).isSome=true):C3 a=C3 b:=by
 have sa:=(j4 ha).1;have sb:=(j4 hb).1;have ga:=A3 _ a 116 (c3A _) sa;have gb':=A3 _ b 116 (c3A _) sb;have ia:=A8 _ a 116 (c3A _) sa;have ib:=A8 _ b 116 (c3A _) sb;obtain⟨c,hc⟩:=a3X ha hb h1;obtain⟨d,hd⟩:=a3X hb ha h2;obtain⟨x1,x2,x3⟩:=a6x _ _ _ 116 _ _ (c3A _) ga gb' ia ib hc;obtain⟨y1,y2,y3⟩:=a6x _ _ _ 116 _ _ (c3A _) gb' ga ib ia hd;obtain⟨f,e,hinj⟩:=b6q ga (x3 (by omega) c λ_ _ h=>h) (y3 (by omega) d λ_ _ h=>h);rw[<-a9v sa,<-a9v sb,e];refine(b9Q ga ia hinj λn hn=>?_).symm;unfold w5 at hn;rw[ia] at hn
 rcases a3E _ _ _ hn with h|h
 ·cases h
 ·exact h
def a8l (F:Ty->Ty) (t:Ty):List (Int×Ty):=(t.parts.filter λv=>r9 v).map λv=>(v.n,F v)
theorem b6r {F:Ty->Ty} {t:Ty} {p:Int×Ty} (h:p∈a8l F t):∃v∈t.parts,r9 v=true/\p=(v.n,F v):=by
 obtain⟨v,hv,e⟩:=c4o.1 h;obtain⟨h1,h2⟩:=c5b.1 hv;exact⟨v,h1,h2,e.symm⟩
theorem b81 {F:Ty->Ty} {t:Ty} {e:Int} (h:c8 f8 t e=true) (ho:P6 t=true) (hF:∀v∈t.parts,r9 v=true->a5h (v.op == 10) (F v)=true):∀v∈t.parts,r9 v=true->ofS (a8l F t) v.n (v.op == 10)=some (v.n,F v):=by
 intro v hv iv;have hin:(v.n,F v)∈a8l F t:=c4o.2 ⟨v,c5b.2 ⟨hv,iv⟩,rfl⟩;cases hq:ofS (a8l F t) v.n (v.op == 10) with
 | none =>
  unfold ofS at hq;rw[c5C] at hq;refine absurd ?_ (hq _ hin);simp only[c4M,c4O];exact hF v hv iv
 | some p =>
  have h1:=c5n hq;simp only[c3D,c4v] at h1;obtain⟨w,hw,iw,rfl⟩:=b6r (c47 hq);rw[b5a h ho hw hv iw iv h1.1]
theorem b6s {F:Ty->Ty} {t:Ty} {e:Int} (h:c8 f8 t e=true) (ho:P6 t=true) (hF:∀v∈t.parts,r9 v=true->a5h (v.op == 10) (F v)=true):∀v∈t.parts,r9 v=true->B2 (a8l F t) v=b9 (F v):=by
 intro v hv iv;have h1:=b81 h ho hF v hv iv;have h2:=l5.1 iv;obtain⟨op,nm,n,ks⟩:=v;simp only[Ty.op,Ty.n] at h1 h2;rw[B2,c3E h2,h1]
theorem b82 {l:List (Int×Ty)} {f:Int->Int} (g:Ty):(∀v∈g.parts,r9 v=true->B2 l v=o7 f v)->B2 l g=o7 f g:=by
 induction g using Ty.ind with
 | h g ih =>
  intro h
  by_cases hv:g.op=7\/g.op=10
  ·exact h g (a0P g) (l5.2 hv)
  ·have h1:B2 l g=.mk g.op g.name g.n (g.kids.map (B2 l)):=by
    obtain⟨op,nm,n,ks⟩:=g;exact U8 l nm n ks hv
   rw[h1,Y7,c3G hv]
   congr 1
   exact c4s λx hx=>ih x hx λv hvm=>h v (a0Q hx hvm)
theorem c0b {v:Ty} {e:Int} (h:c8 f8 v e=true) (hv:v.op=7\/v.op=10):a5h (v.op == 10) v=true:=by
 have h1:=(b0x [] h hv).1;rw[b8x] at h1;exact h1
theorem a5o {a b:Ty} (ha:j1 a 116=true) (hb:j1 b 116=true) (h:C3 a=C3 b):(G7 a b).isSome=true:=by
 have ra:=U9 ha;have rb:=U9 hb;obtain⟨ga,oa⟩:=j4 ra;obtain⟨gb',ob⟩:=j4 rb;have va:=a5k a;have vb:=a5k b;have ib:=A8 _ b 116 (c3A _) (j4 hb).1;unfold C3 at h;obtain⟨hf,hhf⟩:∃hf:Int->Int,hf=λn=>gb (w5 b) (atS (w5 a) n 0).toNat:=⟨_,rfl⟩
 have key:∀v∈(b9 a).parts,r9 v=true->hf v.n∈w5 b/\atS (w5 b) (hf v.n) 0=atS (w5 a) v.n 0:=λv hv iv=>by
  have h1:o7 (λn=>atS (w5 a) n 0) v∈(o7 (λn=>atS (w5 b) n 0) (b9 b)).parts:=by
   rw[<-h,U7];exact c4o.2 ⟨v,hv,rfl⟩
  rw[U7] at h1;obtain⟨w,hw,e⟩:=c4o.1 h1;have e1:=congrArg Ty.op e;have e2:=congrArg Ty.n e;rw[T7,T7] at e1;have iv':=l5.1 iv;have iw':w.op=7\/w.op=10:=by rw[e1];exact iv'
  rw[a3m,a3m,c3E iw',c3E iv'] at e2;have hwm:=vb w hw (l5.2 iw');obtain⟨i,h3,h4⟩:=a1R (w5 b) w.n 0 hwm
  have h5:hf v.n=w.n:=by
   rw[hhf];show gb (w5 b) (atS (w5 a) v.n 0).toNat=w.n;rw[<-e2,h3];unfold gb;rw[c3T,show (((0+i:Nat):Int)).toNat=i by omega,h4];rfl
  rw[h5];exact⟨hwm,e2⟩
 have hren:o7 hf (b9 a)=b9 b:=by
  refine b9P (f:=λn=>atS (w5 b) n 0) _ _ (λv hv w hw iv iw e=>?_) ?_
  ·rw[U7] at hv;obtain⟨v0,hv0,rfl⟩:=c4o.1 hv;rw[a6a] at iv;have hn:(o7 hf v0).n=hf v0.n:=by rw[a3m,c3E (l5.1 iv)]
   rw[hn] at e ⊢;exact b4U (key v0 hv0 iv).1 (vb w hw iw) e
  ·rw[b1R,<-h];exact a9o _ λv hv iv=>(key v hv iv).2
 have hF:∀v∈(b9 a).parts,r9 v=true->a5h (v.op == 10) (o7 hf v)=true:=λv hv iv=>by
  have h1:o7 hf v∈(b9 b).parts:=by rw[<-hren,U7];exact c4o.2 ⟨v,hv,rfl⟩
  obtain⟨c,hc⟩:=C8 gb' _ h1;have h2:=c0b hc (by rw[T7];exact l5.1 iv);rw[T7] at h2;exact h2
 have hput:B2 (a8l (o7 hf) (b9 a)) (b9 a)=b9 b:=by
  rw[<-hren];refine b82 _ λv hv iv=>?_
  rw[b6s ga oa hF v hv iv];have iv':=l5.1 iv;obtain⟨c,hc⟩:=C8 ga _ hv;exact a0O (by rw[T7];omega) (by rw[a1Q,M7 hc iv'];rfl)
 have hx:j1 (b9 (B2 (a8l (o7 hf) (b9 a)) (b9 a))) 116=true:=by rw[hput,ib];exact rb
 obtain⟨m,hm,-⟩:=b6p _ ha hx;rw[hput,ib] at hm;unfold G7 at hm ⊢;rw[c3E ⟨ha,rb⟩] at hm;rw[c3E ⟨ha,hb⟩];have e:a5n a (b9 b)=a5n a b:=by unfold a5n;rw[ib]
 rw[e] at hm;rw[hm];rfl
theorem c0c {a b:Ty} (ha:j1 a 116=true) (hb:j1 b 116=true):C3 a=C3 b↔(G7 a b).isSome=true/\(G7 b a).isSome=true :=
 ⟨λh=>⟨a5o ha hb h,a5o hb ha h.symm⟩,λh=>b0y ha hb h.1 h.2⟩
theorem a0i {t:Ty} (h:j1 t 116=true):j1 (C3 t) 116=true/\b9 (C3 t)=C3 t/\(C3 t).parts.length=t.parts.length:=by
 have rc:=U9 h;obtain⟨hs,ho⟩:=j4 rc;have hv:=a5k t;have h0:=λv hv' iv=>b0b (w5 t) v.n 0 (hv v hv' iv)
 have hsh:c8 f8 (C3 t) 116=true:=b6i _ _ 116 hs h0;refine⟨?_,?_,?_⟩
 ·unfold j1;rw[hsh,c4O];refine a2X λx hx y hy=>?_
  unfold C3 at hx hy;rw[U7] at hx hy;obtain⟨x0,hx0,rfl⟩:=c4o.1 hx;obtain⟨y0,hy0,rfl⟩:=c4o.1 hy;cases hc:F8 (o7 (λn=>atS (w5 t) n 0) x0) (o7 (λn=>atS (w5 t) n 0) y0) with
  | false=>rfl
  | true =>
   unfold F8 at hc;simp only[c3D,c4v] at hc;rw[T7,T7,a3m,a3m] at hc;obtain⟨c1,c2,c3⟩:=hc;rw[c3E (.inl c1),c3E (.inr c2)] at c3;have e:=b4U (hv x0 hx0 (l5.2 (.inl c1))) (hv y0 hy0 (l5.2 (.inr c2))) c3;have hcl:F8 x0 y0=true:=by unfold F8;rw[c1,c2,e];simp
   rw[a4S hx0 hy0 hcl] at ho;cases ho
 ·unfold C3;rw[a9n _ _ (b9 t) 116 (c3A _) hs,A8 _ t 116 (c3A _) (j4 h).1]
 ·unfold C3;rw[b9O,E9 _ t (c3A _) (j7 (j4 h).1)]
def NAt (es:List (R×R)) (g:Int->Option Int):Prop:=a34 es/\∀n,a11 es (ik n)=(g n).map λi=>R.one (.sc (.int .i64 i))
theorem NAt.nil:NAt [] λ_=>none:=⟨λp hp=>by simp at hp,λn=>rfl⟩
theorem NAt.set {es:List (R×R)} {g:Int->Option Int} (h:NAt es g) (n i:Int):NAt (a05 es (ik n) (.one (.sc (.int .i64 i)))) (λx=>if x=n then some i else g x):=by
 refine⟨a6r h.1 n _,λx=>?_⟩;rw[a5P n x _ es h.1];show _=(if x=n then some i else g x).map _
 by_cases hx:x=n
 ·rw[c3E hx,c3E hx];rfl
 ·rw[c3G hx,c3G hx];exact h.2 x
theorem b2d:∀(ts:List Ty) (acc:List Int),acc.Nodup->(v8 ts acc).Nodup
 | [],acc,h=>h
 | t::ts,acc,h=>by
  rw[v8];refine b2d ts _ ?_
  split
  ·rename_i hc;rw[c51];refine⟨h,by simp,λa ha b hb=>?_⟩;rw[c5x] at hb;rw[hb]
   rintro rfl
   exact hc.2 ha
  ·exact h
def a4x (vs:List Int) (k:Nat) (n:Int):Option Int:=if n∈vs.take k then some (atS vs n 0) else none
theorem b3s {vs:List Int} (hn:vs.Nodup) {k:Nat} {x:Int} (hx:vs[k]?=some x):(λy=>if y=x then some (k:Int) else a4x vs k y)=a4x vs (k+1):=by
 have hm:x∈vs:=c3J hx
 have hk:atS vs x 0=(k:Int):=by
  obtain⟨i,h1,h2⟩:=a1R vs x 0 hm;have h3:=(c35.1 h2).1;have h4:=(c35.1 hx).1;have e:i=k:=(List.getElem?_inj h3 hn).1 (h2.trans hx.symm);rw[h1,e];omega
 funext y
 unfold a4x;rw[c5a,hx]
 by_cases hy:y=x
 ·rw[c3E hy,c3E (by rw[hy];simp),hy,hk]
 ·rw[c3G hy]
  by_cases hm:y∈vs.take k
  ·rw[c3E hm,c3E (c48 _ hm)]
  ·rw[c3G hm,c3G (λh=>by
    rcases c4b.1 h with h|h
    ·exact hm h
    ·simp at h;exact hy h)]
theorem b83 (t:Ty) (ht:Sm t) (hr:j1 t 116=true):l6 20 [.ag (cT t)] [.ag (cT (C3 t))]:=by
 have h1:=a3l t ht.1 ht.2;have hb:(j1 t 116 || j1 t 114)=w6 t:=rfl;have he:w6 t=true:=by unfold w6;rw[hr];rfl
 rw[hb,he] at h1;have h2:=b4X t ht;rw[c3E he] at h2;have hsh:=(j4 hr).1;have h3:=b8l _ t (c3A _) ht.1 (j7 hsh);have hcs:=A3 _ t 116 (c3A _) hsh;have hvi:=a5k t
 have h4:∀es,NAt es (a4x (w5 t) (w5 t).length)->Y8 es (λn=>atS (w5 t) n 0) (b9 t):=λes hes=>by
  refine c27 es _ (b9 t) (b3m hcs) λx hx hop=>?_
  obtain⟨c,hc⟩:=C8 hcs x hx;refine⟨M7 hc hop,?_⟩;have h5:=hes.2 x.n;unfold a4x at h5;rw[List.take_length,c3E (hvi x hx (l5.2 hop))] at h5;exact h5
 have hnd:(w5 t).Nodup:=b2d _ _ (by simp)
 have hvl:(w5 t).length<=1048576:=by
  have:=U4 (b9 t).parts [];rw[E9 _ t (c3A _) (j7 hsh)] at this;have:=ht.1;show (v8 (b9 t).parts []).length<=_;simp only[c3H] at *;omega
 have hnum:C3 t=o7 (λn=>atS (w5 t) n 0) (b9 t):=rfl;rw[hnum];replace h3:o5 35 [.ag (ofD (cT t))] [] (a5Z (.int .u8 (b9 t).op) (.string (b9 t).name) (.int .i64 (b9 t).n) (rT (b9 t).kids)):=h3;unfold Y8 at h4;have hcT:∀y:Ty,cT y=[.sc (.int .u8 y.op),.sc (.string y.name),.sc (.int .i64 y.n),.sl 4 (rT y.kids)]:=b8q;rw[hcT (o7 (λn=>atS (w5 t) n 0) (b9 t))];generalize rT (o7 (λn=>atS (w5 t) n 0) (b9 t)).kids=K2 at *;generalize (o7 (λn=>atS (w5 t) n 0) (b9 t)).op=o2 at *;generalize (o7 (λn=>atS (w5 t) n 0) (b9 t)).name=m2 at *;generalize (o7 (λn=>atS (w5 t) n 0) (b9 t)).n=n2 at *;generalize rT (b9 t).kids=K1 at *;generalize (b9 t).op=o1 at *;generalize (b9 t).name=m1 at *;generalize (b9 t).n=n1 at *;generalize w5 t=vs at *;obtain⟨L,hL⟩:∃L,L=rI vs:=⟨_,rfl⟩;rw[<-hL] at h2;obtain⟨a0,a1,a2,a3,ha⟩:=c9 t;rw[ha] at h1 h2 h3 ⊢;clear hvi;refine K7 Tryd.func20 rfl ?_;intro qa qb _ _ _ _ _ qh _ _ _ _ _ _ _ _ _ _ _ _ _ _ qy qz _ _ _ _ _ vh;intros;rename_i hA;cbv
 repeat (first|(refine c5 hA _ h1 rfl ?_;cbv)|(refine c5 hA _ h2 rfl ?_;cbv)|(with_reducible apply b6 hA;cbv))
 obtain⟨e1,e2,e3,e4,e5,e6,e7,e8,e9⟩:=j3 hA;obtain⟨r1,r2,-⟩:=m8 hA;obtain⟨m1,m2,-⟩:=N6 hA;refine l7 hA (γ:=Int×List (R×R)) (λx=>[(14,vi .i64 x.1)]) (λx=>[(2,.mp 3 x.2)]) (λx=>∃k:Nat,x.1=(k:Int)/\k<=vs.length/\NAt x.2 (a4x vs k)) (λx=>vs.length - x.1.toNat) (0,[]) ?_ ?_ ?_
 ·exact⟨0,rfl,c4e _,NAt.nil.1,λn=>NAt.nil.2 n⟩
 ·cbv
 ·intro x hinv;obtain⟨z,es⟩:=x;cbv
  repeat ((with_reducible apply b6 hA);cbv)
  try simp (maxSteps:=4000000) only [nc] at *
  obtain⟨k,hz,hk,hes⟩:=hinv;replace hz:z=(k:Int):=hz;replace hes:NAt es (a4x vs k):=hes;have hll:qy L=((vs.length:Nat):Int):=by rw[r1,hL,a8e]
  have hlt:qh z (qy L)=decide (k<vs.length):=by rw[e7,hll,hz];exact c3M.2 (by omega)
  by_cases h9:k<vs.length
  ·rw[c3K h9] at hlt;obtain⟨x,hx⟩:∃x,vs[k]?=some x:=⟨_,c39 h9⟩;have gx:qz L z=some [.sc (.int .i64 x)]:=by rw[r2,hz,c3E (by omega),hL,show ((k:Int)).toNat=k by omega,b8t hx]
   have hz1:qa .i64 (qb z 1)=((k+1:Nat):Int):=by rw[e1,e2,hz,IntWalk.i64_in _ (by omega)];omega
   have hmu:vs.length - (qa .i64 (qb z 1)).toNat<vs.length - z.toNat:=by rw[hz1,hz];omega
   have hes2:=hes.set x z;rw[hz] at hes2;rw[b3s hnd hx] at hes2;rw[<-hz] at hes2;obtain⟨es2,he2⟩:∃es2,es2=a05 es (ik x) (.one (.sc (.int .i64 z))):=⟨_,rfl⟩;rw[<-he2] at hes2;have hp:vh es (.one (.sc (.int .i64 x))) (.one (.sc (.int .i64 z)))=es2:=by rw[m2,he2];rfl
   rw[hlt]
   iterate 2 (try cbv;repeat ((first|with_reducible apply b6 hA|rw[gx]|rw[hp]);cbv))
   try simp (maxSteps:=4000000) only [nc] at *
   refine⟨(qa .i64 (qb z 1),es2),⟨k+1,hz1,h9,hes2⟩,hmu,?_⟩;cbv
  ·rw[c3I h9] at hlt;have hkv:k=vs.length:=by omega
   rw[hkv] at hes;have h5:=h4 es hes;rw[hlt];cbv
   repeat (first|(with_reducible apply b6 hA;cbv))
   refine d7 hA [] h3 ⟨rfl,rfl,rfl,rfl,rfl,rfl,rfl⟩ ?_
   rintro _ _ ⟨rfl,zz,rfl⟩
   cbv;refine d7 hA [3,2] (h5 zz) ⟨rfl,rfl,rfl,rfl,rfl,rfl,rfl⟩ ?_
   rintro _ _ ⟨rfl,zz2,rfl⟩
   cbv;refine b9K hA 3 rfl ?_;cbv
   repeat (first|(with_reducible apply b6 hA;cbv))
theorem c1I (l:List Int) (hl:l.length<=1048576):∀t:Ty,t.parts.length<=1048576->l6 41 [.ag (cT t),.one (.sl 1 (rI l))] [.ag (cT (o7 (λn=>atS l n 0) t))]:=by
 intro t
 induction t using Ty.ind with
 | h t ih =>
  intro hN;have hkl:=m9 t;obtain⟨op,nm,n,ks⟩:=t;simp only[Ty.kids] at hkl ih;have hAt:=c28 l n hl;rw[o7,a5i,cT,cT];have hih:∀x∈ks,l6 41 [.ag (cT x),.one (.sl 1 (rI l))] [.ag (cT (o7 (λn=>atS l n 0) x))]:=λx hx=>ih x hx (by have:=hkl.2 x hx;omega)
  generalize atS l n 0=n1 at *;obtain⟨rn,hrn⟩:∃rn:Ty->Ty,rn=o7 (λn=>atS l n 0):=⟨_,rfl⟩;rw[<-hrn] at hih ⊢;obtain⟨n2,hn2⟩:∃n2,n2=if op=7\/op=10 then n1 else n:=⟨_,rfl⟩
  rw[<-hn2];obtain⟨K,hK⟩:∃K,K=rT ks:=⟨_,rfl⟩;obtain⟨Q,hQ⟩:∃Q,Q=rT (ks.map rn):=⟨_,rfl⟩;obtain⟨L0,hL0⟩:∃L,L=rI l:=⟨_,rfl⟩;rw[<-hK,<-hQ,<-hL0];rw[<-hL0] at hih hAt;refine K7 Tryd.func41 rfl ?_;intro qa qb qc qd qe qf qg qh qi qj qk ql qm qo qp qq qs qt qu qv qw qx qy qz vc vd ve vf vg vh vj vk vl vp vq vr vt vu vv vw vx vy vz;intros;rename_i hA;obtain⟨e1,e2,e3,e4,e5,e6,e7,e8,e9⟩:=j3 hA;obtain⟨r1,r2,r3,r4⟩:=m8 hA
  have key:(qj op 7=true/\n2=n1)\/(qj op 7=false/\qj op 10=true/\n2=n1)\/(qj op 7=false/\qj op 10=false/\n2=n):=by
   rw[e9,e9,hn2]
   by_cases h7:op=7
   ·exact .inl ⟨by simpa using h7,by rw[c3E (.inl h7)]⟩
   ·by_cases h10:op=10
    ·exact .inr (.inl ⟨by simpa using h7,by simpa using h10,by rw[c3E (.inr h10)]⟩)
    ·exact .inr (.inr ⟨by simpa using h7,by simpa using h10,by rw[c3G (by omega)]⟩)
  cbv
  rcases key with⟨q7,rfl⟩|⟨q7,q10,rfl⟩|⟨q7,q10,rfl⟩
  all_goals
   repeat (first|(refine a5U hA 2 3 25 true rfl rfl ?_;cbv)|(with_reducible apply b6 hA;cbv)|(rw[q7];cbv)|(rw[q10];cbv)|(refine c5 hA _ hAt rfl ?_;cbv)|(refine c7 hA _ hAt rfl ?_;cbv))
   clear hn2 hAt;refine l7 hA (γ:=Int×List (List D)) (λx=>[(6,vi .i64 x.1)]) (λx=>[(3,.row true 25 x.2)]) (λx=>∃k:Nat,x.1=(k:Int)/\k<=ks.length/\x.2=rT ((ks.map rn).take k)) (λx=>ks.length - x.1.toNat) (0,[]) ?_ ?_ ?_
   ·exact⟨0,rfl,c4e _,rfl⟩
   ·cbv
   ·intro x hinv;obtain⟨z,M⟩:=x;cbv
    repeat ((with_reducible apply b6 hA);cbv)
    try simp (maxSteps:=4000000) only [nc] at *
    obtain⟨k,hz,hk,hM⟩:=hinv;replace hz:z=(k:Int):=hz;replace hM:M=rT ((ks.map rn).take k):=hM;have hll:qy K=((ks.length:Nat):Int):=by rw[r1,hK,B7]
    have hlt:qh z (qy K)=decide (k<ks.length):=by rw[e7,hll,hz];exact c3M.2 (by omega)
    by_cases h9:k<ks.length
    ·rw[c3K h9] at hlt;obtain⟨x,hx⟩:∃x,ks[k]?=some x:=⟨_,c39 h9⟩;have hspx:=hih x (c3J hx);have hx2:(ks.map rn)[k]?=some (rn x):=by rw[c4j,hx];rfl
     have hsn:=a3A hx2;obtain⟨x0,x1,x2,x3,hxx⟩:=c9 x;obtain⟨v0,v1,v2,v3,hvv⟩:=c9 (rn x);rw[hxx,hvv] at hspx;rw[hvv] at hsn;have gx:qz K z=some [x0,x1,x2,x3]:=by rw[r2,hz,c3E (by omega),hK,show ((k:Int)).toNat=k by omega,T3 hx,hxx]
     have gx2:(Ar.mk qa qb qc qd qe qf qg qh qi qj qk ql qm qo qp qq qs qt qu qv qw qx qy qz vc vd ve vf vg vh vj vk vl vp vq vr vt vu vv vw vx vy vz).get K z=some [x0,x1,x2,x3]:=gx;have hz1:qa .i64 (qb z 1)=((k+1:Nat):Int):=by rw[e1,e2,hz,IntWalk.i64_in _ (by omega)];omega
     have hmu:ks.length - (qa .i64 (qb z 1)).toNat<ks.length - z.toNat:=by rw[hz1,hz];omega
     have hnew:vd M [[v0,v1,v2,v3]]=rT ((ks.map rn).take (k+1)):=by rw[r4,hsn,hM]
     have hMl:M.length<=1048576:=by rw[hM,B7,c3Z];omega
     rw[hlt]
     iterate 2 (try cbv;repeat ((first|with_reducible apply b6 hA|rw[gx]|rw[gx2]|refine c5 hA _ hspx rfl ?_|refine c7 hA _ hspx ?_|(refine w8 hA (by simp only[r4,c37,c3C,c3H];omega) ?_));cbv))
     try simp (maxSteps:=4000000) only [nc] at *
     refine⟨(qa .i64 (qb z 1),vd M [[v0,v1,v2,v3]]),⟨k+1,hz1,h9,hnew⟩,hmu,?_⟩;cbv
    ·rw[c3I h9] at hlt;have hMQ:M=Q:=by rw[hM,hQ,c4i (by rw[c4h];omega)]
     rw[hlt];cbv
     repeat ((with_reducible apply b6 hA);cbv)
     exact⟨by rw[hMQ],trivial⟩
section
theorem b5f (b:Nat) (w:World) (h0:w.cell? ⟨b,0,none⟩=some (.pointer (some ⟨b,0,none⟩))) :
  Calls Tryd.prog 75 #[.pointer (some ⟨b,0,none⟩)] w λe w'=>e=.returned (.tuple #[])/\w'=w:=by
 obtain⟨j,hj,_⟩:=c40.1 (show (Tryd.prog.info? 59).map (·.size)=some 2 by kernel_rfl)
 go_enter Tryd.func75,Tryd.ntmps75
 go_wp2
 rw[Lib.run_neq_ptr_same w _ Tryd.underlying56 hj]
 go_wp2
 go_end0
 exact⟨rfl,rfl⟩
theorem b2e (T b:Nat) (hlies:liesAt Tryd.prog Tryd.prog.depth T (2 / Tryd.prog.cellsOf T) 0 59 1=true) (w:World) (h0:w.cell? ⟨b,0,none⟩=some (.pointer none)) (hsh:w.shape? b=some (T,2)) (hfz:w.frozen? ⟨b,0,none⟩=false) :
  Calls Tryd.prog 75 #[.pointer (some ⟨b,0,none⟩)] w λe w'=>e=.returned (.tuple #[])/\w'=w.setCell ⟨b,0,none⟩ (.pointer (some ⟨b,0,none⟩)):=by
 obtain⟨j,hj,hjs⟩:=c40.1 (show (Tryd.prog.info? 59).map (·.size)=some 2 by kernel_rfl)
 go_enter Tryd.func75,Tryd.ntmps75
 go_wp2
 rw[Lib.run_to_unsafe w ⟨b,0,none⟩ Tryd.underlying56 Tryd.underlying109 hj (by rw[hjs];decide) hsh (Nat.zero_lt_succ 1)];simp only[Result.andThen];rw[Oper.upon_value]
 go_wp2
 rw[run_callFunc_extern Tryd.func86 (by kernel_rfl) (by kernel_rfl) (by kernel_rfl) (e:=Extern.AbiNoEscape.same) (by kernel_rfl)];rw[Lib.run_noEscape];simp only[Result.andThen];rw[Oper.upon_value]
 go_wp2
 rw[Lib.run_from_unsafe w ⟨b,0,none⟩ Tryd.underlying109 Tryd.underlying56 hj hsh hlies];simp only[Result.andThen];rw[Oper.upon_value]
 go_wp2
 go_end0
 exact⟨rfl,rfl⟩
section
variable {I0:Nat->Nat->Prop} {X:Nat->Prop} {w0:W0} {I:Nat->Nat->Prop} {g:Nat->Value} {s:S} {a:Act} {w:World}
theorem RelI.unob (h:RelI I0 X w0 I g s a w) {k T:Nat} {us:List Value} (hk:s.o[k]?=some (.ob T us)) (h1:a21 (B6 us)=true):RelI I0 X w0 I g ⟨s.t,s.o.set k (.box (B6 us))⟩ a w:=by
 have hlt:=(c35.1 hk).1
 have a1q:∀i,B1 ⟨s.t,s.o.set k (.box (B6 us))⟩ i->B1 s i:=λi hl=>by
  obtain⟨o,ho,hdd⟩:=hl
  by_cases hik:k=i
  ·subst hik;exact⟨_,hk,by simp⟩
  ·simp only[c3O hik] at ho;exact⟨o,ho,hdd⟩
 refine⟨h.im,h.lt,h.fr,h.kp,by simp only[c3N];exact h.lo,h.st,λi o ho=>?_,λi j b hi hj=>h.dis i j b (a1q i hi) (a1q j hj),λi hi=>h.out i (by simpa using hi),h.tmp,h.dfr⟩
 by_cases hik:k=i
 ·subst hik;simp only[c3V hlt] at ho;cases ho;obtain⟨b,h2,h3,h4⟩:=h.obj k _ hk;exact⟨b,us,(T,[]),h2,by rw[c3X];exact h3,H9 us,a6m I w g h1,h4⟩
 ·simp only[c3O hik] at ho;exact h.obj i o ho
end
def b2f (T:Nat):O:=.ob T [.pointer none,.slice none 0 0]
theorem a5p:a0X Tryd.prog 75=true:=by kernel_rfl
theorem b2g {w:World} {b T:Nat} {us:List Value} (h:w.heap[b]?=some (.cells us.toArray T (0,0))):w.shape? b=some (T,us.length):=by
 unfold World.shape?;rw[h]
 simp
theorem c2A (T:Nat) (hlies:liesAt Tryd.prog Tryd.prog.depth T (2 / Tryd.prog.cellsOf T) 0 59 1=true):o5 75 [.ptr 0 0] [b2f T] (λres os=>res=[]/\os=[.box [.ptr 0 0,.em]]):=by
 refine⟨a5p,λI w g args hrel=>?_⟩;obtain⟨b,hg,hb,hI,hM⟩:=hrel.obj 0 _ rfl;obtain⟨u,us,rfl,hu,hus⟩:=j2.uncons (show j2 I w g args [.ptr 0 0] from hrel.tmp);obtain rfl:=hus.unnil;obtain⟨b',hg',rfl⟩:=hu.unptr;rw[hg] at hg';injection hg' with hg'
 injection hg' with hg'
 injection hg' with hg' _ _
 subst hg';have c0:w.cell? ⟨b,0,none⟩=some (.pointer none):=by rw[Lib.cell_of_heap hb];rfl
 refine(b2e T b hlies w c0 (b2g hb) (Lib.frozen_of_heap hb 0)).mono ?_
 rintro e w' ⟨rfl,rfl⟩
 have h2:=hrel.unob (k:=0) (T:=T) (us:=[.pointer none,.slice none 0 0]) rfl rfl;have hp:j2 I w g [.pointer (some ⟨b,0,none⟩)] [V.ptr 0 0]:=.cons (.ptr 0 0 b hg) (.nil I w g);obtain⟨b2,us2,t2,hg2,hb2,hlen,h3⟩:=h2.store (k:=0) (n:=0) (cs:=[.d (.sc (.pointer none)),.em]) (ds:=[.ptr 0 0]) (r:=[.ptr 0 0,.em]) (vs:=[.pointer (some ⟨b,0,none⟩)]) rfl hp (by simp[Value.oneCell']) rfl;rw[hg] at hg2;injection hg2 with hg2;injection hg2 with hg2;injection hg2 with hg2 _ _;subst hg2;rw[hb] at hb2;injection hb2 with hb2;injection hb2 with e1 e2 _
 have e3:us2=[.pointer none,.slice none 0 0]:=by
  have:=congrArg Array.toList e1
  simpa using this.symm
 subst e3;rw[setCell_eq_setRow w b 0 _ T (0,0) _ hb];refine⟨[],[],_,I,g,rfl,⟨rfl,rfl⟩,⟨h3.im,h3.lt,h3.fr,h3.kp,h3.lo,h3.st,h3.obj,h3.dis,h3.out,.nil _ _ _,rfl,h3.dfr.2⟩⟩
theorem c2B (x:V) (os0:List O):o5 75 [.ptr 0 0] (.box [.ptr 0 0,x]::os0) (λres os=>res=[]/\os=.box [.ptr 0 0,x]::os0):=by
 refine⟨a5p,λI w g args hrel=>?_⟩;obtain⟨b,us,t,hg,hb,hcs,h1,hI,hM⟩:=hrel.obj 0 _ rfl;obtain⟨u,us',rfl,hu,hus⟩:=j2.uncons (show j2 I w g args [.ptr 0 0] from hrel.tmp);obtain rfl:=hus.unnil;obtain⟨b',hg',rfl⟩:=hu.unptr;rw[hg] at hg';injection hg' with hg'
 injection hg' with hg'
 injection hg' with hg' _ _
 subst hg';obtain⟨u0,us0,rfl,hu0,_⟩:=hcs.uncons;obtain⟨b2,hg2,rfl⟩:=hu0.unptr;rw[hg] at hg2;injection hg2 with hg2;injection hg2 with hg2;injection hg2 with hg2 _ _;subst hg2;have c0:w.cell? ⟨b,0,none⟩=some (.pointer (some ⟨b,0,none⟩)):=by rw[Lib.cell_of_heap hb];rfl
 refine(b5f b w c0).mono ?_
 rintro e w' ⟨rfl,rfl⟩
 exact⟨[],[],_,I,g,rfl,⟨rfl,rfl⟩,⟨hrel.im,hrel.lt,hrel.fr,hrel.kp,hrel.lo,hrel.st,hrel.obj,hrel.dis,hrel.out,.nil _ _ _,rfl,hrel.dfr.2⟩⟩
end
def a9w (w:World) (v v':Value) (w':World):Prop:=(∃g,v.ownBlock=some g/\v'.ownBlock=some g/\w.grownBy w' (some g))\/(Below w.heap.size w w'/\(v'.ownBlock=none\/v'.ownBlock=some w.heap.size))
theorem a8m {P:Program} (w:World) (t u ty e:TypeId) (i:TypeInfo) (ht:P.underlying t=some (.slice e)) (hu:P.underlying u=some .string) (hi:P.info? e=some i) (hz:i.zero=some (.int .u8 0)) (hsize:i.size=1) (hby:i.bytes=1)
  (v:Value) (n:Nat) (xs:List Value) (hown:w.ownsRow 0 e 1 v n xs) (s:ByteArray) (h63:n+s.size<=maxLen) (hbytes:n+s.size<=140737488355328) :
  ∃v' w',(Builtin.append_ #[t,u] ty #[v,.string s]).run P w=.ok v' w'/\w'.ownsRow 0 e 1 v' (n+s.size) (xs++Lib.strCells s)/\a9w w v v' w':=by
 obtain⟨v',w',hr,h2,h3,h4⟩:=Lib.run_append_own_string (P:=P) w 0 t u ty e i ht hu hi hz hsize hby v n xs hown s h63 hbytes (c4e _);refine⟨v',w',hr,h2,?_⟩;have hxl:xs.length=n:=by simpa using hown.1
 rcases hown.2 with⟨rfl,rfl⟩|⟨g,cap,cur,rfl,hbg,hg,hnc,hcm,hcs,htake⟩
 ·refine .inr ⟨⟨h3.os,h3.tape,h3.output,h3.size,λk hk=>h3.block k hk (by simp[Value.ownBlock])⟩,?_⟩
  by_cases hm:s.size=0
  ·rw[h4.2 ⟨rfl,hm⟩];exact .inl rfl
  ·have hrn:=run_append_nil_string (P:=P) w t u ty e i (.int .u8 0) ht hu hi hz s (by omega) (by unfold maxLen at h63;omega) (by rw[hby];omega);rw[hr] at hrn;injection hrn with e1 e2;rw[e1];exact .inr rfl
 ·by_cases hroom:n+s.size<=cap
  ·have hrr:=Lib.run_append_room_string (P:=P) w t u ty e i ht hu hi hsize g n cap cur hg s hroom (by omega);rw[hr] at hrr;injection hrr with e1 e2;rw[e1];exact .inl ⟨g,rfl,rfl,h3⟩
  ·have holds:∀j u,xs[j]?=some u->w.cell? ((⟨g,0,none⟩:Addr).add j)=some u:=hown.cells (g:=g) rfl;have hrg:=Lib.run_append_grow_string (P:=P) w t u ty e i (.int .u8 0) ht hu hi hz ⟨g,0,none⟩ n cap xs (by rw[hsize];simpa using hxl) holds s (by omega) (by unfold maxLen at h63;omega) (by rw[hby];exact growslice_fits (by omega) (by omega));rw[hr] at hrg;injection hrg with e1 e2;rw[e1,e2];exact .inr ⟨((Below.refl _ _).drew).alloc (c3A _) _,.inr rfl⟩
theorem a3Y {P:Program} {w:World} {ops:Array Oper} {rest:List Oper} {o:Oper} {a:Act} {Q:Exit->Act->World->Prop} (hgd:o.guard=none) (sl x:Operand) (t u:TypeId)
  (ho:o.op=.call { callee:=.builtin .append,args:=#[sl,x],argTypes:=#[t,u] })
  (e:TypeId) (i:TypeInfo) (ht:P.underlying t=some (.slice e)) (hu:P.underlying u=some .string) (hi:P.info? e=some i) (hz:i.zero=some (.int .u8 0)) (hsize:i.size=1) (hby:i.bytes=1)
  (v:Value) (n:Nat) (xs:List Value) (hs:a.eval sl=v) (hown:w.ownsRow 0 e 1 v n xs) (s:ByteArray) (hx:a.eval x=.string s) (h63:n+s.size<=maxLen) (hbytes:n+s.size<=140737488355328)
  (h:∀v' w',w'.ownsRow 0 e 1 v' (n+s.size) (xs++Lib.strCells s)->a9w w v v' w'->wpList P ops Q rest (a.put o.dst v') w'):wpList P ops Q (o::rest) a w:=by
 refine wpList_plain hgd λK hK=>?_
 obtain⟨v',w',hr,h2,h3⟩:=a8m (P:=P) w t u o.type e i ht hu hi hz hsize hby v n xs hown s h63 hbytes;unfold Oper.wp execOp;simp only[ho,resolve,invoke,builtin,Sem.run_bind,Sem.run_pure,Result.andThen_ok,List.map_toArray,c3Y,c5f,hs,hx,hr];exact hK _ _ (h v' w' h2 h3)
theorem a9w.other {w w':World} {v v':Value} (h:a9w w v v' w') {b:Nat} (hb:b<w.heap.size) (hne:v.ownBlock≠some b):w'.heap[b]?=w.heap[b]?:=by
 rcases h with⟨g,h1,h2,h3⟩|⟨h1,_⟩
 ·exact h3.block b hb (by rw[<-h1];exact λe=>hne e.symm)
 ·exact h1.block b hb
theorem G4 {w:World} {b T:Nat} {cur:Array Value} (h:w.heap[b]?=some (.cells cur T (0,0))) (i:Nat):w.cell? ⟨b,i,none⟩=cur[i]?:=by
 unfold World.cell?;rw[h]
 simp
theorem c2C (b T n:Nat) (cur:Array Value) (v:Value) (xs:List Value) (s:ByteArray) (w:World) (hb:w.heap[b]?=some (.cells cur T (0,0))) (k0:cur[0]?=some (.pointer (some ⟨b,0,none⟩))) (k1:cur[1]?=some v) (hown:w.ownsRow 0 5 1 v n xs) (hne:v.ownBlock≠some b) (h63:n+s.size<=137438953472) :
  Calls Tryd.prog 55 #[.pointer (some ⟨b,0,none⟩),.string s] w λe w'=>∃v' w1,e=.returned (.tuple #[.int .i64 s.size,.nilIface])/\w1.ownsRow 0 5 1 v' (n+s.size) (xs++Lib.strCells s)/\a9w w v v' w1/\w1.heap[b]?=some (.cells cur T (0,0))/\w'=w1.setCell ⟨b,1,none⟩ v':=by
 obtain⟨i0,hi,hz0,hz1,hz2⟩:=info_parts (show (Tryd.prog.info? 5).map (λi=>(i.zero,i.size,i.bytes))=some (some (.int .u8 0),1,1) by kernel_rfl);have c0:w.cell? ⟨b,0,none⟩=some (.pointer (some ⟨b,0,none⟩)):=by rw[G4 hb];exact k0
 have c1:w.cell? ⟨b,1,none⟩=some v:=by rw[G4 hb];exact k1
 have hlt:b<w.heap.size:=by
  rcases c4q b w.heap.size with h'|h'
  ·exact h'
  ·simp[c4Q h'] at hb
 have HB:=Lib.hid hb;have HOWN:=Lib.hid hown;have K0:=Lib.hid k0;have K1:=Lib.hid k1;clear hb hown k0 k1
 go_enter Tryd.func55,Tryd.ntmps55
 go_wp2_with fail
 refine(b5f b _ c0).mono ?_
 rintro e w1 ⟨rfl,e1⟩
 subst e1
 go_wp2_with (at_builtin;refine a3Y rfl _ _ 57 9 rfl 5 i0 Tryd.underlying57 Tryd.underlying9 hi hz0 hz1 hz2 _ n xs rfl HOWN.out s rfl ?h1 ?h2 ?_)
 case h1=>unfold maxLen;omega
 case h2=>omega
 intro v' w2 hown' hsp;have hb2:=(hsp.other hlt hne).trans HB.out;have d0:w2.cell? ⟨b,0,none⟩=some (.pointer (some ⟨b,0,none⟩)):=by rw[G4 hb2];exact K0.out
 have d1:w2.cell? ⟨b,1,none⟩=some v:=by rw[G4 hb2];exact K1.out
 have f1:w2.frozen? ⟨b,1,none⟩=false:=Lib.frozen_of_heap hb2 1;obtain⟨A,cap,rfl⟩:=N0 hown';have HB2:=Lib.hid hb2;have HO2:=Lib.hid hown';have HSP:=Lib.hid hsp;clear hb2 hown' hsp c0 c1
 go_wp2
 go_ret2
 exact⟨_,w2,rfl,HO2.out,HSP.out,HB2.out,rfl⟩
theorem c2D (b T:Nat) (hlies:liesAt Tryd.prog Tryd.prog.depth T (2 / Tryd.prog.cellsOf T) 0 59 1=true) (s:ByteArray) (w:World) (hb:w.heap[b]?=some (.cells #[.pointer none,.slice none 0 0] T (0,0))) (h63:s.size<=137438953472) :
  Calls Tryd.prog 55 #[.pointer (some ⟨b,0,none⟩),.string s] w λe w'=>∃v' w1,e=.returned (.tuple #[.int .i64 s.size,.nilIface])/\w1.ownsRow 0 5 1 v' s.size (Lib.strCells s)/\a9w (w.setCell ⟨b,0,none⟩ (.pointer (some ⟨b,0,none⟩))) (.slice none 0 0) v' w1/\w1.heap[b]?=some (.cells #[.pointer (some ⟨b,0,none⟩),.slice none 0 0] T (0,0))/\w'=w1.setCell ⟨b,1,none⟩ v':=by
 obtain⟨i0,hi,hz0,hz1,hz2⟩:=info_parts (show (Tryd.prog.info? 5).map (λi=>(i.zero,i.size,i.bytes))=some (some (.int .u8 0),1,1) by kernel_rfl);have c0:w.cell? ⟨b,0,none⟩=some (.pointer none):=by rw[G4 hb];rfl
 have hlt:b<w.heap.size:=by
  rcases c4q b w.heap.size with h'|h'
  ·exact h'
  ·simp[c4Q h'] at hb
 have hsh:=b2g (us:=[.pointer none,.slice none 0 0]) hb;have hfz:=Lib.frozen_of_heap hb 0
 have hb1:(w.setCell ⟨b,0,none⟩ (.pointer (some ⟨b,0,none⟩))).heap[b]?=some (.cells #[.pointer (some ⟨b,0,none⟩),.slice none 0 0] T (0,0)):=by
  rw[setCell_eq_setRow w b 0 _ T (0,0) _ hb,setRow_heap w b _ _ T _ hb];rfl
 have hlt1:b<(w.setCell ⟨b,0,none⟩ (.pointer (some ⟨b,0,none⟩))).heap.size:=by
  rcases c4q b (w.setCell ⟨b,0,none⟩ (.pointer (some ⟨b,0,none⟩))).heap.size with h'|h'
  ·exact h'
  ·simp[c4Q h'] at hb1
 obtain⟨wz,hwz⟩:∃wz,wz=w.setCell ⟨b,0,none⟩ (.pointer (some ⟨b,0,none⟩)):=⟨_,rfl⟩;rw[<-hwz] at hb1 hlt1 ⊢;have HZ:=Lib.hid hwz;clear hwz;have HB:=Lib.hid hb1;have HL:=Lib.hid hlies;have HS:=Lib.hid hsh;have HF:=Lib.hid hfz;clear hb hb1 hlies hsh hfz
 go_enter Tryd.func55,Tryd.ntmps55
 go_wp2_with fail
 refine(b2e T b HL.out _ c0 HS.out HF.out).mono ?_
 rintro e w1 ⟨rfl,e1⟩
 rw[<-HZ.out] at e1;subst e1;have g1:w1.cell? ⟨b,1,none⟩=some (.slice none 0 0):=by rw[G4 HB.out];rfl
 go_wp2_with (at_builtin;refine a3Y rfl _ _ 57 9 rfl 5 i0 Tryd.underlying57 Tryd.underlying9 hi hz0 hz1 hz2 _ 0 [] rfl (World.ownsRow_nil w1 0 5 1) s rfl ?h1 ?h2 ?_)
 case h1=>unfold maxLen;omega
 case h2=>omega
 intro v' w2 hown' hsp;have hb2:=(hsp.other hlt1 (by simp[Value.ownBlock])).trans HB.out;have d0:w2.cell? ⟨b,0,none⟩=some (.pointer (some ⟨b,0,none⟩)):=by rw[G4 hb2];rfl
 have d1:w2.cell? ⟨b,1,none⟩=some (.slice none 0 0):=by rw[G4 hb2];rfl
 have f1:w2.frozen? ⟨b,1,none⟩=false:=Lib.frozen_of_heap hb2 1;obtain⟨A,cap,rfl⟩:=N0 hown';have HB2:=Lib.hid hb2;have HO2:=Lib.hid hown';have HSP:=Lib.hid hsp;clear hb2 hown' hsp c0 g1
 go_wp2
 go_ret2
 exact⟨_,w2,rfl,HO2.out,HSP.out,HB2.out,rfl⟩
def rU (l:List UInt8):List (List D):=l.map λc=>[.sc (.int .u8 (c.toNat:Int))]
def a17 (l:List UInt8):List O:=[.box [.ptr 0 0,.own 1],.row false 5 (rU l)]
theorem a4y (l:List UInt8):(rU l).length=l.length:=by unfold rU;rw[c4h]
theorem b84 (a b:List UInt8):rU (a++b)=rU a++rU b:=by unfold rU;rw[c4J]
theorem b85 (l:List UInt8):∀r∈rU l,r.length=1:=λr hr=>by
 unfold rU at hr;obtain⟨c,_,rfl⟩:=c4o.1 hr;rfl
theorem a8n {I:Nat->Nat->Prop} {w:World} (s:ByteArray):s9 I w (Lib.strCells s) (rU (I5 s)).flatten:=by
 have key:∀l:List UInt8,s9 I w (l.map λb=>Value.int .u8 b.toNat) (rU l).flatten:=by
  intro l
  induction l with
  | nil=>exact .nil I w
  | cons c l ih=>exact .cons (.sc _ rfl) ih
 exact key _
theorem b2h:(ty 5).sz=1:=rfl
theorem a3o:a0X Tryd.prog 55=true:=by kernel_rfl
theorem a8o {b c:Nat} (h:Value.pointer (some ⟨b,0,none⟩)=.pointer (some ⟨c,0,none⟩)):b=c:=by
 injection h with h;injection h with h;injection h
theorem a6y (l:List UInt8) (s:ByteArray) (hlen:l.length+s.size<=137438953472):o5 55 [.ptr 0 0,vs s] (a17 l) (λres os=>res=[vi .i64 (s.size:Nat),.d (.sc .nilIface)]/\os=a17 (l++I5 s)):=by
 refine⟨a3o,λI w g args hrel=>?_⟩;obtain⟨b,us,t,hg,hb,hcs,h1,hI,hM⟩:=hrel.obj 0 _ rfl;obtain⟨usr,hown,hrl,hdr,hbk⟩:=hrel.obj 1 _ rfl;rw[b2h,a4y] at hown;obtain⟨u,us',rfl,hu,hus⟩:=j2.uncons (show j2 I w g args [.ptr 0 0,vs s] from hrel.tmp);obtain⟨us1,us2,rfl,hu1,hus2⟩:=hus.uncons;obtain rfl:=hus2.unnil;obtain⟨b',hg',rfl⟩:=hu.unptr;obtain rfl:=a8o (hg.symm.trans hg');obtain rfl:us1=.string s:=by cases hu1 with|d hd=>cases hd;rfl
 obtain⟨u0,us0,rfl,hu0,hu0s⟩:=hcs.uncons;obtain⟨v0,us0',rfl,hv0,hv0s⟩:=hu0s.uncons;obtain rfl:=hv0s.unnil;obtain⟨b2,hg2,rfl⟩:=hu0.unptr;obtain rfl:=a8o (hg.symm.trans hg2);obtain rfl:v0=g 1:=hv0.unown.1.trans (a2D hown)
 have hne:(g 1).ownBlock≠some b:=λe=>by
  have h2:P0 (g 1) b:=(a0W hown).2 e;have h3:P0 (g 0) b:=by rw[hg];rfl
  have:=hrel.dis 0 1 b ⟨_,rfl,by simp⟩ ⟨_,rfl,by simp⟩ h3 h2;omega
 refine(c2C b t.1 l.length _ (g 1) usr s w hb (by simp) (by simp) hown hne hlen).mono ?_
 rintro e w' ⟨v',w1,rfl,hown',hsp,hb1,rfl⟩
 have hys:=b85 (I5 s);have hl2:(rU (I5 s)).length=s.size:=by rw[a4y,B3]
 obtain⟨I',g',hgv,h2⟩:=hrel.appended (k:=1) (z:=false) (e:=5) (xs:=rU l) (ys:=rU (I5 s)) rfl (by rw[b2h,a4y];exact hown) (λr hr=>hys r hr) (a8n s) (v':=v') (w':=w1) (by rw[b2h,a4y,hl2];exact hown') hsp
 have hp0:g' 0=.pointer (some ⟨b,0,none⟩):=by
  have:=h2.st 0 (by show 0<2;omega) (by show J9 (g 0)=true;rw[hg];rfl);rw[this];exact hg
 obtain⟨A',c',hv'⟩:=N0 hown';have hpv:j2 I' w1 g' [v'] [V.own 1]:=.cons (by rw[hv'];exact .own _ _ _ _ (by rw[hgv,hv'];rfl)) (.nil I' w1 g');obtain⟨b3,us3,t3,hg3,hb3,hlen3,h3⟩:=h2.store (k:=0) (n:=1) (cs:=[.ptr 0 0,.jk]) (ds:=[.own 1]) (r:=[.ptr 0 0,.own 1]) (vs:=[v']) rfl hpv (by intro u hu;simp at hu;subst hu;rw[hv'];rfl) rfl;obtain rfl:=a8o (hp0.symm.trans hg3);rw[hb1] at hb3;injection hb3 with hb3;injection hb3 with e1 e2 _
 have e3:us3=[.pointer (some ⟨b,0,none⟩),g 1]++t.2:=by
  have:=congrArg Array.toList e1
  simpa using this.symm
 have e4:w1.setCell ⟨b,1,none⟩ v'=w1.setRow b (us3.take 1++[v']++us3.drop (1+1)).toArray:=by
  rw[setCell_eq_setRow w1 b 1 _ t.1 (0,0) _ hb1,e3]
  congr 1
 rw[e4];refine⟨[.int .i64 (s.size:Nat),.nilIface],[vi .i64 (s.size:Nat),.d (.sc .nilIface)],_,I',g',rfl,⟨rfl,?_⟩,⟨h3.im,h3.lt,h3.fr,h3.kp,h3.lo,h3.st,h3.obj,h3.dis,h3.out,?_,rfl,h3.dfr.2⟩⟩
 ·unfold a17;rw[b84];rfl
 ·exact .cons (.d (.sc _ rfl)) (.cons (.d (.sc _ rfl)) (.nil _ _ _))
def c0d (T:Nat):Prop:=liesAt Tryd.prog Tryd.prog.depth T (2 / Tryd.prog.cellsOf T) 0 59 1=true
theorem b86 (T:Nat) (hT:c0d T) (s:ByteArray) (hlen:s.size<=137438953472):o5 55 [.ptr 0 0,vs s] [b2f T] (λres os=>res=[vi .i64 (s.size:Nat),.d (.sc .nilIface)]/\os=a17 (I5 s)):=by
 refine⟨a3o,λI w g args hrel=>?_⟩;obtain⟨b,hg,hb,hI,hM⟩:=hrel.obj 0 _ rfl;obtain⟨u,us',rfl,hu,hus⟩:=j2.uncons (show j2 I w g args [.ptr 0 0,vs s] from hrel.tmp);obtain⟨us1,us2,rfl,hu1,hus2⟩:=hus.uncons;obtain rfl:=hus2.unnil;obtain⟨b',hg',rfl⟩:=hu.unptr;obtain rfl:=a8o (hg.symm.trans hg');obtain rfl:us1=.string s:=by cases hu1 with|d hd=>cases hd;rfl
 refine(c2D b T hT s w hb hlen).mono ?_
 rintro e w' ⟨v',w1,rfl,hown',hsp,hb1,rfl⟩
 have hu2:=hrel.unob (k:=0) (T:=T) (us:=[.pointer none,.slice none 0 0]) rfl rfl;have hp:j2 I w g [.pointer (some ⟨b,0,none⟩)] [V.ptr 0 0]:=.cons (.ptr 0 0 b hg) (.nil I w g);obtain⟨b2,us2,t2,hg2,hb2,hlen2,h0⟩:=hu2.store (k:=0) (n:=0) (cs:=[.d (.sc (.pointer none)),.em]) (ds:=[.ptr 0 0]) (r:=[.ptr 0 0,.em]) (vs:=[.pointer (some ⟨b,0,none⟩)]) rfl hp (by simp[Value.oneCell']) rfl;obtain rfl:=a8o (hg.symm.trans hg2);rw[hb] at hb2;injection hb2 with hb2;injection hb2 with e1 e2 _
 have e3:us2=[.pointer none,.slice none 0 0]:=by
  have:=congrArg Array.toList e1
  simpa using this.symm
 subst e3
 have e4:w.setCell ⟨b,0,none⟩ (.pointer (some ⟨b,0,none⟩))=w.setRow b ([Value.pointer none,.slice none 0 0].take 0++[Value.pointer (some ⟨b,0,none⟩)]++[Value.pointer none,.slice none 0 0].drop (0+1)).toArray:=by
  rw[setCell_eq_setRow w b 0 _ T (0,0) _ hb];rfl
 have h00:RelI I (Xof g [b2f T]) ⟨w,g,[b2f T].length,[]⟩ I g ⟨[V.ptr 0 0,vs s],[O.box [.ptr 0 0,.em]]⟩ { tmps:=[Value.pointer (some ⟨b,0,none⟩),.string s].toArray,defers:=[] } (w.setCell ⟨b,0,none⟩ (.pointer (some ⟨b,0,none⟩))):=by rw[e4];exact h0
 clear h0 e4;generalize w.setCell ⟨b,0,none⟩ (.pointer (some ⟨b,0,none⟩))=wz at hsp h00;have h1:=h00.newObj (.row false 5 []) (.slice none 0 0) ⟨[],by rw[i7];exact World.ownsRow_nil wz 0 _ _,by simp,s9.nil I wz,λb hb=>by rw[i7] at hb;cases hb⟩ (λj b _ _ hb=>by cases hb);have hys:=b85 (I5 s);have hl2:(rU (I5 s)).length=s.size:=by rw[a4y,B3]
 obtain⟨I',g',hgv,h2⟩:=h1.appended (k:=1) (z:=false) (e:=5) (xs:=[]) (ys:=rU (I5 s)) (us:=[]) rfl (by rw[show upd g [O.box [V.ptr 0 0,V.em]].length (Value.slice none 0 0) 1=.slice none 0 0 from i7 ..];exact World.ownsRow_nil wz 0 _ _) (λr hr=>hys r hr) (a8n s) (v':=v') (w':=w1) (by rw[b2h,hl2];simpa using hown') (by rw[show upd g [O.box [V.ptr 0 0,V.em]].length (Value.slice none 0 0) 1=.slice none 0 0 from i7 ..];exact hsp)
 have hp0:g' 0=.pointer (some ⟨b,0,none⟩):=by
  have:=h2.st 0 (by show 0<1;omega) (by show J9 (g 0)=true;rw[hg];rfl);rw[this];exact hg
 obtain⟨A',c',hv'⟩:=N0 hown';have hpv:j2 I' w1 g' [v'] [V.own 1]:=.cons (by rw[hv'];exact .own _ _ _ _ (by rw[hgv,hv'];rfl)) (.nil I' w1 g');obtain⟨b3,us3,t3,hg3,hb3,hlen3,h3⟩:=h2.store (k:=0) (n:=1) (cs:=[.ptr 0 0,.em]) (ds:=[.own 1]) (r:=[.ptr 0 0,.own 1]) (vs:=[v']) rfl hpv (by intro u hu;simp at hu;subst hu;rw[hv'];rfl) rfl;obtain rfl:=a8o (hp0.symm.trans hg3);rw[hb1] at hb3;injection hb3 with hb3;injection hb3 with f1 f2 _
 have f3:us3=[.pointer (some ⟨b,0,none⟩),.slice none 0 0]:=by
  have:=congrArg Array.toList f1
  simpa using this.symm
 have f4:w1.setCell ⟨b,1,none⟩ v'=w1.setRow b (us3.take 1++[v']++us3.drop (1+1)).toArray:=by
  rw[setCell_eq_setRow w1 b 1 _ T (0,0) _ hb1,f3]
  congr 1
 rw[f4];refine⟨[.int .i64 (s.size:Nat),.nilIface],[vi .i64 (s.size:Nat),.d (.sc .nilIface)],_,I',g',rfl,⟨rfl,?_⟩,⟨h3.im,h3.lt,h3.fr,h3.kp,h3.lo,h3.st,h3.obj,h3.dis,h3.out,?_,rfl,h3.dfr.2⟩⟩
 ·rfl
 ·exact .cons (.d (.sc _ rfl)) (.cons (.d (.sc _ rfl)) (.nil _ _ _))
theorem a2v (l:List UInt8) (c:UInt8) (hlen:l.length+1<=137438953472):o5 56 [.ptr 0 0,vi .u8 (c.toNat:Int)] (a17 l) (λres os=>res=[.d (.sc .nilIface)]/\os=a17 (l++[c])):=by
 unfold a17;rw[b84,show rU [c]=[[.sc (.int .u8 (c.toNat:Int))]] from rfl];have hll:=a4y l;generalize rU l=L at *;have hcc:=c2B (.own 1) [.row false 5 L];obtain⟨ci,hci⟩:∃ci,ci=(c.toNat:Int):=⟨_,rfl⟩;rw[<-hci];refine so9 Tryd.func56 rfl ?_;intros;rename_i hA;obtain⟨r1,r2,r3,r4⟩:=m8 hA
 try cbv;refine gr ?_;try simp only[nc] at *
 refine d7 hA [0,1] hcc ⟨rfl,rfl,rfl,rfl,rfl,rfl,rfl⟩ ?_
 rintro _ _ ⟨rfl,rfl⟩
 iterate 2 (try cbv;repeat ((first|with_reducible apply b6 hA|refine z6 hA true ?_|(refine w8 hA (by simp only[c3C,c3H];omega) ?_));cbv))
 try simp (maxSteps:=4000000) only [nc] at *
 rw[r4];exact i6 hA [0,1] ⟨rfl,rfl,rfl,rfl,rfl,rfl,rfl,rfl⟩ ⟨rfl,rfl⟩
theorem b5g (T:Nat) (hT:c0d T) (c:UInt8):o5 56 [.ptr 0 0,vi .u8 (c.toNat:Int)] [b2f T] (λres os=>res=[.d (.sc .nilIface)]/\os=a17 [c]):=by
 unfold a17;rw[show rU [c]=[[.sc (.int .u8 (c.toNat:Int))]] from rfl];have hcc:=c2A T hT;unfold b2f at *;obtain⟨ci,hci⟩:∃ci,ci=(c.toNat:Int):=⟨_,rfl⟩;rw[<-hci];refine so9 Tryd.func56 rfl ?_;intros;rename_i hA;obtain⟨r1,r2,r3,r4⟩:=m8 hA
 try cbv;refine gr ?_;try simp only[nc] at *
 refine d7 hA [0] hcc ⟨rfl,rfl,rfl,rfl,rfl,rfl,rfl⟩ ?_
 rintro _ _ ⟨rfl,rfl⟩
 iterate 2 (try cbv;repeat ((first|with_reducible apply b6 hA|refine z6 hA true ?_|refine b7w hA false ?_|(refine w8 hA (by simp only[c3C,c3H];omega) ?_));cbv))
 try simp (maxSteps:=4000000) only [nc] at *
 exact i6 hA [0,1] ⟨rfl,rfl,rfl,rfl,rfl,rfl,rfl,rfl⟩ ⟨rfl,rfl⟩
section
section
variable {I0:Nat->Nat->Prop} {X:Nat->Prop} {w0:W0} {I:Nat->Nat->Prop} {g:Nat->Value} {s:S} {a:Act} {w:World}
theorem a0j {s:S} {k:Nat} {j:Nat} (h:B1 ⟨s.t,s.o.set k .dead⟩ j):j≠k/\B1 s j:=by
 obtain⟨o,ho,hd⟩:=h
 by_cases e:k=j
 ·subst e;simp only at ho;have hlt:=(c35.1 ho).1;rw[c3N] at hlt;rw[c3V hlt] at ho;cases ho;exact absurd rfl hd
 ·simp only[c3O e] at ho;exact⟨c4W e,o,ho,hd⟩
theorem RelI.dead (h:RelI I0 X w0 I g s a w) (k:Nat):RelI I0 X w0 I g ⟨s.t,s.o.set k .dead⟩ a w:=by
 refine⟨h.im,h.lt,h.fr,h.kp,by simp only[c3N];exact h.lo,h.st,λi o ho=>?_,λi j b hi hj=>h.dis i j b (a0j hi).2 (a0j hj).2,λi hi=>h.out i (by simpa using hi),h.tmp,h.dfr⟩
 by_cases hd:o=.dead
 ·subst hd;exact True.intro
 ·have h1:=a0j (s:=s) (k:=k) ⟨o,ho,hd⟩;simp only[c3O (c4W h1.1)] at ho;exact h.obj i o ho
theorem RelI.deadTo (h:RelI I0 X w0 I g s a w) {k:Nat} {o:O} (hk:s.o[k]?=some o) (hd:o≠.dead) {w':World} {b:Nat} (hb:P0 (g k) b) (hos:w'.os=w.os) (htp:w'.tape=w.tape) (hou:w'.output=w.output) (hsz:w'.heap.size=w.heap.size)
  (hoth:∀c,c≠b->w'.heap[c]?=w.heap[c]?) (hcell:∀i,w'.cell? ⟨b,i,none⟩=w.cell? ⟨b,i,none⟩):RelI I0 X w0 I g ⟨s.t,s.o.set k .dead⟩ a w':=by
 have hm:=(h.obj k o hk).blk hd b hb
 have hkp:o6 I w w':=λb' n hb' i hi=>by
  by_cases e:b'=b
  ·subst e;exact hcell i
  ·exact a2C (hoth b' e) i
 refine⟨h.im,λb' n hb'=>by rw[hsz];exact h.lt b' n hb',⟨hos.trans h.fr.os,htp.trans h.fr.tape,hou.trans h.fr.output,by rw[hsz];exact h.fr.size,λb' hb' hX=>?_⟩,h.kp.trans λb' n hb' i hi=>hkp b' n (h.im b' n hb') i hi,by simp only[c3N];exact h.lo,h.st,λi x hx=>?_,λi j b hi hj=>h.dis i j b (a0j hi).2 (a0j hj).2,λi hi=>h.out i (by simpa using hi),h.tmp.mono (λ_ _ h=>h) hkp,h.dfr⟩
 ·rw[hoth b' λe=>?_]
  ·exact h.fr.block b' hb' hX
  ·subst e
   rcases hm.2 with h1|h1
   ·omega
   ·exact hX h1
 ·by_cases hxd:x=.dead
  ·subst hxd;exact True.intro
  ·have h1:=a0j (s:=s) (k:=k) ⟨x,hx,hxd⟩;simp only[c3O (c4W h1.1)] at hx;refine(h.obj i x hx).keep (λ_ _ h=>h) hkp (λb' hb'=>hoth b' λe=>?_) λ_ _ _ h=>h
   subst e;exact h1.1 (h.dis i k b' ⟨x,hx,hxd⟩ ⟨o,hk,hd⟩ hb' hb)
end
theorem b2i {w:World} {b T n:Nat} {cur:Array Value} (hn:n≠0) (h:w.heap[b]?=some (.cells cur T (0,0))):(w.freeze ⟨b,0,none⟩ n).heap[b]?=some (.cells cur T (0,n)):=by
 unfold World.freeze;rw[c3G hn];have hlt:=(c3L.1 h).1;simp only[c5z,c5O,h]
 simp
theorem b0z {w:World} {b n c:Nat} (hc:c≠b):(w.freeze ⟨b,0,none⟩ n).heap[c]?=w.heap[c]?:=by
 unfold World.freeze
 split
 ·rfl
 ·simp only[c5z];rw[c3G (c4W hc)]
theorem b2j (w:World) (b n:Nat):(w.freeze ⟨b,0,none⟩ n).os=w.os/\(w.freeze ⟨b,0,none⟩ n).tape=w.tape/\(w.freeze ⟨b,0,none⟩ n).output=w.output/\(w.freeze ⟨b,0,none⟩ n).heap.size=w.heap.size:=by
 unfold World.freeze
 split
 ·exact⟨rfl,rfl,rfl,rfl⟩
 ·exact⟨rfl,rfl,rfl,by simp⟩
theorem b6t:a0X Tryd.prog 32=true:=by kernel_rfl
theorem c2E (b T gb cap:Nat) (cur gc:Array Value) (l:List UInt8) (h0:l≠[]) (w:World) (hb:w.heap[b]?=some (.cells cur T (0,0))) (k1:cur[1]?=some (.slice (some ⟨gb,0,none⟩) l.length cap)) (hg:w.heap[gb]?=some (.cells gc 5 (0,0))) (hcap:l.length<=cap) (hcm:cap<=maxLen) (hcs:gc.size=cap)
  (hcells:∀(j:Nat) (x:UInt8),l[j]?=some x->gc[j]?=some (Value.int .u8 x.toNat)) :
  Calls Tryd.prog 32 #[.pointer (some ⟨b,0,none⟩)] w λe w'=>e=.returned (.string ⟨l.toArray⟩)/\w'=w.drew.freeze ⟨gb,0,none⟩ l.length:=by
 have hl0:l.length≠0:=by simpa using h0
 have c1:w.drew.cell? ⟨b,1,none⟩=some (.slice (some ⟨gb,0,none⟩) l.length cap):=by
  have:w.drew.heap[b]?=some (.cells cur T (0,0)):=hb;rw[G4 this];exact k1
 have hSD:(Builtin.unsafeSliceData_ #[57] 88 #[.slice (some ⟨gb,0,none⟩) l.length cap]).run Tryd.prog w.drew=.ok (.pointer (some ⟨gb,0,none⟩)) w.drew :=
  Lib.run_unsafeSliceData_row _ _ _ _ _ _ (by omega)
 have hUS:(Builtin.unsafeString_ #[88,3] 9 #[.pointer (some ⟨gb,0,none⟩),.int .i64 l.length]).run Tryd.prog w.drew=.ok (.string ⟨l.toArray⟩) (w.drew.freeze ⟨gb,0,none⟩ l.length):=by
  refine Lib.run_unsafeString_row w.drew 88 3 9 5 Tryd.underlying88 (by kernel_rfl) gb gc.size (by have hg':w.drew.heap[gb]?=some (.cells gc 5 (0,0)):=hg;simp[World.shape?,hg']) l h0 (by omega) (by unfold maxLen at hcm;omega) ?_;intro j x hx;have hg':w.drew.heap[gb]?=some (.cells gc 5 (0,0)):=hg;rw[Addr.add_lit,c4z,G4 hg'];exact hcells j x hx
 clear hb k1 hg hcap hcm hcs hcells h0
 go_enter Tryd.func32,Tryd.ntmps32
 go_wp2
 go_region
 all_goals (go_wp2;go_ret;exact⟨rfl,rfl⟩)
theorem c2F (b T:Nat) (cur:Array Value) (w:World) (hb:w.heap[b]?=some (.cells cur T (0,0))) (k1:cur[1]?=some (.slice none 0 0)) :
  Calls Tryd.prog 32 #[.pointer (some ⟨b,0,none⟩)] w λe w'=>e=.returned (.string ⟨#[]⟩)/\w'=w.drew:=by
 have c1:w.drew.cell? ⟨b,1,none⟩=some (.slice none 0 0):=by
  have:w.drew.heap[b]?=some (.cells cur T (0,0)):=hb;rw[G4 this];exact k1
 have hSD:(Builtin.unsafeSliceData_ #[57] 88 #[.slice none 0 0]).run Tryd.prog w.drew=.ok (.pointer none) w.drew:=rfl;have hUS:(Builtin.unsafeString_ #[88,3] 9 #[.pointer none,.int .i64 0]).run Tryd.prog w.drew=.ok (.string .empty) w.drew:=Lib.run_unsafeString_none w.drew _ _ _ none;clear hb k1
 go_enter Tryd.func32,Tryd.ntmps32
 go_wp2
 go_region
 all_goals (go_wp2;go_ret;exact⟨rfl,rfl⟩)
theorem c2G (b T gb cap:Nat) (hc0:cap≠0) (cur:Array Value) (w:World) (hb:w.heap[b]?=some (.cells cur T (0,0))) (k1:cur[1]?=some (.slice (some ⟨gb,0,none⟩) 0 cap)) :
  Calls Tryd.prog 32 #[.pointer (some ⟨b,0,none⟩)] w λe w'=>e=.returned (.string ⟨#[]⟩)/\w'=w.drew:=by
 have c1:w.drew.cell? ⟨b,1,none⟩=some (.slice (some ⟨gb,0,none⟩) 0 cap):=by
  have:w.drew.heap[b]?=some (.cells cur T (0,0)):=hb;rw[G4 this];exact k1
 have hSD:(Builtin.unsafeSliceData_ #[57] 88 #[.slice (some ⟨gb,0,none⟩) 0 cap]).run Tryd.prog w.drew=.ok (.pointer (some ⟨gb,0,none⟩)) w.drew:=Lib.run_unsafeSliceData_row _ _ _ _ _ _ hc0;have hUS:(Builtin.unsafeString_ #[88,3] 9 #[.pointer (some ⟨gb,0,none⟩),.int .i64 0]).run Tryd.prog w.drew=.ok (.string .empty) w.drew:=Lib.run_unsafeString_none w.drew _ _ _ _;clear hb k1 hc0
 go_enter Tryd.func32,Tryd.ntmps32
 go_wp2
 go_region
 all_goals (go_wp2;go_ret;exact⟨rfl,rfl⟩)
theorem c2H (b T gb:Nat) (cur gc:Array Value) (w:World) (hb:w.heap[b]?=some (.cells cur T (0,0))) (k1:cur[1]?=some (.slice (some ⟨gb,0,none⟩) 0 0)) (hg:w.heap[gb]?=some (.cells gc 5 (0,0))) :
  Calls Tryd.prog 32 #[.pointer (some ⟨b,0,none⟩)] w λe w'=>e=.returned (.string ⟨#[]⟩)/\w'=w.drew.alloc (.view ⟨gb,0,none⟩ 5):=by
 have hlt:b<w.heap.size:=by
  rcases c4q b w.heap.size with h'|h'
  ·exact h'
  ·simp[c4Q h'] at hb
 have c1:w.drew.cell? ⟨b,1,none⟩=some (.slice (some ⟨gb,0,none⟩) 0 0):=by
  have:w.drew.heap[b]?=some (.cells cur T (0,0)):=hb;rw[G4 this];exact k1
 have hSD:(Builtin.unsafeSliceData_ #[57] 88 #[.slice (some ⟨gb,0,none⟩) 0 0]).run Tryd.prog w.drew=.ok (.pointer (some ⟨w.drew.heap.size,0,none⟩)) (w.drew.alloc (.view ⟨gb,0,none⟩ 5)) :=
  Lib.run_unsafeSliceData_zero w.drew _ _ 5 Tryd.underlying88 ⟨gb,0,none⟩ 0 (5,gc.size) (by have hg':w.drew.heap[gb]?=some (.cells gc 5 (0,0)):=hg;simp[World.shape?,hg'])
 have hb2:(w.drew.alloc (.view ⟨gb,0,none⟩ 5)).heap[b]?=some (.cells cur T (0,0)):=(Lib.alloc_old w.drew _ b hlt).trans hb
 have c2:(w.drew.alloc (.view ⟨gb,0,none⟩ 5)).cell? ⟨b,1,none⟩=some (.slice (some ⟨gb,0,none⟩) 0 0):=by
  rw[G4 hb2];exact k1
 have c3:(w.alloc (.view ⟨gb,0,none⟩ 5)).drew.cell? ⟨b,1,none⟩=some (.slice (some ⟨gb,0,none⟩) 0 0):=c2;have c0:w.cell? ⟨b,1,none⟩=some (.slice (some ⟨gb,0,none⟩) 0 0):=c1;have hUS:∀W:World,∀q,(Builtin.unsafeString_ #[88,3] 9 #[.pointer q,.int .i64 0]).run Tryd.prog W=.ok (.string .empty) W:=λW q=>Lib.run_unsafeString_none W _ _ _ q
 clear hb k1 hb2 hg
 go_enter Tryd.func32,Tryd.ntmps32
 go_wp2
 go_region
 all_goals (go_wp2;go_ret;exact⟨rfl,rfl⟩)
theorem a9x {I:Nat->Nat->Prop} {w:World}:∀(l:List UInt8) {us:List Value},s9 I w us (rU l).flatten->us=l.map λc=>Value.int .u8 c.toNat
 | [],us,h=>by
  have:=h.1
  simp[rU] at this
  exact this
 | c::l,us,h=>by
  obtain⟨u,us',rfl,h1,h2⟩:=s9.uncons (show s9 I w us (.sc (.int .u8 (c.toNat:Int))::(rU l).flatten) from h);rw[a9x l h2];cases h1;rfl
theorem c2I (l:List UInt8):o5 32 [.ptr 0 0] (a17 l) (λres os=>res=[vs ⟨l.toArray⟩]/\os=[.dead,.dead]):=by
 refine⟨b6t,λI w g args hrel=>?_⟩;obtain⟨b,us,t,hg,hb,hcs,h1,hI,hM⟩:=hrel.obj 0 _ rfl;obtain⟨usr,hown,hrl,hdr,hbk⟩:=hrel.obj 1 _ rfl;rw[b2h,a4y] at hown;obtain⟨u,us',rfl,hu,hus⟩:=j2.uncons (show j2 I w g args [.ptr 0 0] from hrel.tmp);obtain rfl:=hus.unnil;obtain⟨b',hg',rfl⟩:=hu.unptr;obtain rfl:=a8o (hg.symm.trans hg');obtain⟨u0,us0,rfl,hu0,hu0s⟩:=hcs.uncons;obtain⟨v0,us0',rfl,hv0,hv0s⟩:=hu0s.uncons;obtain rfl:=hv0s.unnil;obtain rfl:v0=g 1:=hv0.unown.1.trans (a2D hown);have hur:=a9x l hdr;subst hur;have hd:=hrel.drew
 have fin:∀ {w':World} {I':Nat->Nat->Prop} {o0 o1:O},RelI I (Xof g (a17 l)) ⟨w,g,(a17 l).length,[]⟩ I' g ⟨[V.ptr 0 0],[o0,o1]⟩ { tmps:=[Value.pointer (some ⟨b,0,none⟩)].toArray,defers:=[] } w' ->
   ∃us res os2 I' g',Ending.returned (Value.string ⟨l.toArray⟩)=.returned (pkg us)/\(res=[vs ⟨l.toArray⟩]/\os2=[O.dead,.dead])/\RelI I (Xof g (a17 l)) ⟨w,g,(a17 l).length,[]⟩ I' g' ⟨res,os2⟩ { tmps:=us.toArray,defers:=[] } w':=λ{w'} {I'} {o0} {o1} h=>by
  have h2:=(h.dead 0).dead 1;exact⟨[.string ⟨l.toArray⟩],_,_,I',g,rfl,⟨rfl,rfl⟩,⟨h2.im,h2.lt,h2.fr,h2.kp,h2.lo,h2.st,h2.obj,h2.dis,h2.out,.cons (.d (.sc _ rfl)) (.nil _ _ _),rfl,h2.dfr.2⟩⟩
 by_cases hl:l=[]
 ·subst hl
  rcases hown.2 with⟨e0,_⟩|⟨gb,cap,cur,e0,_,hgc,_,_,_,_⟩
  ·refine(c2F b t.1 _ w hb (by rw[e0];simp)).mono ?_
   rintro e w' ⟨rfl,rfl⟩
   exact fin hd
  ·by_cases hc0:cap=0
   ·subst hc0;refine(c2H b t.1 gb _ cur w hb (by rw[e0];simp) hgc).mono ?_
    rintro e w' ⟨rfl,rfl⟩
    exact fin (hd.grow (I':=I) ((Below.refl _ _).alloc (c3A _) _) (λ_ _ h=>h) (λ_ _ h=>.inl h))
   ·refine(c2G b t.1 gb cap hc0 _ w hb (by rw[e0];simp)).mono ?_
    rintro e w' ⟨rfl,rfl⟩
    exact fin hd
 ·rcases hown.2 with⟨_,hz⟩|⟨gb,cap,cur,e0,_,hgc,hnc,hcm,hcs',htake⟩
  ·exact absurd (c3P hz) hl
  ·refine(c2E b t.1 gb cap _ cur l hl w hb (by rw[e0];simp) hgc hnc hcm (by simpa using hcs') λj x hx=>?_).mono ?_
   ·have h5:(cur.toList.take (l.length * 1))[j]?=some (Value.int .u8 x.toNat):=by
     rw[htake,c4j,hx];rfl
    rw[c4l] at h5
    split at h5
    ·simpa using h5
    ·cases h5
   rintro e w' ⟨rfl,rfl⟩
   obtain⟨f1,f2,f3,f4⟩:=b2j w.drew gb l.length;have hgb:P0 (g 1) gb:=by rw[e0];rfl
   have h2:=hd.deadTo (k:=1) (o:=.row false 5 (rU l)) rfl (by simp) (w':=w.drew.freeze ⟨gb,0,none⟩ l.length) hgb f1 f2 f3 f4 (λc hc=>b0z hc) λi=>by
    have hgd:w.drew.heap[gb]?=some (.cells cur 5 (0,0)):=hgc;have hn:l.length≠0:=λh=>hl (c3P h)
    have hfz:=b2i hn hgd;rw[G4 hgd];unfold World.cell?;rw[hfz]
    simp
   exact fin h2
end
end Go.Proofs.YtlofmibkljoapaaDoor.Vm
end
section
namespace Go.Proofs
open Go.Shelf
open Go.RowKit in
def Tryd.laysM171_ren:Go.Shelf.Ren:=⟨fun|171=>57|243=>76|246=>87|283=>91|284=>92|285=>93|286=>94|129=>98|317=>97|318=>99|319=>100|320=>101|337=>102|338=>103|n=>n,fun|3=>3|9=>9|2=>2|4=>4|171=>114|0=>0|53=>31|37=>57|5=>5|173=>117|212=>121|51=>122|20=>20|213=>123|46=>112|232=>127|233=>128|n=>n,fun|17=>1|18=>2|19=>3|n=>n⟩
theorem Tryd.laysM171:Go.Proofs.LaysM.n171 Tryd.prog Tryd.laysM171_ren:={
 mixed:=by kernel_rfl
 f129:=Tryd.func98.trans (congrArg some (by kernel_rfl))
 f171:=Tryd.func57.trans (congrArg some (by kernel_rfl))
 f243:=Tryd.func76.trans (congrArg some (by kernel_rfl))
 f246:=Tryd.func87.trans (congrArg some (by kernel_rfl))
 f283:=Tryd.func91.trans (congrArg some (by kernel_rfl))
 f284:=Tryd.func92.trans (congrArg some (by kernel_rfl))
 f285:=Tryd.func93.trans (congrArg some (by kernel_rfl))
 f286:=Tryd.func94.trans (congrArg some (by kernel_rfl))
 f317:=Tryd.func97.trans (congrArg some (by kernel_rfl))
 f318:=Tryd.func99.trans (congrArg some (by kernel_rfl))
 f319:=Tryd.func100.trans (congrArg some (by kernel_rfl))
 f320:=Tryd.func101.trans (congrArg some (by kernel_rfl))
 f337:=Tryd.func102.trans (congrArg some (by kernel_rfl))
 f338:=Tryd.func103.trans (congrArg some (by kernel_rfl))
 t0:=Tryd.underlying0
 a0:=Tryd.isAgg0
 z0:=Tryd.sizeOf0
 v0:=Tryd.zeroValue0
 t2:=Tryd.underlying2
 a2:=Tryd.isAgg2
 z2:=Tryd.sizeOf2
 v2:=Tryd.zeroValue2
 t3:=Tryd.underlying3
 a3:=Tryd.isAgg3
 z3:=Tryd.sizeOf3
 v3:=Tryd.zeroValue3
 t4:=Tryd.underlying4
 a4:=Tryd.isAgg4
 z4:=Tryd.sizeOf4
 v4:=Tryd.zeroValue4
 t5:=Tryd.underlying5
 a5:=Tryd.isAgg5
 z5:=Tryd.sizeOf5
 v5:=Tryd.zeroValue5
 t9:=Tryd.underlying9
 a9:=Tryd.isAgg9
 z9:=Tryd.sizeOf9
 v9:=Tryd.zeroValue9
 t20:=Tryd.underlying20
 a20:=Tryd.isAgg20
 z20:=Tryd.sizeOf20
 v20:=Tryd.zeroValue20
 t37:=Tryd.underlying57
 a37:=Tryd.isAgg57
 z37:=Tryd.sizeOf57
 v37:=Tryd.zeroValue57
 t46:=Tryd.underlying112
 a46:=Tryd.isAgg112
 z46:=Tryd.sizeOf112
 v46:=Tryd.zeroValue112
 t51:=Tryd.underlying122
 a51:=Tryd.isAgg122
 z51:=Tryd.sizeOf122
 v51:=Tryd.zeroValue122
 t53:=Tryd.underlying31
 a53:=Tryd.isAgg31
 z53:=Tryd.sizeOf31
 v53:=Tryd.zeroValue31
 t171:=Tryd.underlying114
 a171:=Tryd.isAgg114
 z171:=Tryd.sizeOf114
 v171:=Tryd.zeroValue114
 t173:=Tryd.underlying117
 a173:=Tryd.isAgg117
 z173:=Tryd.sizeOf117
 v173:=Tryd.zeroValue117
 t212:=Tryd.underlying121
 a212:=Tryd.isAgg121
 z212:=Tryd.sizeOf121
 v212:=Tryd.zeroValue121
 t213:=Tryd.underlying123
 a213:=Tryd.isAgg123
 z213:=Tryd.sizeOf123
 t232:=Tryd.underlying127
 a232:=Tryd.isAgg127
 z232:=Tryd.sizeOf127
 v232:=Tryd.zeroValue127
 t233:=Tryd.underlying128
 a233:=Tryd.isAgg128
 z233:=Tryd.sizeOf128
 v233:=Tryd.zeroValue128
 g17:=by kernel_rfl
 g18:=by kernel_rfl
 g19:=by kernel_rfl
 i0:=by kernel_rfl
 i2:=by kernel_rfl
 i3:=by kernel_rfl
 i4:=by kernel_rfl
 i5:=by kernel_rfl
 i9:=by kernel_rfl
 i20:=by kernel_rfl
 i37:=by kernel_rfl
 i46:=by kernel_rfl
 i51:=by kernel_rfl
 i53:=by kernel_rfl
 i171:=by kernel_rfl
 i173:=by kernel_rfl
 i212:=by kernel_rfl
 i232:=by kernel_rfl
 i233:=by kernel_rfl
 m17:=by kernel_rfl
 m18:=by kernel_rfl
 m19:=by kernel_rfl }
open Go.RowKit Go.Sort Go.Lib in
theorem Tryd.strconv_Itoa (n:Int) (h0:-9223372036854775808<=n) (h1:n<=9223372036854775807) (w:World) (htab:Lib.TabIs Tryd.prog w "internal/strconv.uint64pow10" .u64 Lib.pow10Tab) :
  Calls Tryd.prog 57 #[.int .i64 n] w λe w'=>e=.returned (.string ⟨(Lib.itoa n).toArray⟩)/\∃k os,w'=grow (w.drewN k) os:=Any.strconv_Itoa Tryd.laysM171 n h0 h1 w htab
end Go.Proofs
end
section
namespace Go.Proofs.YtlofmibkljoapaaDoor.Vm
open Go.RowKit
set_option maxRecDepth 100000
set_option maxHeartbeats 4000000
theorem b6u:("internal/strconv.uint64pow10",IntKind.u64,Lib.pow10Tab)∈tabsOf:=by
 rw[show Lib.pow10Tab=_ from(by decide:Lib.pow10Tab=[1,10,100,1000,10000,100000,1000000,10000000,100000000,1000000000,10000000000,100000000000,1000000000000,10000000000000,100000000000000,1000000000000000,10000000000000000,100000000000000000,1000000000000000000,10000000000000000000])];unfold tabsOf
 simp
theorem b3t (n:Int) (h0:-9223372036854775808<=n) (h1:n<=9223372036854775807):l6 57 [.one (.sc (.int .i64 n))] [.one (.sc (.string ⟨(Lib.itoa n).toArray⟩))]:=by
 refine⟨by kernel_rfl,λI w args hI hat=>?_⟩
 match args,hat with
 | [v1],⟨h2,_⟩ =>
  have h2:AtD I w v1 (.sc (.int .i64 n)):=h2;cases h2;refine(Tryd.strconv_Itoa n h0 h1 w (hI.2 _ b6u).1).mono ?_
  rintro e w' ⟨rfl,k,os,rfl⟩
  exact⟨_,rfl,.sc _ rfl,⟨rfl,rfl,rfl,by simp[Sort.grow,World.drewN],λk hk=>by simp[Sort.grow,World.drewN,Array.getElem?_append,hk]⟩⟩
theorem b2k {W:ByteArray->Bool} {t:Ty} {s:Int} (h:c8 W t s=true):∃k,y6 t.op=some k/\(decide (8<=t.op) == (s == 114))=true/\t.kids.length=k.length/\0<=t.n/\n6 W t.kids k=true:=by
 rw[a2W] at h;cases hk:y6 t.op with
 | none=>unfold a2V at h;rw[hk] at h;simp at h
 | some k =>
  unfold a2V at h;rw[hk] at h;simp only[c3D,c4T,c5N] at h;exact⟨k,rfl,h.1.1,h.1.2.1,h.1.2.2.2.1,h.2⟩
theorem H4 {W:ByteArray->Bool} {t:Ty} (h:c8 W t 116=true):0<=t.n/\(((t.op=1\/t.op=2\/t.op=3\/t.op=7)/\t.kids=[])\/(t.op=4/\∃a b,t.kids=[a,b]/\c8 W a 116=true/\c8 W b 116=true)\/((t.op=5\/t.op=6)/\∃a,t.kids=[a]/\c8 W a 114=true)):=by
 obtain⟨k,hk,h1,h2,h3,h4⟩:=b2k h;refine⟨h3,?_⟩;have h1:¬8<=t.op:=λh8=>by rw[c3K h8] at h1;exact absurd h1 (by decide)
 unfold y6 at hk
 split at hk
 ·rename_i ho;injection hk with hk;subst hk
  exact .inl ⟨by omega,c3P h2⟩
 ·split at hk
  ·rename_i ho;injection hk with hk;subst hk
   match t.kids,h2,h4 with
   | [a,b],_,h4=>simp only[n6,c3D] at h4;exact .inr (.inl ⟨ho,a,b,rfl,h4.1,h4.2.1⟩)
  ·split at hk
   ·rename_i ho;injection hk with hk;subst hk
    match t.kids,h2,h4 with
    | [a],_,h4=>simp only[n6,c3D] at h4;exact .inr (.inr ⟨ho,a,rfl,h4.1⟩)
   ·split at hk
    ·omega
    ·cases hk
theorem M9 {W:ByteArray->Bool} {t:Ty} (h:c8 W t 114=true):0<=t.n/\(((t.op=8\/t.op=9\/t.op=10)/\t.kids=[])\/(t.op=11/\∃a b,t.kids=[a,b]/\c8 W a 116=true/\c8 W b 114=true)):=by
 obtain⟨k,hk,h1,h2,h3,h4⟩:=b2k h;refine⟨h3,?_⟩
 have h1:8<=t.op:=by
  by_cases h8:8<=t.op
  ·exact h8
  ·rw[c3I h8] at h1;exact absurd h1 (by decide)
 unfold y6 at hk
 split at hk
 ·rename_i ho;injection hk with hk;subst hk
  exact .inl ⟨by omega,c3P h2⟩
 ·split at hk
  ·omega
  ·split at hk
   ·omega
   ·split at hk
    ·rename_i ho;injection hk with hk;subst hk
     match t.kids,h2,h4 with
     | [a,b],_,h4=>simp only[n6,c3D] at h4;exact .inr ⟨ho,a,b,rfl,h4.1,h4.2.1⟩
    ·cases hk
def J5 (g:Ty->List UInt8):Bool->List (ByteArray×Ty)->List UInt8
 | _,[]=>[]
 | first,f::fs=>(if first=true then [] else [44])++(f.1.data.toList++(58::(g f.2++J5 g false fs)))
def N3 (t:Ty):List UInt8:=if t.op=9 then [124,63] else if t.op=10 then 124::39::Lib.itoa t.n else []
def A5 (g:Ty->List UInt8) (t:Ty):List UInt8:=J5 g true (c6 t)++N3 (f7 t)
def z7 (g:Ty->List UInt8) (t:Ty):List UInt8:=if t.op=4 then 40::(g t++[41]) else g t
def a1z (g:Ty->List UInt8) (t:Ty):List UInt8 :=
 if t.op=1 then [73,110,116] else if t.op=2 then [66,111,111,108] else if t.op=3 then [63] else if t.op=7 then 39::Lib.itoa t.n else
 if t.op=5 then (match t.kids with|[a]=>123::(A5 g a++[125])|_=>[]) else if t.op=6 then (match t.kids with|[a]=>60::(A5 g a++[62])|_=>[]) else
 if t.op=4 then (match t.kids with|[a,b]=>z7 g a++(45::62::g b)|_=>[]) else []
def b3u:Nat->Ty->List UInt8
 | 0,_=>[]
 | m+1,t=>a1z (b3u m) t
def d8 (t:Ty):List UInt8:=b3u t.parts.length t
theorem a8p {g g':Ty->List UInt8}:∀(fs:List (ByteArray×Ty)) (b:Bool),(∀f∈fs,g f.2=g' f.2)->J5 g b fs=J5 g' b fs
 | [],_,_=>rfl
 | f::fs,b,h=>by rw[J5,J5,h f (c38 ..),a8p fs false λx hx=>h x (c36 _ hx)]
theorem b3v {g g':Ty->List UInt8} (t:Ty) (h:∀x:Ty,x.parts.length<t.parts.length->g x=g' x):A5 g t=A5 g' t:=by
 unfold A5;rw[a8p _ true λf hf=>h f.2 (A1 _ t (c3A _) f hf)]
theorem a6z {g g':Ty->List UInt8} (t:Ty) (h:∀x:Ty,x.parts.length<t.parts.length->g x=g' x):a1z g t=a1z g' t:=by
 have hkl:=m9 t;unfold a1z
 match hk:t.kids with
 | []=>rfl
 | [a] =>
  have h1:=hkl.2 a (by rw[hk];simp);dsimp only;rw[b3v a λx hx=>h x (by omega)]
 | [a,b] =>
  have h1:=hkl.2 a (by rw[hk];simp);have h2:=hkl.2 b (by rw[hk];simp);dsimp only;unfold z7;rw[h a (by omega),h b (by omega)]
 | a::b::c::l=>rfl
theorem b2l:∀(n m:Nat) (t:Ty),t.parts.length<=n->t.parts.length<=m->b3u n t=b3u m t
 | 0,_,t,h,_=>by have:=j5 t;omega
 | _+1,0,t,_,h=>by have:=j5 t;omega
 | n+1,m+1,t,h1,h2=>by rw[b3u,b3u];exact a6z t λx hx=>b2l n m x (by omega) (by omega)
theorem E5 (t:Ty):d8 t=a1z d8 t:=by
 unfold d8;have:=j5 t;obtain⟨m,hm⟩:∃m,t.parts.length=m+1:=⟨t.parts.length - 1,by omega⟩;rw[hm,b3u];exact a6z t λx hx=>b2l m _ x (by omega) (c3A _)
theorem b00 {g:Ty->List UInt8} (b:Bool) {t x y:Ty} (ho:t.op=11) (hk:t.kids=[x,y]):J5 g b (c6 t)++N3 (f7 t)=(if b=true then [] else [44])++(t.name.data.toList++(58::(g x++(J5 g false (c6 y)++N3 (f7 y))))):=by
 obtain⟨op,nm,n,ks⟩:=t;have ho:op=11:=ho;have hk:ks=[x,y]:=hk;subst ho;subst hk;rw[c6,c3E rfl,f7,c3E rfl,J5]
 simp[Ty.name]
section
section
variable {qa:IntKind->Int->Int} {qb:Int->Int->Int} {qc:Int->Int->Int} {qd:Int->Int->Int} {qe:Int->Int->Int} {qf:Int->Int->Int} {qg:BinOp->IntKind->Int->IntKind->Int->Option Int} {qh:Int->Int->Bool} {qi:Int->Int->Bool} {qj:Int->Int->Bool} {qk:Int->Prop->Prop} {ql:List UInt8->List UInt8->Bool} {qm:List UInt8->List UInt8->Bool} {qo:ByteArray->List UInt8} {qp:ByteArray->ByteArray->ByteArray} {qq:ByteArray->ByteArray->Prop->Prop} {qs:ByteArray->Int} {qt:ByteArray->Int->Option Int} {qu:ByteArray->Int->Int->Option ByteArray} {qv:List (List D)->Option ByteArray} {qw:ByteArray->List (List D)} {qx:Int->Nat->Option Nat} {qy:List (List D)->Int} {qz:List (List D)->Int->Option (List D)} {vc:List (List D)->Int->Int->Option (List (List D))} {vd:List (List D)->List (List D)->List (List D)} {ve:List (List D)->Int->List D->List (List D)} {vf:List (List D)->List (List D)->Prop->Prop} {vg:List (R×R)->R->Option R} {vh:List (R×R)->R->R->List (R×R)} {vj:List D->List D->Bool} {vk:Int->List D->(List (List D)->Prop)->Prop} {vl:Nat->List R->(List R->Prop)->Prop} {vp:Nat->List V->List O->(V->Prop)->Prop} {vq:Nat->List V->S->(V->S->Prop)->Prop} {vr:Nat->List V->List Nat->S->(V->S->Prop)->Prop} {vt:Nat->(Bool->Prop)->Prop} {vu:Nat->(Bool->Prop)->Prop} {vv:Nat->(List V->List O->Prop)->List V->S->Prop} {vw:(S->Prop)->S->Prop} {vx:Op->Option Nat->S->(S->Prop)->Prop} {vy:Array Oper->S->(S->Prop)->Prop} {vz:Code->(S->(X->S->Prop)->Prop)->S->(X->S->Prop)->Prop}
end
end
def WrU (f:Nat) (t:Ty) (out:List UInt8):Prop:=∀l:List UInt8,l.length+out.length<=137438953472->o5 f [.ptr 0 0,.ag (ofD (cT t))] (a17 l) (λres os=>res=[]/\os=a17 (l++out))
theorem d6 (l:List UInt8):a17 l=[.box [.ptr 0 0,.own 1],.row false 5 (rU l)]:=rfl
theorem a4z (t:Ty) (hop:t.op=1\/t.op=2\/t.op=3):WrU 31 t (d8 t):=by
 intro l hl;rw[E5] at hl ⊢;unfold a1z at hl ⊢;have c1:=a6y l ⟨#[73,110,116]⟩;have c2:=a6y l ⟨#[66,111,111,108]⟩;have c3:=a2v l 63;obtain⟨op,nm,n,ks⟩:=t;simp only[Ty.op] at hop hl ⊢;rw[cT];generalize rT ks=K
 rcases hop with rfl|rfl|rfl
 ·replace c1:=c1 (by rw[show (⟨#[73,110,116]⟩:ByteArray).size=3 from rfl];simpa using hl);show o5 _ _ _ (λres os=>res=[]/\os=a17 (l++I5 ⟨#[73,110,116]⟩));clear c2 c3;rw[d6] at *;rw[d6] at *;generalize rU (l++I5 ⟨#[73,110,116]⟩)=R1 at *;generalize rU l=R0 at *;clear hl;refine so9 Tryd.func31 rfl λqa qb qc qd qe qf qg qh qi qj qk ql qm qo qp qq qs qt qu qv qw qx qy qz vc vd ve vf vg vh vj vk vl vp vq vr vt vu vv vw vx vy vz hA=>?_
  obtain⟨e1,e2,e3,e4,e5,e6,e7,e8,e9⟩:=j3 hA;have h1:qj 1 1=true:=e9 _ _
  iterate 2 (try cbv;repeat ((first|with_reducible apply b6 hA|rw[h1]);cbv))
  try simp (maxSteps:=4000000) only [nc] at *
  refine d7 hA [0,1] c1 ⟨rfl,rfl,rfl,rfl,rfl,rfl,rfl⟩ ?_
  rintro _ _ ⟨rfl,rfl⟩
  iterate 2 (try cbv;repeat ((first|with_reducible apply b6 hA);cbv))
  try simp (maxSteps:=4000000) only [nc] at *
  exact i6 hA [0,1] ⟨rfl,rfl,rfl,rfl,rfl,rfl,rfl,rfl⟩ ⟨rfl,rfl⟩
 ·replace c2:=c2 (by rw[show (⟨#[66,111,111,108]⟩:ByteArray).size=4 from rfl];simpa using hl);show o5 _ _ _ (λres os=>res=[]/\os=a17 (l++I5 ⟨#[66,111,111,108]⟩));clear c1 c3;rw[d6] at *;rw[d6] at *;generalize rU (l++I5 ⟨#[66,111,111,108]⟩)=R1 at *;generalize rU l=R0 at *;clear hl;refine so9 Tryd.func31 rfl λqa qb qc qd qe qf qg qh qi qj qk ql qm qo qp qq qs qt qu qv qw qx qy qz vc vd ve vf vg vh vj vk vl vp vq vr vt vu vv vw vx vy vz hA=>?_
  obtain⟨e1,e2,e3,e4,e5,e6,e7,e8,e9⟩:=j3 hA;have h1:qj 2 1=false:=e9 _ _;have h2:qj 2 2=true:=e9 _ _
  iterate 2 (try cbv;repeat ((first|with_reducible apply b6 hA|rw[h1]|rw[h2]);cbv))
  try simp (maxSteps:=4000000) only [nc] at *
  refine d7 hA [0,1] c2 ⟨rfl,rfl,rfl,rfl,rfl,rfl,rfl⟩ ?_
  rintro _ _ ⟨rfl,rfl⟩
  iterate 2 (try cbv;repeat ((first|with_reducible apply b6 hA);cbv))
  try simp (maxSteps:=4000000) only [nc] at *
  exact i6 hA [0,1] ⟨rfl,rfl,rfl,rfl,rfl,rfl,rfl,rfl⟩ ⟨rfl,rfl⟩
 ·replace c3:=c3 (by simpa using hl);show o5 _ _ _ (λres os=>res=[]/\os=a17 (l++[63]));replace c3:o5 56 [.ptr 0 0,vi .u8 63] _ _:=c3;clear c1 c2;rw[d6] at *;rw[d6] at *;generalize rU (l++[63])=R1 at *;generalize rU l=R0 at *;clear hl;refine so9 Tryd.func31 rfl λqa qb qc qd qe qf qg qh qi qj qk ql qm qo qp qq qs qt qu qv qw qx qy qz vc vd ve vf vg vh vj vk vl vp vq vr vt vu vv vw vx vy vz hA=>?_
  obtain⟨e1,e2,e3,e4,e5,e6,e7,e8,e9⟩:=j3 hA;have h1:qj 3 1=false:=e9 _ _;have h2:qj 3 2=false:=e9 _ _;have h3:qj 3 3=true:=e9 _ _
  iterate 2 (try cbv;repeat ((first|with_reducible apply b6 hA|rw[h1]|rw[h2]|rw[h3]);cbv))
  try simp (maxSteps:=4000000) only [nc] at *
  refine d7 hA [0,1] c3 ⟨rfl,rfl,rfl,rfl,rfl,rfl,rfl⟩ ?_
  rintro _ _ ⟨rfl,rfl⟩
  iterate 2 (try cbv;repeat ((first|with_reducible apply b6 hA);cbv))
  try simp (maxSteps:=4000000) only [nc] at *
  exact i6 hA [0,1] ⟨rfl,rfl,rfl,rfl,rfl,rfl,rfl,rfl⟩ ⟨rfl,rfl⟩
theorem b6v (nm:ByteArray) (n:Int) (ks:List Ty) (h0:0<=n) (h1:n<=9223372036854775807):WrU 31 (.mk 7 nm n ks) (39::Lib.itoa n):=by
 intro l hl;have c1:=a6y l (⟨#[39]⟩++⟨(Lib.itoa n).toArray⟩);have hi:=b3t n (by omega) h1;have hb:I5 (⟨#[39]⟩++⟨(Lib.itoa n).toArray⟩:ByteArray)=39::Lib.itoa n:=by unfold I5;simp
 have hz:(⟨#[39]⟩++⟨(Lib.itoa n).toArray⟩:ByteArray).size=(39::Lib.itoa n).length:=by rw[<-hb,B3]
 replace c1:=c1 (by rw[hz];exact hl);rw[hb] at c1
 have hfit:(⟨#[39]⟩:ByteArray).size+(⟨(Lib.itoa n).toArray⟩:ByteArray).size<=4611686018427387904:=by
  have h2:(⟨#[39]⟩++⟨(Lib.itoa n).toArray⟩:ByteArray).size=(⟨#[39]⟩:ByteArray).size+(⟨(Lib.itoa n).toArray⟩:ByteArray).size:=by simp
  rw[<-h2,hz];omega
 rw[cT];generalize rT ks=K;clear hz hb;rw[d6] at *;rw[d6] at *;generalize rU (l++39::Lib.itoa n)=R1 at *;generalize rU l=R0 at *;clear hl;generalize (⟨(Lib.itoa n).toArray⟩:ByteArray)=D at *;obtain⟨S,hS⟩:∃S,S=(⟨#[39]⟩++D:ByteArray):=⟨_,rfl⟩;rw[<-hS] at c1;refine so9 Tryd.func31 rfl ?_;intro _ _ _ _ _ _ _ _ _ qj _ _ _ _ qp;intros;rename_i hA;obtain⟨e1,e2,e3,e4,e5,e6,e7,e8,e9⟩:=j3 hA;obtain⟨s1,s2,s3,s4,s5,s6,s7⟩:=w7 hA;have h1:qj 7 1=false:=e9 _ _;have h2:qj 7 2=false:=e9 _ _;have h3:qj 7 3=false:=e9 _ _;have h7:qj 7 7=true:=e9 _ _;have hc:qp ⟨#[39]⟩ D=S:=by rw[s4,hS]
 iterate 2 (try cbv;repeat ((first|with_reducible apply b6 hA|rw[h1]|rw[h2]|rw[h3]|rw[h7]|refine c5 hA _ hi rfl ?_|refine c7 hA _ hi ?_);cbv))
 try simp (maxSteps:=4000000) only [nc] at *
 refine A6 hA hfit ?_;cbv;rw[hc]
 iterate 2 (try cbv;repeat ((first|with_reducible apply b6 hA);cbv))
 try simp (maxSteps:=4000000) only [nc] at *
 refine d7 hA [0,1] c1 ⟨rfl,rfl,rfl,rfl,rfl,rfl,rfl⟩ ?_
 rintro _ _ ⟨rfl,rfl⟩
 iterate 2 (try cbv;repeat ((first|with_reducible apply b6 hA);cbv))
 try simp (maxSteps:=4000000) only [nc] at *
 exact i6 hA [0,1] ⟨rfl,rfl,rfl,rfl,rfl,rfl,rfl,rfl⟩ ⟨rfl,rfl⟩
def Mod (t:Ty):Prop:=∀x∈t.parts,x.name.size<=32/\0<=x.n/\x.n<=9223372036854775807
theorem Mod.kid {t x:Ty} (h:Mod t) (hx:x∈t.kids):Mod x:=λy hy=>h y (by rw[d9];exact c36 _ (c4a.2 ⟨x,hx,hy⟩))
theorem Mod.self {t:Ty} (h:Mod t):t.name.size<=32/\0<=t.n/\t.n<=9223372036854775807:=h t (by rw[r7];exact c38 ..)
theorem a3G {t a:Ty} (h:t.kids=[a]):t.parts.length=1+a.parts.length:=by rw[d9,h];simp;omega
theorem a0k {t a b:Ty} (h:t.kids=[a,b]):t.parts.length=1+a.parts.length+b.parts.length:=by rw[d9,h];simp;omega
theorem b5h {t:Ty} (h:¬(t.op=11/\∃a b,t.kids=[a,b])):c6 t=[]/\f7 t=t:=by
 obtain⟨op,nm,n,ks⟩:=t
 match ks,h with
 | [],_=>exact⟨rfl,rfl⟩
 | [a],_=>exact⟨rfl,rfl⟩
 | a::b::c::l,_=>exact⟨rfl,rfl⟩
 | [a,b],h =>
  have h:op≠11:=λe=>h ⟨e,a,b,rfl⟩
  unfold c6 f7;rw[c3G h,c3G h];exact⟨rfl,rfl⟩
theorem b6w (t:Ty) (h:0<=t.n/\t.n<=9223372036854775807):(N3 t).length<=23:=by
 have h1:=Lib.itoa_length_le t.n (by omega) h.2;unfold N3
 split
 ·simp
 ·split
  ·simp;omega
  ·simp
theorem b5i:∀(m:Nat) (t:Ty),t.parts.length<=m->Mod t->(d8 t).length<=64 * t.parts.length/\∀b,(J5 d8 b (c6 t)++N3 (f7 t)).length<=64 * t.parts.length:=by
 intro m
 induction m with
 | zero=>intro t h;have:=j5 t;omega
 | succ m ih =>
  intro t hm hM;have hkl:=m9 t;have hp:=j5 t;have hs:=hM.self
  constructor
  ·rw[E5];unfold a1z
   split
   ·simp;omega
   split
   ·simp;omega
   split
   ·simp;omega
   split
   ·have h1:=Lib.itoa_length_le t.n (by omega) hs.2.2
    simp;omega
   split
   ·split
    ·rename_i a hk;have h1:=(ih a (by have:=hkl.2 a (by rw[hk];simp);omega) (hM.kid (by rw[hk];simp))).2 true;have h2:=a3G hk;unfold A5;simp only[c3C,c37,c3H] at h1 ⊢;omega
    ·simp
   split
   ·split
    ·rename_i a hk;have h1:=(ih a (by have:=hkl.2 a (by rw[hk];simp);omega) (hM.kid (by rw[hk];simp))).2 true;have h2:=a3G hk;unfold A5;simp only[c3C,c37,c3H] at h1 ⊢;omega
    ·simp
   split
   ·split
    ·rename_i a b hk;have h1:=(ih a (by have:=hkl.2 a (by rw[hk];simp);omega) (hM.kid (by rw[hk];simp))).1;have h2:=(ih b (by have:=hkl.2 b (by rw[hk];simp);omega) (hM.kid (by rw[hk];simp))).1;have h3:=a0k hk;unfold z7
     split <;> simp only[c3C,c37,c3H] <;> omega
    ·simp
   ·simp
  ·intro b
   by_cases h:t.op=11/\∃a b,t.kids=[a,b]
   ·obtain⟨h11,x,y,hk⟩:=h;have h1:=(ih x (by have:=hkl.2 x (by rw[hk];simp);omega) (hM.kid (by rw[hk];simp))).1;have h2:=(ih y (by have:=hkl.2 y (by rw[hk];simp);omega) (hM.kid (by rw[hk];simp))).2 false;have h3:=a0k hk;have h4:t.name.data.toList.length<=32:=hs.1;rw[b00 b h11 hk];simp only[c37,c3C] at h2 ⊢;have h5:(if b=true then ([]:List UInt8) else [44]).length<=1:=by split <;> simp
    omega
   ·obtain⟨h1,h2⟩:=b5h h;rw[h1,h2];have h3:=b6w t hs.2;simp only[J5,c4t];omega
theorem c1J {t:Ty} (h:Mod t):(d8 t).length<=64 * t.parts.length:=(b5i _ t (c3A _) h).1
theorem c1K {t:Ty} (h:Mod t) (b:Bool):(J5 d8 b (c6 t)++N3 (f7 t)).length<=64 * t.parts.length:=(b5i _ t (c3A _) h).2 b
theorem a9y (g:Ty->List UInt8):∀(l:List (ByteArray×Ty)) (b:Bool) (f:ByteArray×Ty),J5 g b (l++[f])=J5 g b l++((if (b && l.isEmpty)=true then [] else [44])++(f.1.data.toList++58::g f.2))
 | [],b,f=>by simp[J5]
 | x::l,b,f=>by
  rw[c4r,J5,J5,a9y g l false f]
  simp
theorem b3w {t:Ty} (hs:G2 t) (h11:t.op=11):c6 (b9 t)=(d5 x8 (c6 t)).map (λf=>(f.1,b9 f.2))/\f7 (b9 t)=f7 t:=by
 rw[G9 h11];exact E7 (b12 hs) _
theorem a60 (t:Ty):cT t=[.sc (.int .u8 t.op),.sc (.string t.name),.sc (.int .i64 t.n),.sl 4 (rT t.kids)]:=by cases t;rw[cT];rfl
theorem c2J (W:ByteArray->Bool) (t:Ty) (hs:c8 W t 114=true) (hn:∀x∈t.parts,x.n<=9223372036854775807) (hW:∀x:Ty,x.parts.length<t.parts.length->x∈t.parts->c8 W x 116=true->WrU 31 x (d8 x)):WrU 58 t (A5 d8 t):=by
 intro l hl;rw[a60];obtain⟨op0,hop0⟩:∃o,o=t.op:=⟨_,rfl⟩;obtain⟨nm0,hnm0⟩:∃o,o=t.name:=⟨_,rfl⟩;obtain⟨n0,hn0⟩:∃o,o=t.n:=⟨_,rfl⟩;obtain⟨K0,hK0⟩:∃o,o=rT t.kids:=⟨_,rfl⟩;obtain⟨R0,hR0⟩:∃o,o=rU l:=⟨_,rfl⟩;obtain⟨RE,hRE⟩:∃o,o=rU (l++A5 d8 t):=⟨_,rfl⟩;rw[d6,d6,<-hop0,<-hnm0,<-hn0,<-hK0,<-hR0,<-hRE];refine so9 Tryd.func58 rfl ?_;intro _ _ _ _ _ _ _ _ _ qj _ _ _ _ qp _ _ _ _ _ _ _ _ qz _ _ _ _ _ _ _ _ _ _ _ _ _ _ _ _ _ vy;intros;rename_i hA;obtain⟨e1,e2,e3,e4,e5,e6,e7,e8,e9⟩:=j3 hA;obtain⟨r1,r2,r3,r4⟩:=m8 hA;obtain⟨s1,s2,s3,s4,s5,s6,s7⟩:=w7 hA
 iterate 2 (try cbv;repeat ((first|with_reducible apply b6 hA);cbv))
 try simp (maxSteps:=4000000) only [nc] at *
 refine l7 hA (γ:=Bool×Int×ByteArray×Int×List (List D)×List (List D)×Nat) (λx=>[(4,.d (.sc (.bool x.1)))]) (λx=>[(1,.row false 5 x.2.2.2.2.2.1),(2,.box [.d (.sc (.int .u8 x.2.1)),.d (.sc (.string x.2.2.1)),.d (.sc (.int .i64 x.2.2.2.1)),.d (.sl 4 x.2.2.2.2.1)])])
  (λx=>∃(y:Ty) (pre:List UInt8),x.2=(y.op,y.name,y.n,rT y.kids,rU pre,y.parts.length)/\c8 W y 114=true/\y∈t.parts/\y.parts.length<=t.parts.length/\pre++(J5 d8 x.1 (c6 y)++N3 (f7 y))=l++A5 d8 t)
  (λx=>x.2.2.2.2.2.2) (true,op0,nm0,n0,K0,R0,t.parts.length) ?_ ?_ ?_
 ·exact⟨t,l,by rw[hop0,hnm0,hn0,hK0,hR0],hs,by rw[r7];exact c38 ..,c3A _,rfl⟩
 ·cbv
 ·intro x hinv;obtain⟨b,op,nm,n,K,R,N⟩:=x;cbv
  repeat ((with_reducible apply b6 hA);cbv)
  obtain⟨y,pre,heq,hsy,hym,hle,hby⟩:=hinv;simp only[Prod.mk.injEq] at heq;obtain⟨hop,hnm,hnn,hK,hR,hN⟩:=heq
  replace hby:pre++(J5 d8 b (c6 y)++N3 (f7 y))=l++A5 d8 t:=hby
  obtain⟨hy0,hys⟩:=M9 hsy;have hyn:=hn y hym
  have hlen:pre.length+(J5 d8 b (c6 y)++N3 (f7 y)).length<=137438953472:=by
   have:=congrArg List.length hby
   simp only[c37] at this ⊢;omega
  have h11:qj op 11=decide (op=11):=e9 _ _
  by_cases hc:y.op=11
  ·rw[hop,c3K hc,<-hop] at h11
   obtain⟨-,a,c,hk,hsa,hsc⟩:y.op=11/\∃a b,y.kids=[a,b]/\c8 W a 116=true/\c8 W b 114=true:=by
    rcases hys with⟨h,_⟩|h
    ·omega
    ·exact h
   have hkl:=m9 y;have hpa:=hkl.2 a (by rw[hk];simp);have hpc:=hkl.2 c (by rw[hk];simp);have hma:a∈t.parts:=A2 (by rw[d9];exact c36 _ (c4a.2 ⟨a,by rw[hk];simp,by rw[r7];exact c38 ..⟩)) hym;have hmc:c∈t.parts:=A2 (by rw[d9];exact c36 _ (c4a.2 ⟨c,by rw[hk];simp,by rw[r7];exact c38 ..⟩)) hym;have hwa:=hW a (by omega) hma hsa;have hat:=b00 (g:=d8) b hc hk;rw[hat] at hby hlen;have hlc:(cT c)=[.sc (.int .u8 c.op),.sc (.string c.name),.sc (.int .i64 c.n),.sl 4 (rT c.kids)]:=a60 c;have hnml:y.name.data.toList.length=y.name.size:=rfl;simp only[c37,c3C] at hlen;obtain⟨a0,a1,a2,a3,ha⟩:=c9 a;obtain⟨P1,hP1⟩:∃P,P=pre++(if b=true then [] else [44]):=⟨_,rfl⟩;have hl1:P1.length=pre.length+(if b=true then ([]:List UInt8) else [44]).length:=by rw[hP1,c37]
   have c1:=a2v pre 44;have c2:=a6y P1 nm (by rw[hnm,<-hnml];omega);have c3:=a2v (P1++I5 nm) 58 (by rw[c37,B3,hnm,<-hnml];omega);have c4:=hwa (P1++I5 nm++[58]) (by rw[c37,c37,B3,hnm,<-hnml];simp only[c3C,c3H];omega)
   have hnew:(P1++I5 nm++[58]++d8 a)++(J5 d8 false (c6 c)++N3 (f7 c))=l++A5 d8 t:=by
    rw[<-hby,hP1,hnm];show _=pre++((if b=true then [] else [44])++(I5 y.name++58::(d8 a++(J5 d8 false (c6 c)++N3 (f7 c)))))
    simp
   rw[ha] at c4;rw[d6] at c1 c2 c3 c4;rw[d6] at c1 c2 c3 c4;have g0:qz K 0=some [a0,a1,a2,a3]:=by rw[r2,c3E (by omega),hK,hk,rT,ha];rfl
   obtain⟨cop,hcop⟩:∃o,o=c.op:=⟨_,rfl⟩;obtain⟨cnm,hcnm⟩:∃o,o=c.name:=⟨_,rfl⟩;obtain⟨cn,hcn⟩:∃o,o=c.n:=⟨_,rfl⟩;obtain⟨cK,hcK⟩:∃o,o=rT c.kids:=⟨_,rfl⟩;have g1:qz K 1=some [.sc (.int .u8 cop),.sc (.string cnm),.sc (.int .i64 cn),.sl 4 cK]:=by rw[r2,c3E (by omega),hK,hk,rT,rT,hlc,hcop,hcnm,hcn,hcK];rfl
   obtain⟨cN,hcN⟩:∃o,o=c.parts.length:=⟨_,rfl⟩;have hmu:cN<N:=by rw[hcN,hN];exact hpc
   obtain⟨R4,hR4⟩:∃o,o=rU (P1++I5 nm++[58]++d8 a):=⟨_,rfl⟩
   have fin:∃(y:Ty) (pre:List UInt8),(cop,cnm,cn,cK,R4,cN)=(y.op,y.name,y.n,rT y.kids,rU pre,y.parts.length)/\c8 W y 114=true/\y∈t.parts/\y.parts.length<=t.parts.length/\pre++(J5 d8 false (c6 y)++N3 (f7 y))=l++A5 d8 t :=
    ⟨c,P1++I5 nm++[58]++d8 a,by rw[hcop,hcnm,hcn,hcK,hR4,hcN],hsc,hmc,by omega,hnew⟩
   rw[<-hR4] at c4;rw[<-hR] at c1;rw[h11];cases b with
   | true =>
    have hP:P1=pre:=by rw[hP1];simp
    rw[hP,<-hR] at c2;rw[hP] at c3 c4;clear c1;generalize rU (pre++I5 nm)=R2 at *;generalize rU (pre++I5 nm++[58])=R3 at *;clear hR4 hwa hW hn hl hs hnew hP hP1 hat hby hl1 hlen
    iterate 2 (try cbv;repeat ((first|with_reducible apply b6 hA|rw[g0]|rw[g1]|(refine d7 hA [0,1] c2 ⟨rfl,rfl,rfl,rfl,rfl,rfl,rfl⟩ ?_;rintro _ _ ⟨rfl,rfl⟩)|(refine d7 hA [0,1] c3 ⟨rfl,rfl,rfl,rfl,rfl,rfl,rfl⟩ ?_;rintro _ _ ⟨rfl,rfl⟩)|(refine d7 hA [0,1] c4 ⟨rfl,rfl,rfl,rfl,rfl,rfl,rfl⟩ ?_;rintro _ _ ⟨rfl,rfl⟩));cbv))
    try simp (maxSteps:=4000000) only [nc] at *
    refine⟨(false,cop,cnm,cn,cK,R4,cN),fin,hmu,?_⟩;cbv
   | false =>
    have hP:P1=pre++[44]:=by rw[hP1];simp
    rw[hP] at c2 c3 c4;replace c1:o5 56 [.ptr 0 0,vi .u8 44] _ _:=c1 (by simp at hlen;omega);generalize rU (pre++[44])=R1 at *;generalize rU (pre++[44]++I5 nm)=R2 at *;generalize rU (pre++[44]++I5 nm++[58])=R3 at *;clear hR4 hwa hW hn hl hs hnew hP hP1 hat hby hl1 hlen
    iterate 2 (try cbv;repeat ((first|with_reducible apply b6 hA|rw[g0]|rw[g1]|(refine d7 hA [0,1] c1 ⟨rfl,rfl,rfl,rfl,rfl,rfl,rfl⟩ ?_;rintro _ _ ⟨rfl,rfl⟩)|(refine d7 hA [0,1] c2 ⟨rfl,rfl,rfl,rfl,rfl,rfl,rfl⟩ ?_;rintro _ _ ⟨rfl,rfl⟩)|(refine d7 hA [0,1] c3 ⟨rfl,rfl,rfl,rfl,rfl,rfl,rfl⟩ ?_;rintro _ _ ⟨rfl,rfl⟩)|(refine d7 hA [0,1] c4 ⟨rfl,rfl,rfl,rfl,rfl,rfl,rfl⟩ ?_;rintro _ _ ⟨rfl,rfl⟩));cbv))
    try simp (maxSteps:=4000000) only [nc] at *
    refine⟨(false,cop,cnm,cn,cK,R4,cN),fin,hmu,?_⟩;cbv
  ·rw[hop,c3I hc,<-hop] at h11
   have hy8:y.op=8\/y.op=9\/y.op=10:=by
    rcases hys with⟨h,_⟩|⟨h,_⟩
    ·exact h
    ·exact absurd h hc
   obtain⟨hf0,ht0⟩:=z8 hc;rw[hf0,ht0] at hby hlen;simp only[J5,c4t] at hby hlen;rw[<-hby] at hRE;rw[h11];unfold N3 at hRE hlen
   rcases hy8 with ho|ho|ho
   ·have h9:qj op 9=false:=by rw[e9,hop,ho];rfl
    have h10:qj op 10=false:=by rw[e9,hop,ho];rfl
    rw[c3G (by omega),c3G (by omega),c3X,<-hR] at hRE
    iterate 2 (try cbv;repeat ((first|with_reducible apply b6 hA|rw[h9]|rw[h10]);cbv))
    try simp (maxSteps:=4000000) only [nc] at *
    exact i6 hA [0,1] ⟨rfl,rfl,rfl,rfl,rfl,rfl,rfl,rfl⟩ ⟨rfl,by rw[hRE]⟩
   ·have h9:qj op 9=true:=by rw[e9,hop,ho];rfl
    rw[c3E ho] at hRE hlen;have c1:=a6y pre ⟨#[124,63]⟩ (by rw[show (⟨#[124,63]⟩:ByteArray).size=2 from rfl];simpa using hlen);rw[show I5 ⟨#[124,63]⟩=[124,63] from rfl] at c1;rw[d6] at c1;rw[d6,<-hR,<-hRE] at c1
    iterate 2 (try cbv;repeat ((first|with_reducible apply b6 hA|rw[h9]);cbv))
    try simp (maxSteps:=4000000) only [nc] at *
    refine d7 hA [0,1] c1 ⟨rfl,rfl,rfl,rfl,rfl,rfl,rfl⟩ ?_
    rintro _ _ ⟨rfl,rfl⟩
    iterate 2 (try cbv;repeat ((first|with_reducible apply b6 hA);cbv))
    try simp (maxSteps:=4000000) only [nc] at *
    exact i6 hA [0,1] ⟨rfl,rfl,rfl,rfl,rfl,rfl,rfl,rfl⟩ ⟨rfl,rfl⟩
   ·have h9:qj op 9=false:=by rw[e9,hop,ho];rfl
    have h10:qj op 10=true:=by rw[e9,hop,ho];rfl
    rw[c3G (by omega),c3E ho] at hRE hlen;rw[<-hnn] at hRE hlen hy0 hyn;have hi:=b3t n (by omega) hyn;have hb:I5 (⟨#[124,39]⟩++⟨(Lib.itoa n).toArray⟩:ByteArray)=124::39::Lib.itoa n:=by unfold I5;simp
    have hz:(⟨#[124,39]⟩++⟨(Lib.itoa n).toArray⟩:ByteArray).size=(124::39::Lib.itoa n).length:=by rw[<-hb,B3]
    have c1:=a6y pre (⟨#[124,39]⟩++⟨(Lib.itoa n).toArray⟩) (by rw[hz];exact hlen);rw[hb] at c1
    have hfit:(⟨#[124,39]⟩:ByteArray).size+(⟨(Lib.itoa n).toArray⟩:ByteArray).size<=4611686018427387904:=by
     have h2:(⟨#[124,39]⟩++⟨(Lib.itoa n).toArray⟩:ByteArray).size=(⟨#[124,39]⟩:ByteArray).size+(⟨(Lib.itoa n).toArray⟩:ByteArray).size:=by simp
     rw[<-h2,hz];omega
    rw[d6] at c1;rw[d6,<-hR,<-hRE] at c1;clear hz hb hlen;generalize (⟨(Lib.itoa n).toArray⟩:ByteArray)=D at *;obtain⟨S,hS⟩:∃S,S=(⟨#[124,39]⟩++D:ByteArray):=⟨_,rfl⟩;rw[<-hS] at c1;have hc2:qp ⟨#[124,39]⟩ D=S:=by rw[s4,hS]
    iterate 2 (try cbv;repeat ((first|with_reducible apply b6 hA|rw[h9]|rw[h10]|refine c5 hA _ hi rfl ?_|refine c7 hA _ hi ?_);cbv))
    try simp (maxSteps:=4000000) only [nc] at *
    refine A6 hA hfit ?_;cbv;rw[hc2]
    iterate 2 (try cbv;repeat ((first|with_reducible apply b6 hA);cbv))
    try simp (maxSteps:=4000000) only [nc] at *
    refine d7 hA [0,1] c1 ⟨rfl,rfl,rfl,rfl,rfl,rfl,rfl⟩ ?_
    rintro _ _ ⟨rfl,rfl⟩
    iterate 2 (try cbv;repeat ((first|with_reducible apply b6 hA);cbv))
    try simp (maxSteps:=4000000) only [nc] at *
    exact i6 hA [0,1] ⟨rfl,rfl,rfl,rfl,rfl,rfl,rfl,rfl⟩ ⟨rfl,rfl⟩
theorem a1m:c0d 61:=by unfold c0d;kernel_rfl
def WrF (f:Nat) (t:Ty) (out:List UInt8):Prop:=out.length<=137438953472->o5 f [.ptr 0 0,.ag (ofD (cT t))] [b2f 61] (λres os=>res=[]/\os=a17 out)
theorem n9 (T:Nat):[b2f T]=[.ob T [.pointer none,.slice none 0 0]]:=rfl
theorem b87 (t:Ty) (hop:t.op≠4) (hw:WrU 31 t (d8 t)):WrU 59 t (z7 d8 t):=by
 intro l hl;unfold z7 at hl ⊢;rw[c3G hop] at hl ⊢;have c1:=hw l hl;rw[a60] at c1 ⊢;obtain⟨op,hop0⟩:∃o,o=t.op:=⟨_,rfl⟩;rw[<-hop0] at c1 hop ⊢;generalize t.name=nm at *;generalize t.n=n at *;generalize rT t.kids=K at *
 try rw[d6] at c1
 try rw[d6] at c1
 try rw[n9] at c1
 try rw[d6] at ⊢
 try rw[d6] at ⊢
 try rw[n9] at ⊢
 generalize rU (l++d8 t)=R1 at *;generalize rU l=R0 at *;clear hl hw hop0;refine so9 Tryd.func59 rfl ?_;intro _ _ _ _ _ _ _ _ _ qj;intros;rename_i hA;obtain⟨e1,e2,e3,e4,e5,e6,e7,e8,e9⟩:=j3 hA;obtain⟨r1,r2,r3,r4⟩:=m8 hA;obtain⟨s1,s2,s3,s4,s5,s6,s7⟩:=w7 hA;have h4:qj op 4=false:=by rw[e9];simpa using hop
 iterate 2 (try cbv;repeat ((first|with_reducible apply b6 hA|rw[h4]|(refine d7 hA [0,1] c1 ⟨rfl,rfl,rfl,rfl,rfl,rfl,rfl⟩ ?_;rintro _ _ ⟨rfl,rfl⟩));cbv))
 try simp (maxSteps:=4000000) only [nc] at *
 exact i6 hA [0,1] ⟨rfl,rfl,rfl,rfl,rfl,rfl,rfl,rfl⟩ ⟨rfl,rfl⟩
theorem b88 (t:Ty) (hop:t.op=4) (hw:WrU 31 t (d8 t)):WrU 59 t (z7 d8 t):=by
 intro l hl;unfold z7 at hl ⊢;rw[c3E hop] at hl ⊢;simp only[c3C,c37,c3H] at hl;have c1:=a2v (l) 40 (by omega);have c2:=hw (l++[40]) (by simp only[c3C,c37,c3H];omega);have c3:=a2v (l++[40]++d8 t) 41 (by simp only[c3C,c37,c3H];omega);rw[show l++(40::(d8 t++[41]))=l++[40]++d8 t++[41] by simp];rw[a60] at c2 ⊢;obtain⟨op,hop0⟩:∃o,o=t.op:=⟨_,rfl⟩;rw[<-hop0] at c2 hop ⊢;generalize t.name=nm at *;generalize t.n=n at *;generalize rT t.kids=K at *
 try rw[d6] at c1
 try rw[d6] at c1
 try rw[n9] at c1
 try rw[d6] at c2
 try rw[d6] at c2
 try rw[n9] at c2
 try rw[d6] at c3
 try rw[d6] at c3
 try rw[n9] at c3
 try rw[d6] at ⊢
 try rw[d6] at ⊢
 try rw[n9] at ⊢
 replace c1:o5 56 [.ptr 0 0,vi .u8 40] _ _:=c1;replace c3:o5 56 [.ptr 0 0,vi .u8 41] _ _:=c3;generalize rU (l++[40]++d8 t++[41])=R3 at *;generalize rU (l++[40]++d8 t)=R2 at *;generalize rU (l++[40])=R1 at *;generalize rU l=R0 at *;clear hl hw hop0;refine so9 Tryd.func59 rfl ?_;intro _ _ _ _ _ _ _ _ _ qj;intros;rename_i hA;obtain⟨e1,e2,e3,e4,e5,e6,e7,e8,e9⟩:=j3 hA;obtain⟨r1,r2,r3,r4⟩:=m8 hA;obtain⟨s1,s2,s3,s4,s5,s6,s7⟩:=w7 hA;have h4:qj op 4=true:=by rw[e9,hop];rfl
 iterate 2 (try cbv;repeat ((first|with_reducible apply b6 hA|rw[h4]|(refine d7 hA [0,1] c1 ⟨rfl,rfl,rfl,rfl,rfl,rfl,rfl⟩ ?_;rintro _ _ ⟨rfl,rfl⟩)|(refine d7 hA [0,1] c2 ⟨rfl,rfl,rfl,rfl,rfl,rfl,rfl⟩ ?_;rintro _ _ ⟨rfl,rfl⟩)|(refine d7 hA [0,1] c3 ⟨rfl,rfl,rfl,rfl,rfl,rfl,rfl⟩ ?_;rintro _ _ ⟨rfl,rfl⟩));cbv))
 try simp (maxSteps:=4000000) only [nc] at *
 exact i6 hA [0,1] ⟨rfl,rfl,rfl,rfl,rfl,rfl,rfl,rfl⟩ ⟨rfl,rfl⟩
theorem b3x (nm:ByteArray) (n:Int) (a:Ty) (hw:WrU 58 a (A5 d8 a)):WrU 31 (.mk 5 nm n [a]) (d8 (.mk 5 nm n [a])):=by
 intro l hl;have ht:d8 (.mk 5 nm n [a])=123::(A5 d8 a++[125]):=by rw[E5];rfl
 rw[ht] at hl ⊢;simp only[c3C,c37,c3H] at hl;have c1:=a2v (l) 123 (by omega);have c2:=hw (l++[123]) (by simp only[c3C,c37,c3H];omega);have c3:=a2v (l++[123]++A5 d8 a) 125 (by simp only[c3C,c37,c3H];omega);rw[show l++(123::(A5 d8 a++[125]))=l++[123]++A5 d8 a++[125] by simp];rw[cT,rT,rT];obtain⟨a0,a1,a2,a3,ha⟩:=c9 a;rw[ha] at c2 ⊢
 try rw[d6] at c1
 try rw[d6] at c1
 try rw[n9] at c1
 try rw[d6] at c2
 try rw[d6] at c2
 try rw[n9] at c2
 try rw[d6] at c3
 try rw[d6] at c3
 try rw[n9] at c3
 try rw[d6] at ⊢
 try rw[d6] at ⊢
 try rw[n9] at ⊢
 replace c1:o5 56 [.ptr 0 0,vi .u8 123] _ _:=c1;replace c3:o5 56 [.ptr 0 0,vi .u8 125] _ _:=c3;generalize rU (l++[123]++A5 d8 a++[125])=R3 at *;generalize rU (l++[123]++A5 d8 a)=R2 at *;generalize rU (l++[123])=R1 at *;generalize rU l=R0 at *;clear hl hw ht;obtain⟨K,hK⟩:∃K,K=[[a0,a1,a2,a3]]:=⟨_,rfl⟩;rw[<-hK];refine so9 Tryd.func31 rfl ?_;intro _ _ _ _ _ _ _ _ _ qj _ _ _ _ _ _ _ _ _ _ _ _ _ qz;intros;rename_i hA;obtain⟨e1,e2,e3,e4,e5,e6,e7,e8,e9⟩:=j3 hA;obtain⟨r1,r2,r3,r4⟩:=m8 hA;obtain⟨s1,s2,s3,s4,s5,s6,s7⟩:=w7 hA;have h1:qj 5 1=false:=e9 _ _;have h2:qj 5 2=false:=e9 _ _;have h3:qj 5 3=false:=e9 _ _;have h7:qj 5 7=false:=e9 _ _;have h5:qj 5 5=true:=e9 _ _;have g0:qz K 0=some [a0,a1,a2,a3]:=by rw[r2,hK];rfl
 iterate 2 (try cbv;repeat ((first|with_reducible apply b6 hA|rw[h1]|rw[h2]|rw[h3]|rw[h7]|rw[h5]|rw[g0]|(refine d7 hA [0,1] c1 ⟨rfl,rfl,rfl,rfl,rfl,rfl,rfl⟩ ?_;rintro _ _ ⟨rfl,rfl⟩)|(refine d7 hA [0,1] c2 ⟨rfl,rfl,rfl,rfl,rfl,rfl,rfl⟩ ?_;rintro _ _ ⟨rfl,rfl⟩)|(refine d7 hA [0,1] c3 ⟨rfl,rfl,rfl,rfl,rfl,rfl,rfl⟩ ?_;rintro _ _ ⟨rfl,rfl⟩));cbv))
 try simp (maxSteps:=4000000) only [nc] at *
 exact i6 hA [0,1] ⟨rfl,rfl,rfl,rfl,rfl,rfl,rfl,rfl⟩ ⟨rfl,rfl⟩
theorem b3y (nm:ByteArray) (n:Int) (a:Ty) (hw:WrU 58 a (A5 d8 a)):WrU 31 (.mk 6 nm n [a]) (d8 (.mk 6 nm n [a])):=by
 intro l hl;have ht:d8 (.mk 6 nm n [a])=60::(A5 d8 a++[62]):=by rw[E5];rfl
 rw[ht] at hl ⊢;simp only[c3C,c37,c3H] at hl;have c1:=a2v (l) 60 (by omega);have c2:=hw (l++[60]) (by simp only[c3C,c37,c3H];omega);have c3:=a2v (l++[60]++A5 d8 a) 62 (by simp only[c3C,c37,c3H];omega);rw[show l++(60::(A5 d8 a++[62]))=l++[60]++A5 d8 a++[62] by simp];rw[cT,rT,rT];obtain⟨a0,a1,a2,a3,ha⟩:=c9 a;rw[ha] at c2 ⊢
 try rw[d6] at c1
 try rw[d6] at c1
 try rw[n9] at c1
 try rw[d6] at c2
 try rw[d6] at c2
 try rw[n9] at c2
 try rw[d6] at c3
 try rw[d6] at c3
 try rw[n9] at c3
 try rw[d6] at ⊢
 try rw[d6] at ⊢
 try rw[n9] at ⊢
 replace c1:o5 56 [.ptr 0 0,vi .u8 60] _ _:=c1;replace c3:o5 56 [.ptr 0 0,vi .u8 62] _ _:=c3;generalize rU (l++[60]++A5 d8 a++[62])=R3 at *;generalize rU (l++[60]++A5 d8 a)=R2 at *;generalize rU (l++[60])=R1 at *;generalize rU l=R0 at *;clear hl hw ht;obtain⟨K,hK⟩:∃K,K=[[a0,a1,a2,a3]]:=⟨_,rfl⟩;rw[<-hK];refine so9 Tryd.func31 rfl ?_;intro _ _ _ _ _ _ _ _ _ qj _ _ _ _ _ _ _ _ _ _ _ _ _ qz;intros;rename_i hA;obtain⟨e1,e2,e3,e4,e5,e6,e7,e8,e9⟩:=j3 hA;obtain⟨r1,r2,r3,r4⟩:=m8 hA;obtain⟨s1,s2,s3,s4,s5,s6,s7⟩:=w7 hA;have h1:qj 6 1=false:=e9 _ _;have h2:qj 6 2=false:=e9 _ _;have h3:qj 6 3=false:=e9 _ _;have h7:qj 6 7=false:=e9 _ _;have h5:qj 6 5=false:=e9 _ _;have h6:qj 6 6=true:=e9 _ _;have g0:qz K 0=some [a0,a1,a2,a3]:=by rw[r2,hK];rfl
 iterate 2 (try cbv;repeat ((first|with_reducible apply b6 hA|rw[h1]|rw[h2]|rw[h3]|rw[h7]|rw[h5]|rw[h6]|rw[g0]|(refine d7 hA [0,1] c1 ⟨rfl,rfl,rfl,rfl,rfl,rfl,rfl⟩ ?_;rintro _ _ ⟨rfl,rfl⟩)|(refine d7 hA [0,1] c2 ⟨rfl,rfl,rfl,rfl,rfl,rfl,rfl⟩ ?_;rintro _ _ ⟨rfl,rfl⟩)|(refine d7 hA [0,1] c3 ⟨rfl,rfl,rfl,rfl,rfl,rfl,rfl⟩ ?_;rintro _ _ ⟨rfl,rfl⟩));cbv))
 try simp (maxSteps:=4000000) only [nc] at *
 exact i6 hA [0,1] ⟨rfl,rfl,rfl,rfl,rfl,rfl,rfl,rfl⟩ ⟨rfl,rfl⟩
theorem b3z (nm:ByteArray) (n:Int) (a b:Ty) (hf:WrU 59 a (z7 d8 a)) (hw:WrU 31 b (d8 b)):WrU 31 (.mk 4 nm n [a,b]) (d8 (.mk 4 nm n [a,b])):=by
 intro l hl;have ht:d8 (.mk 4 nm n [a,b])=z7 d8 a++(45::62::d8 b):=by rw[E5];rfl
 rw[ht] at hl ⊢;simp only[c3C,c37,c3H] at hl;have c1:=hf l (by omega);have c2:=a6y (l++z7 d8 a) ⟨#[45,62]⟩ (by rw[show (⟨#[45,62]⟩:ByteArray).size=2 from rfl];first|omega|(simp only[c3C,c37,c3H];omega));rw[show I5 ⟨#[45,62]⟩=[45,62] from rfl] at c2;have c3:=hw (l++z7 d8 a++[45,62]) (by simp only[c3C,c37,c3H];omega);rw[show l++(z7 d8 a++(45::62::d8 b))=l++z7 d8 a++[45,62]++d8 b by simp];rw[cT,rT,rT,rT];obtain⟨a0,a1,a2,a3,ha⟩:=c9 a;obtain⟨b0,b1,b2,b3,hb⟩:=c9 b;rw[ha] at c1 ⊢;rw[hb] at c3 ⊢
 try rw[d6] at c1
 try rw[d6] at c1
 try rw[n9] at c1
 try rw[d6] at c2
 try rw[d6] at c2
 try rw[n9] at c2
 try rw[d6] at c3
 try rw[d6] at c3
 try rw[n9] at c3
 try rw[d6] at ⊢
 try rw[d6] at ⊢
 try rw[n9] at ⊢
 generalize rU (l++z7 d8 a++[45,62]++d8 b)=R3 at *;generalize rU (l++z7 d8 a++[45,62])=R2 at *;generalize rU (l++z7 d8 a)=R1 at *;generalize rU l=R0 at *;clear hl hf hw ht;obtain⟨K,hK⟩:∃K,K=[[a0,a1,a2,a3],[b0,b1,b2,b3]]:=⟨_,rfl⟩;rw[<-hK];refine so9 Tryd.func31 rfl ?_;intro _ _ _ _ _ _ _ _ _ qj _ _ _ _ _ _ _ _ _ _ _ _ _ qz;intros;rename_i hA;obtain⟨e1,e2,e3,e4,e5,e6,e7,e8,e9⟩:=j3 hA;obtain⟨r1,r2,r3,r4⟩:=m8 hA;obtain⟨s1,s2,s3,s4,s5,s6,s7⟩:=w7 hA;have h1:qj 4 1=false:=e9 _ _;have h2:qj 4 2=false:=e9 _ _;have h3:qj 4 3=false:=e9 _ _;have h7:qj 4 7=false:=e9 _ _;have h5:qj 4 5=false:=e9 _ _;have h6:qj 4 6=false:=e9 _ _;have h4:qj 4 4=true:=e9 _ _;have g0:qz K 0=some [a0,a1,a2,a3]:=by rw[r2,hK];rfl
 have g1:qz K 1=some [b0,b1,b2,b3]:=by rw[r2,hK];rfl
 iterate 2 (try cbv;repeat ((first|with_reducible apply b6 hA|rw[h1]|rw[h2]|rw[h3]|rw[h7]|rw[h5]|rw[h6]|rw[h4]|rw[g0]|rw[g1]|(refine d7 hA [0,1] c1 ⟨rfl,rfl,rfl,rfl,rfl,rfl,rfl⟩ ?_;rintro _ _ ⟨rfl,rfl⟩)|(refine d7 hA [0,1] c2 ⟨rfl,rfl,rfl,rfl,rfl,rfl,rfl⟩ ?_;rintro _ _ ⟨rfl,rfl⟩)|(refine d7 hA [0,1] c3 ⟨rfl,rfl,rfl,rfl,rfl,rfl,rfl⟩ ?_;rintro _ _ ⟨rfl,rfl⟩));cbv))
 try simp (maxSteps:=4000000) only [nc] at *
 exact i6 hA [0,1] ⟨rfl,rfl,rfl,rfl,rfl,rfl,rfl,rfl⟩ ⟨rfl,rfl⟩
theorem b89 (t:Ty) (hop:t.op≠4) (hw:WrF 31 t (d8 t)):WrF 59 t (z7 d8 t):=by
 intro hl;unfold z7 at hl ⊢;rw[c3G hop] at hl ⊢;have c1:=hw hl;rw[a60] at c1 ⊢;obtain⟨op,hop0⟩:∃o,o=t.op:=⟨_,rfl⟩;rw[<-hop0] at c1 hop ⊢;generalize t.name=nm at *;generalize t.n=n at *;generalize rT t.kids=K at *
 try rw[d6] at c1
 try rw[d6] at c1
 try rw[n9] at c1
 try rw[d6] at ⊢
 try rw[d6] at ⊢
 try rw[n9] at ⊢
 generalize rU (d8 t)=R1 at *
 skip
 clear hl hw hop0;refine so9 Tryd.func59 rfl ?_;intro _ _ _ _ _ _ _ _ _ qj;intros;rename_i hA;obtain⟨e1,e2,e3,e4,e5,e6,e7,e8,e9⟩:=j3 hA;obtain⟨r1,r2,r3,r4⟩:=m8 hA;obtain⟨s1,s2,s3,s4,s5,s6,s7⟩:=w7 hA;have h4:qj op 4=false:=by rw[e9];simpa using hop
 iterate 2 (try cbv;repeat ((first|with_reducible apply b6 hA|rw[h4]|(refine d7 hA [0] c1 ⟨rfl,rfl,rfl,rfl,rfl,rfl,rfl⟩ ?_;rintro _ _ ⟨rfl,rfl⟩));cbv))
 try simp (maxSteps:=4000000) only [nc] at *
 exact i6 hA [0,2] ⟨rfl,rfl,rfl,rfl,rfl,rfl,rfl,rfl⟩ ⟨rfl,rfl⟩
theorem b8A (t:Ty) (hop:t.op=4) (hw:WrU 31 t (d8 t)):WrF 59 t (z7 d8 t):=by
 intro hl;unfold z7 at hl ⊢;rw[c3E hop] at hl ⊢;simp only[c3C,c37,c3H] at hl;have c1:=b5g _ a1m 40;have c2:=hw ([40]) (by simp only[c3C,c37,c3H];omega);have c3:=a2v ([40]++d8 t) 41 (by simp only[c3C,c37,c3H];omega);rw[show (40::(d8 t++[41]))=[40]++d8 t++[41] by simp];rw[a60] at c2 ⊢;obtain⟨op,hop0⟩:∃o,o=t.op:=⟨_,rfl⟩;rw[<-hop0] at c2 hop ⊢;generalize t.name=nm at *;generalize t.n=n at *;generalize rT t.kids=K at *
 try rw[d6] at c1
 try rw[d6] at c1
 try rw[n9] at c1
 try rw[d6] at c2
 try rw[d6] at c2
 try rw[n9] at c2
 try rw[d6] at c3
 try rw[d6] at c3
 try rw[n9] at c3
 try rw[d6] at ⊢
 try rw[d6] at ⊢
 try rw[n9] at ⊢
 replace c1:o5 56 [.ptr 0 0,vi .u8 40] _ _:=c1;replace c3:o5 56 [.ptr 0 0,vi .u8 41] _ _:=c3;generalize rU ([40]++d8 t++[41])=R3 at *;generalize rU ([40]++d8 t)=R2 at *;generalize rU ([40])=R1 at *
 skip
 clear hl hw hop0;refine so9 Tryd.func59 rfl ?_;intro _ _ _ _ _ _ _ _ _ qj;intros;rename_i hA;obtain⟨e1,e2,e3,e4,e5,e6,e7,e8,e9⟩:=j3 hA;obtain⟨r1,r2,r3,r4⟩:=m8 hA;obtain⟨s1,s2,s3,s4,s5,s6,s7⟩:=w7 hA;have h4:qj op 4=true:=by rw[e9,hop];rfl
 iterate 2 (try cbv;repeat ((first|with_reducible apply b6 hA|rw[h4]|(refine d7 hA [0] c1 ⟨rfl,rfl,rfl,rfl,rfl,rfl,rfl⟩ ?_;rintro _ _ ⟨rfl,rfl⟩)|(refine d7 hA [0,2] c2 ⟨rfl,rfl,rfl,rfl,rfl,rfl,rfl⟩ ?_;rintro _ _ ⟨rfl,rfl⟩)|(refine d7 hA [0,2] c3 ⟨rfl,rfl,rfl,rfl,rfl,rfl,rfl⟩ ?_;rintro _ _ ⟨rfl,rfl⟩));cbv))
 try simp (maxSteps:=4000000) only [nc] at *
 exact i6 hA [0,2] ⟨rfl,rfl,rfl,rfl,rfl,rfl,rfl,rfl⟩ ⟨rfl,rfl⟩
theorem b30 (nm:ByteArray) (n:Int) (a:Ty) (hw:WrU 58 a (A5 d8 a)):WrF 31 (.mk 5 nm n [a]) (d8 (.mk 5 nm n [a])):=by
 intro hl;have ht:d8 (.mk 5 nm n [a])=123::(A5 d8 a++[125]):=by rw[E5];rfl
 rw[ht] at hl ⊢;simp only[c3C,c37,c3H] at hl;have c1:=b5g _ a1m 123;have c2:=hw ([123]) (by simp only[c3C,c37,c3H];omega);have c3:=a2v ([123]++A5 d8 a) 125 (by simp only[c3C,c37,c3H];omega);rw[show (123::(A5 d8 a++[125]))=[123]++A5 d8 a++[125] by simp];rw[cT,rT,rT];obtain⟨a0,a1,a2,a3,ha⟩:=c9 a;rw[ha] at c2 ⊢
 try rw[d6] at c1
 try rw[d6] at c1
 try rw[n9] at c1
 try rw[d6] at c2
 try rw[d6] at c2
 try rw[n9] at c2
 try rw[d6] at c3
 try rw[d6] at c3
 try rw[n9] at c3
 try rw[d6] at ⊢
 try rw[d6] at ⊢
 try rw[n9] at ⊢
 replace c1:o5 56 [.ptr 0 0,vi .u8 123] _ _:=c1;replace c3:o5 56 [.ptr 0 0,vi .u8 125] _ _:=c3;generalize rU ([123]++A5 d8 a++[125])=R3 at *;generalize rU ([123]++A5 d8 a)=R2 at *;generalize rU ([123])=R1 at *
 skip
 clear hl hw ht;obtain⟨K,hK⟩:∃K,K=[[a0,a1,a2,a3]]:=⟨_,rfl⟩;rw[<-hK];refine so9 Tryd.func31 rfl ?_;intro _ _ _ _ _ _ _ _ _ qj _ _ _ _ _ _ _ _ _ _ _ _ _ qz;intros;rename_i hA;obtain⟨e1,e2,e3,e4,e5,e6,e7,e8,e9⟩:=j3 hA;obtain⟨r1,r2,r3,r4⟩:=m8 hA;obtain⟨s1,s2,s3,s4,s5,s6,s7⟩:=w7 hA;have h1:qj 5 1=false:=e9 _ _;have h2:qj 5 2=false:=e9 _ _;have h3:qj 5 3=false:=e9 _ _;have h7:qj 5 7=false:=e9 _ _;have h5:qj 5 5=true:=e9 _ _;have g0:qz K 0=some [a0,a1,a2,a3]:=by rw[r2,hK];rfl
 iterate 2 (try cbv;repeat ((first|with_reducible apply b6 hA|rw[h1]|rw[h2]|rw[h3]|rw[h7]|rw[h5]|rw[g0]|(refine d7 hA [0] c1 ⟨rfl,rfl,rfl,rfl,rfl,rfl,rfl⟩ ?_;rintro _ _ ⟨rfl,rfl⟩)|(refine d7 hA [0,2] c2 ⟨rfl,rfl,rfl,rfl,rfl,rfl,rfl⟩ ?_;rintro _ _ ⟨rfl,rfl⟩)|(refine d7 hA [0,2] c3 ⟨rfl,rfl,rfl,rfl,rfl,rfl,rfl⟩ ?_;rintro _ _ ⟨rfl,rfl⟩));cbv))
 try simp (maxSteps:=4000000) only [nc] at *
 exact i6 hA [0,2] ⟨rfl,rfl,rfl,rfl,rfl,rfl,rfl,rfl⟩ ⟨rfl,rfl⟩
theorem b31 (nm:ByteArray) (n:Int) (a:Ty) (hw:WrU 58 a (A5 d8 a)):WrF 31 (.mk 6 nm n [a]) (d8 (.mk 6 nm n [a])):=by
 intro hl;have ht:d8 (.mk 6 nm n [a])=60::(A5 d8 a++[62]):=by rw[E5];rfl
 rw[ht] at hl ⊢;simp only[c3C,c37,c3H] at hl;have c1:=b5g _ a1m 60;have c2:=hw ([60]) (by simp only[c3C,c37,c3H];omega);have c3:=a2v ([60]++A5 d8 a) 62 (by simp only[c3C,c37,c3H];omega);rw[show (60::(A5 d8 a++[62]))=[60]++A5 d8 a++[62] by simp];rw[cT,rT,rT];obtain⟨a0,a1,a2,a3,ha⟩:=c9 a;rw[ha] at c2 ⊢
 try rw[d6] at c1
 try rw[d6] at c1
 try rw[n9] at c1
 try rw[d6] at c2
 try rw[d6] at c2
 try rw[n9] at c2
 try rw[d6] at c3
 try rw[d6] at c3
 try rw[n9] at c3
 try rw[d6] at ⊢
 try rw[d6] at ⊢
 try rw[n9] at ⊢
 replace c1:o5 56 [.ptr 0 0,vi .u8 60] _ _:=c1;replace c3:o5 56 [.ptr 0 0,vi .u8 62] _ _:=c3;generalize rU ([60]++A5 d8 a++[62])=R3 at *;generalize rU ([60]++A5 d8 a)=R2 at *;generalize rU ([60])=R1 at *
 skip
 clear hl hw ht;obtain⟨K,hK⟩:∃K,K=[[a0,a1,a2,a3]]:=⟨_,rfl⟩;rw[<-hK];refine so9 Tryd.func31 rfl ?_;intro _ _ _ _ _ _ _ _ _ qj _ _ _ _ _ _ _ _ _ _ _ _ _ qz;intros;rename_i hA;obtain⟨e1,e2,e3,e4,e5,e6,e7,e8,e9⟩:=j3 hA;obtain⟨r1,r2,r3,r4⟩:=m8 hA;obtain⟨s1,s2,s3,s4,s5,s6,s7⟩:=w7 hA;have h1:qj 6 1=false:=e9 _ _;have h2:qj 6 2=false:=e9 _ _;have h3:qj 6 3=false:=e9 _ _;have h7:qj 6 7=false:=e9 _ _;have h5:qj 6 5=false:=e9 _ _;have h6:qj 6 6=true:=e9 _ _;have g0:qz K 0=some [a0,a1,a2,a3]:=by rw[r2,hK];rfl
 iterate 2 (try cbv;repeat ((first|with_reducible apply b6 hA|rw[h1]|rw[h2]|rw[h3]|rw[h7]|rw[h5]|rw[h6]|rw[g0]|(refine d7 hA [0] c1 ⟨rfl,rfl,rfl,rfl,rfl,rfl,rfl⟩ ?_;rintro _ _ ⟨rfl,rfl⟩)|(refine d7 hA [0,2] c2 ⟨rfl,rfl,rfl,rfl,rfl,rfl,rfl⟩ ?_;rintro _ _ ⟨rfl,rfl⟩)|(refine d7 hA [0,2] c3 ⟨rfl,rfl,rfl,rfl,rfl,rfl,rfl⟩ ?_;rintro _ _ ⟨rfl,rfl⟩));cbv))
 try simp (maxSteps:=4000000) only [nc] at *
 exact i6 hA [0,2] ⟨rfl,rfl,rfl,rfl,rfl,rfl,rfl,rfl⟩ ⟨rfl,rfl⟩
theorem b32 (nm:ByteArray) (n:Int) (a b:Ty) (hf:WrF 59 a (z7 d8 a)) (hw:WrU 31 b (d8 b)):WrF 31 (.mk 4 nm n [a,b]) (d8 (.mk 4 nm n [a,b])):=by
 intro hl;have ht:d8 (.mk 4 nm n [a,b])=z7 d8 a++(45::62::d8 b):=by rw[E5];rfl
 rw[ht] at hl ⊢;simp only[c3C,c37,c3H] at hl;have c1:=hf (by omega);have c2:=a6y (z7 d8 a) ⟨#[45,62]⟩ (by rw[show (⟨#[45,62]⟩:ByteArray).size=2 from rfl];first|omega|(simp only[c3C,c37,c3H];omega));rw[show I5 ⟨#[45,62]⟩=[45,62] from rfl] at c2;have c3:=hw (z7 d8 a++[45,62]) (by simp only[c3C,c37,c3H];omega);rw[show (z7 d8 a++(45::62::d8 b))=z7 d8 a++[45,62]++d8 b by simp];rw[cT,rT,rT,rT];obtain⟨a0,a1,a2,a3,ha⟩:=c9 a;obtain⟨b0,b1,b2,b3,hb⟩:=c9 b;rw[ha] at c1 ⊢;rw[hb] at c3 ⊢
 try rw[d6] at c1
 try rw[d6] at c1
 try rw[n9] at c1
 try rw[d6] at c2
 try rw[d6] at c2
 try rw[n9] at c2
 try rw[d6] at c3
 try rw[d6] at c3
 try rw[n9] at c3
 try rw[d6] at ⊢
 try rw[d6] at ⊢
 try rw[n9] at ⊢
 generalize rU (z7 d8 a++[45,62]++d8 b)=R3 at *;generalize rU (z7 d8 a++[45,62])=R2 at *;generalize rU (z7 d8 a)=R1 at *
 skip
 clear hl hf hw ht;obtain⟨K,hK⟩:∃K,K=[[a0,a1,a2,a3],[b0,b1,b2,b3]]:=⟨_,rfl⟩;rw[<-hK];refine so9 Tryd.func31 rfl ?_;intro _ _ _ _ _ _ _ _ _ qj _ _ _ _ _ _ _ _ _ _ _ _ _ qz;intros;rename_i hA;obtain⟨e1,e2,e3,e4,e5,e6,e7,e8,e9⟩:=j3 hA;obtain⟨r1,r2,r3,r4⟩:=m8 hA;obtain⟨s1,s2,s3,s4,s5,s6,s7⟩:=w7 hA;have h1:qj 4 1=false:=e9 _ _;have h2:qj 4 2=false:=e9 _ _;have h3:qj 4 3=false:=e9 _ _;have h7:qj 4 7=false:=e9 _ _;have h5:qj 4 5=false:=e9 _ _;have h6:qj 4 6=false:=e9 _ _;have h4:qj 4 4=true:=e9 _ _;have g0:qz K 0=some [a0,a1,a2,a3]:=by rw[r2,hK];rfl
 have g1:qz K 1=some [b0,b1,b2,b3]:=by rw[r2,hK];rfl
 iterate 2 (try cbv;repeat ((first|with_reducible apply b6 hA|rw[h1]|rw[h2]|rw[h3]|rw[h7]|rw[h5]|rw[h6]|rw[h4]|rw[g0]|rw[g1]|(refine d7 hA [0] c1 ⟨rfl,rfl,rfl,rfl,rfl,rfl,rfl⟩ ?_;rintro _ _ ⟨rfl,rfl⟩)|(refine d7 hA [0,2] c2 ⟨rfl,rfl,rfl,rfl,rfl,rfl,rfl⟩ ?_;rintro _ _ ⟨rfl,rfl⟩)|(refine d7 hA [0,2] c3 ⟨rfl,rfl,rfl,rfl,rfl,rfl,rfl⟩ ?_;rintro _ _ ⟨rfl,rfl⟩));cbv))
 try simp (maxSteps:=4000000) only [nc] at *
 exact i6 hA [0,2] ⟨rfl,rfl,rfl,rfl,rfl,rfl,rfl,rfl⟩ ⟨rfl,rfl⟩
theorem b01 (nm:ByteArray) (n:Int) (ks:List Ty):WrF 31 (.mk 1 nm n ks) (d8 (.mk 1 nm n ks)):=by
 intro hl;have ht:d8 (.mk 1 nm n ks)=[73,110,116]:=by rw[E5];rfl
 rw[ht];have c1:=b86 _ a1m ⟨#[73,110,116]⟩ (by show ([73,110,116]:List UInt8).length<=_;simp);rw[show I5 ⟨#[73,110,116]⟩=[73,110,116] from rfl] at c1;rw[cT];generalize rT ks=K;rw[d6,n9] at c1 ⊢;generalize rU [73,110,116]=R1 at *;refine so9 Tryd.func31 rfl ?_;intro _ _ _ _ _ _ _ _ _ qj;intros;rename_i hA;obtain⟨e1,e2,e3,e4,e5,e6,e7,e8,e9⟩:=j3 hA;obtain⟨r1,r2,r3,r4⟩:=m8 hA;obtain⟨s1,s2,s3,s4,s5,s6,s7⟩:=w7 hA;have h1:qj 1 1=true:=e9 _ _
 iterate 2 (try cbv;repeat ((first|with_reducible apply b6 hA|rw[h1]|(refine d7 hA [0] c1 ⟨rfl,rfl,rfl,rfl,rfl,rfl,rfl⟩ ?_;rintro _ _ ⟨rfl,rfl⟩));cbv))
 try simp (maxSteps:=4000000) only [nc] at *
 exact i6 hA [0,2] ⟨rfl,rfl,rfl,rfl,rfl,rfl,rfl,rfl⟩ ⟨rfl,rfl⟩
theorem b02 (nm:ByteArray) (n:Int) (ks:List Ty):WrF 31 (.mk 2 nm n ks) (d8 (.mk 2 nm n ks)):=by
 intro hl;have ht:d8 (.mk 2 nm n ks)=[66,111,111,108]:=by rw[E5];rfl
 rw[ht];have c1:=b86 _ a1m ⟨#[66,111,111,108]⟩ (by show ([66,111,111,108]:List UInt8).length<=_;simp);rw[show I5 ⟨#[66,111,111,108]⟩=[66,111,111,108] from rfl] at c1;rw[cT];generalize rT ks=K;rw[d6,n9] at c1 ⊢;generalize rU [66,111,111,108]=R1 at *;refine so9 Tryd.func31 rfl ?_;intro _ _ _ _ _ _ _ _ _ qj;intros;rename_i hA;obtain⟨e1,e2,e3,e4,e5,e6,e7,e8,e9⟩:=j3 hA;obtain⟨r1,r2,r3,r4⟩:=m8 hA;obtain⟨s1,s2,s3,s4,s5,s6,s7⟩:=w7 hA;have h1:qj 2 1=false:=e9 _ _;have h2:qj 2 2=true:=e9 _ _
 iterate 2 (try cbv;repeat ((first|with_reducible apply b6 hA|rw[h1]|rw[h2]|(refine d7 hA [0] c1 ⟨rfl,rfl,rfl,rfl,rfl,rfl,rfl⟩ ?_;rintro _ _ ⟨rfl,rfl⟩));cbv))
 try simp (maxSteps:=4000000) only [nc] at *
 exact i6 hA [0,2] ⟨rfl,rfl,rfl,rfl,rfl,rfl,rfl,rfl⟩ ⟨rfl,rfl⟩
theorem b03 (nm:ByteArray) (n:Int) (ks:List Ty):WrF 31 (.mk 3 nm n ks) (d8 (.mk 3 nm n ks)):=by
 intro hl;have ht:d8 (.mk 3 nm n ks)=[63]:=by rw[E5];rfl
 rw[ht];have c1:=b5g _ a1m 63;replace c1:o5 56 [.ptr 0 0,vi .u8 63] _ _:=c1;rw[cT];generalize rT ks=K;rw[d6,n9] at c1 ⊢;generalize rU [63]=R1 at *;refine so9 Tryd.func31 rfl ?_;intro _ _ _ _ _ _ _ _ _ qj;intros;rename_i hA;obtain⟨e1,e2,e3,e4,e5,e6,e7,e8,e9⟩:=j3 hA;obtain⟨r1,r2,r3,r4⟩:=m8 hA;obtain⟨s1,s2,s3,s4,s5,s6,s7⟩:=w7 hA;have h1:qj 3 1=false:=e9 _ _;have h2:qj 3 2=false:=e9 _ _;have h3:qj 3 3=true:=e9 _ _
 iterate 2 (try cbv;repeat ((first|with_reducible apply b6 hA|rw[h1]|rw[h2]|rw[h3]|(refine d7 hA [0] c1 ⟨rfl,rfl,rfl,rfl,rfl,rfl,rfl⟩ ?_;rintro _ _ ⟨rfl,rfl⟩));cbv))
 try simp (maxSteps:=4000000) only [nc] at *
 exact i6 hA [0,2] ⟨rfl,rfl,rfl,rfl,rfl,rfl,rfl,rfl⟩ ⟨rfl,rfl⟩
theorem b33 (nm:ByteArray) (n:Int) (ks:List Ty) (h0:0<=n) (h1:n<=9223372036854775807):WrF 31 (.mk 7 nm n ks) (d8 (.mk 7 nm n ks)):=by
 intro hl;have ht:d8 (.mk 7 nm n ks)=39::Lib.itoa n:=by rw[E5];rfl
 rw[ht] at hl ⊢;have hi:=b3t n (by omega) h1;have hb:I5 (⟨#[39]⟩++⟨(Lib.itoa n).toArray⟩:ByteArray)=39::Lib.itoa n:=by unfold I5;simp
 have hz:(⟨#[39]⟩++⟨(Lib.itoa n).toArray⟩:ByteArray).size=(39::Lib.itoa n).length:=by rw[<-hb,B3]
 have c1:=b86 _ a1m (⟨#[39]⟩++⟨(Lib.itoa n).toArray⟩) (by rw[hz];exact hl);rw[hb] at c1
 have hfit:(⟨#[39]⟩:ByteArray).size+(⟨(Lib.itoa n).toArray⟩:ByteArray).size<=4611686018427387904:=by
  have h2:(⟨#[39]⟩++⟨(Lib.itoa n).toArray⟩:ByteArray).size=(⟨#[39]⟩:ByteArray).size+(⟨(Lib.itoa n).toArray⟩:ByteArray).size:=by simp
  rw[<-h2,hz];omega
 rw[cT];generalize rT ks=K;rw[d6,n9] at c1 ⊢;generalize rU (39::Lib.itoa n)=R1 at *;clear hl hz hb ht;generalize (⟨(Lib.itoa n).toArray⟩:ByteArray)=D at *;obtain⟨S,hS⟩:∃S,S=(⟨#[39]⟩++D:ByteArray):=⟨_,rfl⟩;rw[<-hS] at c1;refine so9 Tryd.func31 rfl ?_;intro _ _ _ _ _ _ _ _ _ qj _ _ _ _ qp;intros;rename_i hA;obtain⟨e1,e2,e3,e4,e5,e6,e7,e8,e9⟩:=j3 hA;obtain⟨r1,r2,r3,r4⟩:=m8 hA;obtain⟨s1,s2,s3,s4,s5,s6,s7⟩:=w7 hA;have h1:qj 7 1=false:=e9 _ _;have h2:qj 7 2=false:=e9 _ _;have h3:qj 7 3=false:=e9 _ _;have h7:qj 7 7=true:=e9 _ _;have hc:qp ⟨#[39]⟩ D=S:=by rw[s4,hS]
 iterate 2 (try cbv;repeat ((first|with_reducible apply b6 hA|rw[h1]|rw[h2]|rw[h3]|rw[h7]|refine c5 hA _ hi rfl ?_|refine c7 hA _ hi ?_);cbv))
 try simp (maxSteps:=4000000) only [nc] at *
 refine A6 hA hfit ?_;cbv;rw[hc]
 iterate 2 (try cbv;repeat ((first|with_reducible apply b6 hA|(refine d7 hA [0] c1 ⟨rfl,rfl,rfl,rfl,rfl,rfl,rfl⟩ ?_;rintro _ _ ⟨rfl,rfl⟩));cbv))
 try simp (maxSteps:=4000000) only [nc] at *
 exact i6 hA [0,2] ⟨rfl,rfl,rfl,rfl,rfl,rfl,rfl,rfl⟩ ⟨rfl,rfl⟩
theorem Mod.part {t x:Ty} (h:Mod t) (hx:x∈t.parts):Mod x:=λy hy=>h y (A2 hy hx)
theorem b6x (W:ByteArray->Bool):∀(m:Nat) (t:Ty),t.parts.length<=m->c8 W t 116=true->Mod t->WrU 31 t (d8 t)/\WrF 31 t (d8 t):=by
 intro m
 induction m with
 | zero=>intro t h;have:=j5 t;omega
 | succ m ih =>
  intro t hm hs hM;have hkl:=m9 t;have hself:=hM.self;obtain⟨h0,hc⟩:=H4 hs
  have hfrom:∀a:Ty,WrU 31 a (d8 a)/\WrF 31 a (d8 a)->WrU 59 a (z7 d8 a)/\WrF 59 a (z7 d8 a):=λa ha=>by
   by_cases h4:a.op=4
   ·exact⟨b88 a h4 ha.1,b8A a h4 ha.1⟩
   ·exact⟨b87 a h4 ha.1,b89 a h4 ha.2⟩
  have hrow:∀a:Ty,a∈t.kids->c8 W a 114=true->WrU 58 a (A5 d8 a):=λa ha hsa=>by
   have h1:=hkl.2 a ha;exact c2J W a hsa (λx hx=>((hM.kid ha) x hx).2.2) λx hx hxm hxs=>(ih x (by omega) hxs ((hM.kid ha).part hxm)).1
  rw[Ty.eta t] at hm hs hM ⊢
  rcases hc with⟨hop,hk⟩|⟨hop,a,b,hk,hsa,hsb⟩|⟨hop,a,hk,hsa⟩
  ·rcases hop with h|h|h|h
   ·exact⟨a4z _ (.inl h),by rw[h];exact b01 _ _ _⟩
   ·exact⟨a4z _ (.inr (.inl h)),by rw[h];exact b02 _ _ _⟩
   ·exact⟨a4z _ (.inr (.inr h)),by rw[h];exact b03 _ _ _⟩
   ·rw[h];refine⟨?_,b33 _ _ _ h0 hself.2.2⟩;have h1:=b6v t.name t.n t.kids h0 hself.2.2;rw[show d8 (.mk 7 t.name t.n t.kids)=39::Lib.itoa t.n by rw[E5];rfl];exact h1
  ·have ha:=ih a (by have:=hkl.2 a (by rw[hk];simp);rw[<-Ty.eta t] at hm;omega) hsa (by rw[<-Ty.eta t] at hM;exact hM.kid (by rw[hk];simp));have hb:=ih b (by have:=hkl.2 b (by rw[hk];simp);rw[<-Ty.eta t] at hm;omega) hsb (by rw[<-Ty.eta t] at hM;exact hM.kid (by rw[hk];simp));rw[hop,hk];exact⟨b3z _ _ a b (hfrom a ha).1 hb.1,b32 _ _ a b (hfrom a ha).2 hb.1⟩
  ·have hr:=hrow a (by rw[hk];simp) hsa;rw[hk]
   rcases hop with h|h
   ·rw[h];exact⟨b3x _ _ a hr,b30 _ _ a hr⟩
   ·rw[h];exact⟨b3y _ _ a hr,b31 _ _ a hr⟩
end Go.Proofs.YtlofmibkljoapaaDoor.Vm
end
section
namespace Go.Proofs.YtlofmibkljoapaaDoor.Vm
open Go.RowKit Go.ChangeShapes Go.WideShapes Go.Deep
section
inductive Deep (P:Program):Nat->List D->Nat->Prop
 | bool {t:Nat} (b:Bool) (h:P.underlying t=some .bool):Deep P t [.sc (.bool b)] 1
 | int {t:Nat} {k:IntKind} (n:Int) (h:P.underlying t=some (.int k)) (hw:(Lit.int k n).wf=true):Deep P t [.sc (.int k n)] 1
 | str {t:Nat} (s:ByteArray) (h:P.underlying t=some .string) (hs:s.size<=maxLen):Deep P t [.sc (.string s)] (s.size+1)
 | sl {t e:Nat} (rows:List (List D)) (ms:List Nat) (h:P.underlying t=some (.slice e)) (hl:ms.length=rows.length) (hb:rows.length<=maxLen)
   (hr:∀(i:Nat) (r:List D) (m:Nat),rows[i]?=some r->ms[i]?=some m->Deep P e r m):Deep P t [.sl (P.cellsOf e) rows] (ms.sum+1)
 | st {t:Nat} {fs:Array Field} (dss:List (List D)) (ms:List Nat) (h:P.underlying t=some (.struct fs)) (h1:dss.length=fs.size) (h2:ms.length=fs.size)
   (hf:∀(i:Nat) (f:Field) (ds:List D) (m:Nat),fs[i]?=some f->dss[i]?=some ds->ms[i]?=some m->Deep P f.type ds m):Deep P t dss.flatten (ms.sum+1)
def a1n (P:Program) (t:Nat) (r:R) (m:Nat):Prop:=match P.underlying t,r with
 | some (.struct _),.ag xs=>Deep P t xs m
 | some (.struct _),.one _=>False
 | _,.one x=>Deep P t [x] m
 | _,.ag _=>False
section
variable {P:Program} {t:Nat} {ds:List D} {m:Nat}
theorem Deep.unint {k:IntKind} (h:Deep P t ds m) (hu:P.underlying t=some (.int k)):∃n,ds=[.sc (.int k n)]/\(Lit.int k n).wf=true/\m=1:=by
 cases h with
 | int n h hw=>rw[hu] at h;cases h;exact⟨n,rfl,hw,rfl⟩
 | _=>simp_all
theorem Deep.unbool (h:Deep P t ds m) (hu:P.underlying t=some .bool):∃b,ds=[.sc (.bool b)]/\m=1:=by
 cases h with
 | bool b h=>exact⟨b,rfl,rfl⟩
 | _=>simp_all
theorem Deep.unstr (h:Deep P t ds m) (hu:P.underlying t=some .string):∃s:ByteArray,ds=[.sc (.string s)]/\s.size<=maxLen/\m=s.size+1:=by
 cases h with
 | str s h hs=>exact⟨s,rfl,hs,rfl⟩
 | _=>simp_all
theorem Deep.unsl {e:Nat} (h:Deep P t ds m) (hu:P.underlying t=some (.slice e)):∃(rows:List (List D)) (ms:List Nat),ds=[.sl (P.cellsOf e) rows]/\ms.length=rows.length/\rows.length<=maxLen/\m=ms.sum+1 /\
  ∀(i:Nat) (r:List D) (m:Nat),rows[i]?=some r->ms[i]?=some m->Deep P e r m:=by
 cases h with
 | sl rows ms h hl hb hr=>rw[hu] at h;cases h;exact⟨rows,ms,rfl,hl,hb,rfl,hr⟩
 | _=>simp_all
theorem Deep.unst {fs:Array Field} (h:Deep P t ds m) (hu:P.underlying t=some (.struct fs)):∃(dss:List (List D)) (ms:List Nat),ds=dss.flatten/\dss.length=fs.size/\ms.length=fs.size/\m=ms.sum+1 /\
  ∀(i:Nat) (f:Field) (ds:List D) (m:Nat),fs[i]?=some f->dss[i]?=some ds->ms[i]?=some m->Deep P f.type ds m:=by
 cases h with
 | st dss ms h h1 h2 hf=>rw[hu] at h;cases h;exact⟨dss,ms,rfl,h1,h2,rfl,hf⟩
 | _=>simp_all
theorem a1n.one {r:R} (h:a1n P t r m) (hu:∀fs,P.underlying t≠some (.struct fs)):∃x,r=.one x/\Deep P t [x] m:=by
 unfold a1n at h
 split at h
 ·exact absurd (by assumption) (hu _)
 ·exact h.elim
 ·exact⟨_,rfl,h⟩
 ·exact h.elim
theorem a1n.ag {r:R} {fs:Array Field} (h:a1n P t r m) (hu:P.underlying t=some (.struct fs)):∃xs,r=.ag xs/\Deep P t xs m:=by
 unfold a1n at h;rw[hu] at h;cases r with
 | one x=>exact h.elim
 | ag xs=>exact⟨xs,rfl,h⟩
end
def a6F (P:Program):List Field->Nat->Nat->Bool
 | [],n,c=>Nat.beq n c
 | f::fs,n,c=>Nat.beq f.offset n && a6F P fs (n+P.cellsOf f.type) c
def b04 (P:Program) (L:List Nat) (t:Nat):Bool:=match P.underlying t with
 | some .bool=>true
 | some (.int _)=>true
 | some .string=>true
 | some (.slice e)=>L.contains e && Nat.blt 0 (P.cellsOf e)
 | some (.struct fs)=>(fs.toList.all λf=>L.contains f.type) && a6F P fs.toList 0 (P.cellsOf t)
 | _=>false
def dataOk (P:Program) (L:List Nat):Bool:=L.all (b04 P L)
theorem b05 {β:Type}:∀ {n:Nat} {p:Nat->β->Prop},(∀i,i<n->∃b,p i b)->∃l:List β,l.length=n/\∀(i:Nat) b,l[i]?=some b->p i b
 | 0,p,h=>⟨[],rfl,λi b hi=>by simp at hi⟩
 | n+1,p,h=>by
  obtain⟨b0,h0⟩:=h 0 (by omega);obtain⟨l,hl,hp⟩:=b05 (n:=n) (p:=λi b=>p (i+1) b) λi hi=>h (i+1) (by omega)
  refine⟨b0::l,by simp[hl],λi b hi=>?_⟩;cases i with
  | zero=>simp at hi;subst hi;exact h0
  | succ i=>exact hp i b (by simpa using hi)
theorem a6d {I:Nat->Nat->Prop} {w:World}:∀ {css:List (List Value)} {dss:List (List D)},css.length=dss.length->(∀(i:Nat) cs ds,css[i]?=some cs->dss[i]?=some ds->s9 I w cs ds)->s9 I w css.flatten dss.flatten
 | [],[],_,_=>s9.nil I w
 | c::css,d::dss,hl,h=>by
  rw[c4x,c4x];exact(h 0 c d rfl rfl).append (a6d (by simpa using hl) λi cs ds h1 h2=>h (i+1) cs ds (by simpa using h1) (by simpa using h2))
 | [],_::_,hl,_=>by simp at hl
 | _::_,[],hl,_=>by simp at hl
theorem a8r {P:Program} {cs:List Value}:∀(fs:List Field) (n c:Nat),a6F P fs n c=true->cs.length=c->cs.drop n=(fs.map λf=>(cs.drop f.offset).take (P.cellsOf f.type)).flatten
 | [],n,c,h,hl=>by
  have:n=c:=c5d h;rw[c4m (by omega)];rfl
 | f::fs,n,c,h,hl=>by
  rw[a6F,c3D] at h;have h1:f.offset=n:=c5d h.1;rw[c3Y,c4x,<-a8r fs _ c h.2 hl,h1,<-List.drop_drop,c4D]
theorem a8s {H:Type}:∀ {ms:List Nat} {els:List (DataW H)},ms.length=els.length->(∀(i m:Nat) y,ms[i]?=some m->els[i]?=some y->m<=Rows.uptoBulk y)->ms.sum<=Rows.uptoBulkAll els
 | [],[],_,_=>by simp
 | m::ms,y::els,hl,h=>by
  have h1:=h 0 m y rfl rfl;have h2:=a8s (ms:=ms) (els:=els) (by simpa using hl) λi m y hm hy=>h (i+1) m y (by simpa using hm) (by simpa using hy)
  simp only[c4I,Rows.uptoBulkAll];omega
 | [],_::_,hl,_=>by simp at hl
 | _::_,[],hl,_=>by simp at hl
def Low (w:World) (b _h:Nat):Prop:=b<w.heap.size
section
variable {H:Type} {enc:TypeId×Value->H} {P:Program} {w:World} {base:Nat} {spare:Nat->Bool} {held:Bool}
theorem a6e {L:List Nat} (hL:dataOk P L=true):∀(fuel t:Nat) (cs:List Value) (x:DataW H×List MemPlace),t∈L->DataW.trod enc P w base spare held fuel t cs=some x->∃ds m,s9 (Low w) w cs ds/\Deep P t ds m/\m<=Rows.uptoBulk x.1
 | 0,t,cs,x,ht,h=>by simp[DataW.trod] at h
 | fuel+1,t,cs,x,ht,h=>by
  have hk:=c4g.1 hL t ht;unfold b04 at hk
  split at hk
  ·rename_i e;obtain⟨b,rfl,rfl⟩:=DataW.trod_bool e h;exact⟨_,_,s9.cons (.sc _ rfl) (s9.nil _ _),.bool b e,by simp[Rows.uptoBulk]⟩
  ·rename_i k e;obtain⟨n,rfl,rfl,hw⟩:=DataW.trod_int e h;exact⟨_,_,s9.cons (.sc _ rfl) (s9.nil _ _),.int n e hw,by simp[Rows.uptoBulk]⟩
  ·rename_i e;obtain⟨s,rfl,rfl,hs⟩:=DataW.trod_string e h;refine⟨_,_,s9.cons (.sc _ rfl) (s9.nil _ _),.str s e hs,?_⟩;have e2:s.data.toList.length=s.size:=by rw[c5r];rfl
   simp only[Rows.uptoBulk];omega
  ·rename_i e he;simp only[c3D,c4A,c42] at hk
   rcases DataW.trod_slice he h with⟨rfl,rfl⟩|⟨a,len,cap,elems,rest,n,hfu,rfl,rfl,hb,hl,hm,hlen,hel,_,_⟩
   ·exact⟨_,_,s9.cons (.nil none 0 (P.cellsOf e)) (s9.nil _ _),.sl [] [] he rfl (c4e _) (λi r m hr=>by simp at hr),by simp[Rows.uptoBulk]⟩
   ·obtain rfl:n=fuel:=by omega
    have each:∀i,i<len->∃q:List Value×List D×Nat,(w.cells? base (a.add (i * P.cellsOf e)) (P.cellsOf e)=some q.1)/\s9 (Low w) w q.1 q.2.1/\Deep P e q.2.1 q.2.2/\∃y,elems[i]?=some y/\q.2.2<=Rows.uptoBulk y.1:=by
     intro i hi;have h1:=hel i hi;have hei:elems[i]?=some (elems[i]'(by omega)):=c39 (by omega);rw[hei,Option.bind_eq_some_iff] at h1;obtain⟨cs',hc,ht'⟩:=h1;obtain⟨ds,m,h2,h3,h4⟩:=a6e hL n e cs' _ hk.1 ht';exact⟨(cs',ds,m),hc,h2,h3,_,hei,h4⟩
    obtain⟨l,hll,hp⟩:=b05 each
    have hmap:∀ {β:Type} (f:List Value×List D×Nat->β) (i:Nat) (b:β),(l.map f)[i]?=some b->∃q,l[i]?=some q/\f q=b:=λf i b hi=>by
     rw[c4j,c40] at hi;exact hi
    have hrl:(l.map λq=>q.2.1).length=len:=by rw[c4h,hll]
    have hcl:∀r∈l.map (λq=>q.1),r.length=P.cellsOf e:=λr hr=>by
     obtain⟨i,hi⟩:=c4f.1 hr;obtain⟨q,hq,rfl⟩:=hmap _ i r hi;exact(World.cells?_some (hp i q hq).1).2.1
    have hdl:∀r∈l.map (λq=>q.2.1),r.length=P.cellsOf e:=λr hr=>by
     obtain⟨i,hi⟩:=c4f.1 hr;obtain⟨q,hq,rfl⟩:=hmap _ i r hi;rw[<-(hp i q hq).2.1.1];exact(World.cells?_some (hp i q hq).1).2.1
    have hD:Deep P t [.sl (P.cellsOf e) (l.map λq=>q.2.1)] ((l.map λq=>q.2.2).sum+1):=by
     refine .sl _ _ he (by simp) (by rw[hrl];omega) λi r m hr hm=>?_
     obtain⟨q,hq,rfl⟩:=hmap _ i r hr;obtain⟨q',hq',rfl⟩:=hmap _ i m hm;rw[hq] at hq';cases hq';exact(hp i q hq).2.2.1
    have hB:(l.map λq=>q.2.2).sum+1<=Rows.uptoBulk (DataW.slice (elems.map (·.1)) (rest.map (·.1))):=by
     have:=a8s (ms:=l.map λq=>q.2.2) (els:=elems.map (·.1)) (by simp[hll,hlen]) λi m y hm hy=>by
      obtain⟨q,hq,rfl⟩:=hmap _ i m hm;obtain⟨y',hy',h4⟩:=(hp i q hq).2.2.2;rw[c4j,hy'] at hy;cases hy;exact h4
     simp only[Rows.uptoBulk];omega
    refine⟨_,_,s9.cons ?_ (s9.nil _ _),hD,hB⟩
    by_cases h0:len=0
    ·subst h0;rw[c3P hll];exact .nil _ _ _
    obtain⟨b,off,spot⟩:=a;obtain⟨q0,hq0⟩:∃q,l[0]?=some q:=⟨_,c39 (by omega)⟩;have hc0:=(World.cells?_some (hp 0 q0 hq0).1).2;have hq00:q0.1[0]?=some (q0.1[0]'(by omega)):=c39 (by omega);have hcell0:=(hc0.2 0 hk.2).trans hq00
    have hspot:spot=none:=by
     have:=World.cell?_spot hcell0
     simpa [Addr.add] using this
    subst hspot
    have hblk:b<w.heap.size:=by
     have:=World.block_lt_of_cell? w _ hcell0
     simpa [Addr.add] using this
    have add0:∀o j,(⟨b,o,none⟩:Addr).add j=⟨b,o+j,none⟩:=λo j=>by
     unfold Addr.add
     by_cases hj:j=0
     ·subst hj;rfl
     ·simp[hj]
    have hus:(l.map λq=>q.1).flatten.length=len * P.cellsOf e:=by rw[a0T hcl,c4h,hll]
    have hsl:=AtD.sl (I:=Low w) (w:=w) b off cap (P.cellsOf e) (l.map λq=>q.2.1) (l.map λq=>q.1).flatten (by rw[hrl];exact hl) ⟨_,c3A _,hblk⟩ hdl (by rw[hus,hrl]) (λi u hu=>?_) (λi u d hu hd=>?_)
    ·rw[hrl] at hsl;exact hsl
    ·have hi:i<len * P.cellsOf e:=by rw[<-hus];exact(c35.1 hu).1
     have hq:i / P.cellsOf e<len:=(c5J hk.2).2 hi;have hr:i % P.cellsOf e<P.cellsOf e:=Nat.mod_lt _ hk.2;have ei:i / P.cellsOf e * P.cellsOf e+i % P.cellsOf e=i:=by rw[Nat.mul_comm];exact c5T i _
     obtain⟨q,hqq⟩:∃q,l[i / P.cellsOf e]?=some q:=⟨_,c39 (by omega)⟩;have hcq:=(World.cells?_some (hp _ q hqq).1).2.2 _ hr;have hfl:=L6 hcl (i:=i / P.cellsOf e) (j:=i % P.cellsOf e) (r:=q.1) (by rw[c4j,hqq];rfl) hr;rw[ei,hu] at hfl;rw[<-hfl,add0,add0,c4K,ei] at hcq;exact hcq
    ·exact(a6d (I:=Low w) (w:=w) (css:=l.map λq=>q.1) (dss:=l.map λq=>q.2.1) (by simp) λi cs ds h1 h2=>by
      obtain⟨q,hq,rfl⟩:=hmap _ i cs h1;obtain⟨q',hq',rfl⟩:=hmap _ i ds h2;rw[hq] at hq';cases hq'
      exact(hp i q hq).2.1).2 i u d hu hd
  ·rename_i fs he;simp only[c3D,c4g,c4A] at hk;obtain⟨xs,n,hfu,rfl,hcl,hxl,hf⟩:=DataW.trod_struct he h;obtain rfl:n=fuel:=by omega
   have each:∀i,i<fs.size->∃q:List D×Nat,∀f,fs[i]?=some f->s9 (Low w) w ((cs.drop f.offset).take (P.cellsOf f.type)) q.1/\Deep P f.type q.1 q.2/\∃y,xs[i]?=some y/\q.2<=Rows.uptoBulk y.1:=by
    intro i hi;have hfi:fs[i]?=some fs[i]:=c4S hi;have hxi:xs[i]?=some (xs[i]'(by omega)):=c39 (by omega);have h1:=hf i _ hfi;rw[hxi] at h1;obtain⟨ds,m,h2,h3,h4⟩:=a6e hL n _ _ _ (hk.1 _ (Array.getElem_mem_toList ..)) h1;refine⟨(ds,m),λf hff=>?_⟩;rw[hfi] at hff;cases hff;exact⟨h2,h3,_,hxi,h4⟩
   obtain⟨l,hll,hp⟩:=b05 each
   have hmap:∀ {β:Type} (f:List D×Nat->β) (i:Nat) (b:β),(l.map f)[i]?=some b->∃q,l[i]?=some q/\f q=b:=λf i b hi=>by
    rw[c4j,c40] at hi;exact hi
   refine⟨(l.map (·.1)).flatten,(l.map (·.2)).sum+1,?_,.st _ _ he (by simp[hll]) (by simp[hll]) λi f ds m h1 h2 h3=>?_,?_⟩
   ·have hcut:=a8r fs.toList 0 _ hk.2 hcl;rw[List.drop_zero] at hcut;rw[hcut];refine a6d (by simp[hll]) λi c d h1 h2=>?_
    rw[c4j,c40] at h1;obtain⟨f,hfi,rfl⟩:=h1;obtain⟨q,hq,rfl⟩:=hmap _ i d h2;exact(hp i q hq f (by simpa using hfi)).1
   ·obtain⟨q,hq,rfl⟩:=hmap _ i ds h2;obtain⟨q',hq',rfl⟩:=hmap _ i m h3;rw[hq] at hq';cases hq';exact(hp i q hq f h1).2.1
   ·have:=a8s (ms:=l.map (·.2)) (els:=xs.map (·.1)) (by simp[hll,hxl]) λi m y hm hy=>by
     obtain⟨q,hq,rfl⟩:=hmap _ i m hm;have hlt:i<fs.size:=by rw[<-hll];exact(c35.1 hq).1
     obtain⟨y',hy',h4⟩:=(hp i q hq _ (c4S hlt)).2.2;rw[c4j,hy'] at hy;cases hy;exact h4
    simp only[Rows.uptoBulk];omega
  ·cases hk
theorem open_arg {L:List Nat} (hL:dataOk P L=true) {t:Nat} {v:Value} {d:DataW H} {ps:List MemPlace} {rc:Reach} {b0:Nat} (ht:L.contains t=true) (hv:Value.okWide P w rc b0 t v) (h:DataW.Trod enc P w base spare held t v d ps) :
  ∃r m,AtR (Low w) w v r/\a1n P t r m/\m<=Rows.uptoBulk d:=by
 rw[c4A] at ht;obtain⟨fuel,hf⟩:=h;obtain⟨ds,m,h1,h2,h3⟩:=a6e hL fuel t _ _ ht hf;have hk:=c4g.1 hL t ht;unfold b04 at hk
 split at hk
 ·rename_i e;obtain⟨b,rfl⟩:=okWide_bool e hv;obtain⟨b',rfl,rfl⟩:=h2.unbool e;obtain⟨u,us',e2,h4,_⟩:=h1.uncons
  simp[Value.cells] at e2
  rw[<-e2.1] at h4;exact⟨.one _,_,h4,by unfold a1n;rw[e];exact h2,h3⟩
 ·rename_i k e;obtain⟨b,rfl⟩:=okWide_int e hv;obtain⟨b',rfl,_,rfl⟩:=h2.unint e;obtain⟨u,us',e2,h4,_⟩:=h1.uncons
  simp[Value.cells] at e2
  rw[<-e2.1] at h4;exact⟨.one _,_,h4,by unfold a1n;rw[e];exact h2,h3⟩
 ·rename_i e;obtain⟨b,rfl⟩:=okWide_string e hv;obtain⟨b',rfl,_,rfl⟩:=h2.unstr e;obtain⟨u,us',e2,h4,_⟩:=h1.uncons
  simp[Value.cells] at e2
  rw[<-e2.1] at h4;exact⟨.one _,_,h4,by unfold a1n;rw[e];exact h2,h3⟩
 ·rename_i el e;obtain⟨a,len,cap,rfl⟩:=okWide_slice e hv;obtain⟨rows,ms,rfl,_,_,rfl,_⟩:=h2.unsl e;obtain⟨u,us',e2,h4,_⟩:=h1.uncons
  simp[Value.cells] at e2
  rw[<-e2.1] at h4;exact⟨.one _,_,h4,by unfold a1n;rw[e];exact h2,h3⟩
 ·rename_i fs e;obtain⟨cs,rfl,_⟩:=okWide_struct e hv;exact⟨.ag ds,m,⟨cs.toList,by simp,h1⟩,by unfold a1n;rw[e];exact h2,h3⟩
 ·cases hk
end
theorem law_true {f:Nat} {rs:List R} (h:l6 f rs [.one (.sc (.bool true))]) {w:World} {args:List Value} (hat:a3I (Low w) w args rs) (hT:Tabs (λ_=>False) w:=by exact λ_ h=>nomatch h):Calls Tryd.prog f args.toArray w λe w'=>e=.returned (.bool true)/\Below w.heap.size w w':=by
 refine(h.2 (Low w) w args ⟨λ_ _ h=>h,hT⟩ hat).mono ?_
 rintro e w' ⟨v,rfl,hv,hb⟩
 cases hv;exact⟨rfl,hb⟩
end
end Go.Proofs.YtlofmibkljoapaaDoor.Vm
end
section
namespace Go.Proofs.YtlofmibkljoapaaDoor.Vm
open Go.RowKit
set_option maxRecDepth 100000
set_option maxHeartbeats 4000000

def b34 (x:Ty):Prop:=x.name.size<=maxLen/\(Lit.int .u8 x.op).wf=true/\(Lit.int .i64 x.n).wf=true
def a3L (t:Ty):Prop:=∀x∈t.parts,b34 x
theorem a3L.kid {t k:Ty} (h:a3L t) (hk:k∈t.kids):a3L k:=λx hx=>h x (by rw[d9];exact c36 _ (c4a.2 ⟨k,hk,hx⟩))
theorem a3L.self {t:Ty} (h:a3L t):b34 t:=h t (by rw[r7];exact c38 ..)
theorem b8B:Tryd.prog.cellsOf 25=4:=by kernel_rfl
set_option maxRecDepth 100000 in
theorem c0e:∀(m:Nat) (ds:List D),Deep Tryd.prog 25 ds m->∃t:Ty,ds=cT t/\t.parts.length<=m/\a3L t/\∀x∈t.parts,x.name.size<=m:=by
 intro m
 induction m using Nat.strongRecOn with
 | ind m ih =>
  intro ds h;obtain⟨dss,ms,rfl,h1,h2,rfl,hf⟩:=h.unst Tryd.underlying25
  match dss,ms,h1,h2,hf with
  | [d0,d1,d2,d3],[m0,m1,m2,m3],_,_,hf =>
   obtain⟨op,rfl,w0,rfl⟩:=(hf 0 _ d0 m0 rfl rfl rfl).unint Tryd.underlying22;obtain⟨nm,rfl,w1,rfl⟩:=(hf 1 _ d1 m1 rfl rfl rfl).unstr Tryd.underlying9;obtain⟨n,rfl,w2,rfl⟩:=(hf 2 _ d2 m2 rfl rfl rfl).unint Tryd.underlying3;obtain⟨rows,ks,rfl,hl,hb,rfl,hr⟩:=(hf 3 _ d3 m3 rfl rfl rfl).unsl Tryd.underlying23;clear hf h
   have key:∀(rows:List (List D)) (ks:List Nat),ks.length=rows.length->ks.sum<1+(nm.size+1+(1+(ks.sum+1+0)))+1->(∀(i:Nat) (r:List D) (m':Nat),rows[i]?=some r->ks[i]?=some m'->m'<[1,nm.size+1,1,ks.sum+1].sum+1->∃t:Ty,r=cT t/\t.parts.length<=m'/\a3L t/\∀x∈t.parts,x.name.size<=m') ->
     ∃ts:List Ty,rows=rT ts/\(o8 ts).length<=ks.sum/\∀x∈o8 ts,b34 x/\x.name.size<=ks.sum:=by
    intro rows
    induction rows with
    | nil=>intro ks hl _ _;exact⟨[],by rw[rT],by rw[o8];simp,λx hx=>by rw[o8] at hx;simp at hx⟩
    | cons r rows ihr =>
     intro ks hl hs hrr
     match ks,hl with
     | k::ks,hl =>
      obtain⟨t,e1,e2,e3,e4⟩:=hrr 0 r k rfl rfl (by simp;omega);obtain⟨ts,f1,f2,f3⟩:=ihr ks (by simpa using hl) (by omega) λi r' m' hi hm hlt=>hrr (i+1) r' m' (by simpa using hi) (by simpa using hm) (by simp at hlt ⊢;omega)
      refine⟨t::ts,by rw[rT,e1,f1],by rw[o8,c37,c4I];omega,λx hx=>?_⟩;rw[o8,c4b] at hx
      rcases hx with hx|hx
      ·exact⟨e3 x hx,by have:=e4 x hx;rw[c4I];omega⟩
      ·exact⟨(f3 x hx).1,by have:=(f3 x hx).2;rw[c4I];omega⟩
   obtain⟨ts,e1,e2,e3⟩:=key rows ks hl (by omega) λi r m' hi hm hlt=>ih m' hlt r (hr i r m' hi hm)
   refine⟨.mk op nm n ts,?_,?_,λx hx=>?_,λx hx=>?_⟩
   ·rw[cT,e1,b8B];rfl
   ·rw[r7,c3C];simp only[Ty.kids,c4I,List.sum_nil];omega
   ·rw[r7] at hx
    rcases c3F.1 hx with rfl|hx
    ·exact⟨w1,w0,w2⟩
    ·exact(e3 x hx).1
   ·rw[r7] at hx;simp only[c4I,List.sum_nil]
    rcases c3F.1 hx with rfl|hx
    ·simp only[Ty.name];omega
    ·have:=(e3 x hx).2;omega
set_option maxRecDepth 100000 in
theorem b5k {r:R} {m:Nat} (h:a1n Tryd.prog 25 r m):∃t:Ty,r=.ag (cT t)/\t.parts.length<=m/\a3L t/\∀x∈t.parts,x.name.size<=m:=by
 obtain⟨xs,rfl,h1⟩:=h.ag Tryd.underlying25;obtain⟨t,rfl,h2⟩:=c0e m xs h1;exact⟨t,rfl,h2⟩
def a1o (t:Ty):ByteArray:=⟨(d8 t).toArray⟩
theorem b5l {n:Int} (h:(Lit.int .i64 n).wf=true):n<=9223372036854775807:=by
 simp only[Lit.wf,IntKind.min,IntKind.max,IntKind.signed,IntKind.bits,c3D,c4T,c5O] at h;have:=h.2
 simpa using this
theorem a6f {t:Ty} {s:Int} (h:c8 f8 t s=true) (hn:∀x∈t.parts,r9 x=true->x.n<=9223372036854775807):Mod t:=λx hx=>by
 obtain⟨c,hc⟩:=C8 h x hx;obtain⟨k,hk,h1,h2,h3,h4,h5,h6⟩:=f9 hc;refine⟨?_,h4,?_⟩
 ·split at h3
  ·unfold f8 at h3;rw[c3D] at h3;exact c4d h3.1
  ·have h3:=c4d h3
   have h7:x.name.size=0:=by
    have h8:=congrArg List.length h3;rw[ByteArray.toList_eq] at h8
    simpa using h8
   omega
 ·rcases h5 with h|h|h
  ·exact hn x hx (by rw[l5];exact .inl h)
  ·exact hn x hx (by rw[l5];exact .inr h)
  ·omega
theorem a6g {t:Ty} {s:Int} (h:j1 t s=true) (hw:a3L t):Mod (b9 t):=by
 have hs:=(j4 h).1;refine a6f (A3 _ t s (c3A _) hs) λx hx hv=>?_
 exact b5l (hw x (a2r _ t s (c3A _) hs x hx hv)).2.2
theorem a3p {t:Ty} (hM:Mod t) (hN:t.parts.length<=1048576):(d8 t).length<=67108864:=by
 have:=c1J hM;omega
theorem c0f (t:Ty) (ht:Sm t) (hw:a3L t) (hr:j1 t 116=true):l6 19 [.ag (cT t)] [.one (.sc (.string (a1o (b9 t)))),.one (.sc (.int .u8 0))]:=by
 have h1:=a1P t ht.1 ht.2;rw[hr] at h1;have h2:=a6E t ht;have he:w6 t=true:=by unfold w6;rw[hr];rfl
 rw[c3E he] at h2;have hM:=a6g hr hw;have hsh:=(j4 hr).1;have hN:(b9 t).parts.length<=1048576:=by rw[E9 _ t (c3A _) (j7 hsh)];exact ht.1
 have hroom:=a3p hM hN;have c1:=(b6x f8 _ (b9 t) (c3A _) (A3 _ t 116 (c3A _) hsh) hM).2 (by omega);have c2:=c2I (d8 (b9 t));unfold a1o;obtain⟨a0,a1,a2,a3,ha⟩:=c9 t;obtain⟨b0,b1,b2,b3,hb⟩:=c9 (b9 t);rw[ha] at h1 h2 ⊢;rw[hb] at h2 c1;rw[d6,n9] at c1;rw[d6] at c2;generalize rU (d8 (b9 t))=R1 at *;generalize (⟨(d8 (b9 t)).toArray⟩:ByteArray)=S at *;clear hroom;refine K7 Tryd.func19 rfl ?_;intros;rename_i hA
 iterate 2 (try cbv;repeat ((first|with_reducible apply b6 hA|refine c5 hA _ h1 rfl ?_|refine c7 hA _ h1 ?_|refine c5 hA _ h2 rfl ?_|refine c7 hA _ h2 ?_|(refine d7 hA [1] c1 ⟨rfl,rfl,rfl,rfl,rfl,rfl,rfl⟩ ?_;rintro _ _ ⟨rfl,rfl⟩)|(refine d7 hA [1,2] c2 ⟨rfl,rfl,rfl,rfl,rfl,rfl,rfl⟩ ?_;rintro _ _ ⟨rfl,rfl⟩));cbv))
def bx (l:List UInt8):ByteArray:=⟨l.toArray⟩
theorem a3q (l m:List UInt8):bx l++bx m=bx (l++m):=by
 unfold bx
 apply c5q
 apply c4Y
 simp
theorem s8 (l:List UInt8):(bx l).size=l.length:=rfl
theorem c1L (s:ByteArray):bx (I5 s)=s:=by
 unfold bx I5
 apply c5q
 apply c4Y
 simp
theorem b2m {n:Int} (h0:0<=n) (h:n<10):Lib.itoa n=[UInt8.ofNat (48+n.toNat)]:=by
 unfold Lib.itoa;rw[c3G (by omega),Lib.decDigits_one (by omega)]
theorem b6y {n:Int} (h0:0<=n) (h:¬n<10):Lib.itoa n=Lib.itoa (n / 10)++Lib.itoa (n % 10):=by
 rw[b2m (n:=n % 10) (by omega) (by omega)];unfold Lib.itoa;rw[c3G (by omega),c3G (by omega),Lib.decDigits,dif_neg (by omega)]
 congr 2
 ·omega
 ·congr 2
  omega
theorem c0A:∀(m:Nat) (n:Int),n.toNat<=m->0<=n->n<=9223372036854775807->l6 39 [.one (.sc (.int .i64 n))] [.one (.sc (.string (bx (Lib.itoa n))))]:=by
 intro m
 induction m using Nat.strongRecOn with
 | ind m ih =>
  intro n hm h0 h1
  by_cases h:n<10
  ·rw[b2m h0 h];obtain⟨S,hS⟩:∃S,S=bx [UInt8.ofNat (48+n.toNat)]:=⟨_,rfl⟩;rw[<-hS];refine K7 Tryd.func39 rfl λqa qb qc qd qe qf qg qh qi qj qk ql qm qo qp qq qs qt qu qv qw qx qy qz vc vd ve vf vg vh vj vk vl vp vq vr vt vu vv vw vx vy vz hA=>?_
   obtain⟨e1,e2,e3,e4,e5,e6,e7,e8,e9⟩:=j3 hA;obtain⟨b1,b2⟩:=b9z hA;have hlt:qh n 10=true:=by rw[e7];exact c3K h
   have hT:qv [[.sc (.int .u8 (qa .u8 (qa .i64 (qb 48 n))))]]=some S:=by
    rw[b1,e1,e1,e2,IntWalk.i64_in _ (by omega),show IntKind.wrap .u8 (48+n)=48+n by simp[IntKind.wrap,IntKind.signed,IntKind.bits];omega,hS];show some (⟨⟨[UInt8.ofNat (48+n).toNat]⟩⟩:ByteArray)=some ⟨⟨[UInt8.ofNat (48+n.toNat)]⟩⟩;rw[show (48+n).toNat=48+n.toNat by omega]
   iterate 2 (try cbv;repeat ((first|with_reducible apply b6 hA|rw[hlt]|rw[hT]|refine z6 hA true ?_);cbv))
  ·have i1:=ih (n / 10).toNat (by omega) (n / 10) (c3A _) (by omega) (by omega);have i2:=ih (n % 10).toNat (by omega) (n % 10) (c3A _) (by omega) (by omega);have l1:=Lib.itoa_length_le (n / 10) (by omega) (by omega);have l2:=Lib.itoa_length_le (n % 10) (by omega) (by omega);rw[b6y h0 h,<-a3q];have hfit:(bx (Lib.itoa (n / 10))).size+(bx (Lib.itoa (n % 10))).size<=4611686018427387904:=by rw[s8,s8];omega
   generalize bx (Lib.itoa (n / 10))=A at *;generalize bx (Lib.itoa (n % 10))=B at *;obtain⟨S,hS⟩:∃S,S=A++B:=⟨_,rfl⟩;rw[<-hS];obtain⟨q,hq⟩:∃q,q=n / 10:=⟨_,rfl⟩;obtain⟨r,hr⟩:∃r,r=n % 10:=⟨_,rfl⟩;rw[<-hq] at i1;rw[<-hr] at i2;clear ih;refine K7 Tryd.func39 rfl λqa qb qc qd qe qf qg qh qi qj qk ql qm qo qp qq qs qt qu qv qw qx qy qz vc vd ve vf vg vh vj vk vl vp vq vr vt vu vv vw vx vy vz hA=>?_
   obtain⟨e1,e2,e3,e4,e5,e6,e7,e8,e9⟩:=j3 hA;obtain⟨s1,s2,s3,s4,s5,s6,s7⟩:=w7 hA;have hlt:qh n 10=false:=by rw[e7];exact c3I h
   have hQ:qa .i64 (qe n 10)=q:=by rw[e1,e5,hq,Int.tdiv_eq_ediv_of_nonneg h0,IntWalk.i64_in _ (by omega)]
   have hR:qf n 10=r:=by rw[e6,hr,Int.tmod_eq_emod_of_nonneg h0]
   have hC:qp A B=S:=by rw[s4,hS]
   iterate 2 (try cbv;repeat ((first|with_reducible apply b6 hA|rw[hlt]|rw[hQ]|rw[hR]|rw[hC]|refine c5 hA _ i1 rfl ?_|refine c7 hA _ i1 ?_|refine c5 hA _ i2 rfl ?_|refine c7 hA _ i2 ?_|refine c01 hA (by decide) ?_|refine A6 hA hfit ?_);cbv))
end Go.Proofs.YtlofmibkljoapaaDoor.Vm
end
