/- Part 24 of the proof. Conditions: none. -/
import Derived.Test.YtlofmibkljoapaaDoorO4
import Derived.Test.YtlofmibkljoapaaDoorO8
import Derived.Test.YtlofmibkljoapaaDoorO12
import Derived.Test.YtlofmibkljoapaaDoorO13
import Derived.Test.YtlofmibkljoapaaDoorO22
import Derived.Test.YtlofmibkljoapaaDoorO23
import Derived.Test.YtlofmibkljoapaaDoorO0
set_option linter.all false
set_option linter.unusedVariables false
set_option linter.unusedSimpArgs false
section
namespace Go.Proofs.YtlofmibkljoapaaDoor.Vm
open Go.RowKit
set_option maxRecDepth 100000
set_option maxHeartbeats 4000000

def c0W (h c:Int):Int:=IntKind.u64.wrap (BitVec.ofInt IntKind.u64.bits h ^^^ BitVec.ofInt IntKind.u64.bits c).toNat
def b9M (h:Int) (c:UInt8):Int:=IntKind.u64.wrap (c0W h (c.toNat:Int) * 1099511628211)
def fpS (l:List UInt8):Int:=l.foldl b9M 14695981039346656037
theorem b8f {x:Int} (h0:0<=x) (h1:x<18446744073709551616):IntKind.u64.wrap x=x:=by
 show x % 18446744073709551616=x;omega
theorem b8g {l:List UInt8} {k:Nat} {c:UInt8} (h:l[k]?=some c):fpS (l.take (k+1))=b9M (fpS (l.take k)) c:=by
 unfold fpS;rw[c4v,h,List.foldl_append];rfl
theorem c1S {t:Ty} {s:Int} (h:c9 j4 t s=true) (hn:∀x∈t.parts,r9 x=true->x.n<=9223372036854775807):b3f t:=λx hx=>by
 have hM:=a9n h hn x hx;obtain⟨c,hc⟩:=F4 h x hx;obtain⟨k,hk,-⟩:=f8 hc
 have hop:0<=x.op/\x.op<=11:=by
  unfold x6 at hk
  by_cases h1:x.op=1\/x.op=2\/x.op=3\/x.op=7\/x.op=8\/x.op=9\/x.op=10
  ·omega
  ·rw[c2H h1] at hk
   by_cases h4:x.op=4
   ·omega
   ·rw[c2H h4] at hk
    by_cases h5:x.op=5\/x.op=6
    ·omega
    ·rw[c2H h5] at hk
     by_cases h11:x.op=11
     ·omega
     ·rw[c2H h11] at hk;cases hk
 refine⟨c3E hM.1 (by decide),?_,?_⟩
 ·simp only[Lit.wf,IntKind.min,IntKind.max,IntKind.signed,IntKind.bits,c2B,c3Q]
  simp
  omega
 ·simp only[Lit.wf,IntKind.min,IntKind.max,IntKind.signed,IntKind.bits,c2B,c3Q]
  simp
  omega
theorem b8h {t:Ty} (ht:Sm t) (hr:d8 t 116=true):Sm (N4 t)/\b3f (N4 t):=by
 obtain⟨h1,h2,h3⟩:=a5K hr;have hs:=(j7 h1).1;have hl:=ht.1;refine⟨b7K hs (by omega),c1S hs λx hx iv=>?_⟩;unfold N4 at hx;rw[a32] at hx;obtain⟨x0,hx0,rfl⟩:=c3k.1 hx;rw[a8Y] at iv;rw[a8X,c2E (j9.1 iv)];have h4:=c0M (b0j t x0 hx0 iv);have h5:=a0N (b6 t).parts [];rw[B6 _ t (c2A _) (j5 (j7 hr).1)] at h5;have h6:(B7 t).length<=0+t.parts.length:=h5;omega
theorem b8i (t:Ty) (ht:Sm t) (hr:d8 t 116=true):m6 7 [.ag (cT t)] [.one (.sc (.string (b3g (N4 t)))),.one (.sc (.int .u8 0))]:=by
 have h1:=a1j t ht.1 ht.2;rw[hr] at h1;have h2:=b7T t ht hr;obtain⟨n1,n2,n3⟩:=a5K hr;obtain⟨n4,n5⟩:=b8h ht hr;have h3:=b9w (N4 t) n4 n5 n1;rw[n2] at h3;generalize b3g (N4 t)=S at *;obtain⟨a0,a1,a2,a3,ha⟩:=d6 t;obtain⟨b0,b1,b2,b3,hb⟩:=d6 (N4 t);rw[ha] at h1 h2 ⊢;rw[hb] at h2 h3;refine Y8 Tryd.func7 rfl ?_;intros;rename_i hA
 iterate 2 (try cbv;repeat ((first|with_reducible apply b5 hA|refine b9 hA _ h1 rfl ?_|refine c5 hA _ h1 ?_|refine b9 hA _ h2 rfl ?_|refine c5 hA _ h2 ?_|refine b9 hA _ h3 rfl ?_|refine c5 hA _ h3 ?_);cbv))
theorem c1T (t:Ty) (ht:Sm t) (hr:d8 t 116=true):m6 8 [.ag (cT t)] [.one (.sc (.int .u64 (fpS (P0 (b3g (N4 t)))))),.one (.sc (.int .u8 0))]:=by
 have h1:=b8i t ht hr
 have hsz:(b3g (N4 t)).size<=67108864:=by
  obtain⟨n1,n2,n3⟩:=a5K hr;obtain⟨n4,n5⟩:=b8h ht hr;have hM:=a9o n1 n5;rw[n2] at hM;have:=b1W hM n4.1;show (l5 (N4 t)).toArray.size<=_
  simpa using this
 generalize b3g (N4 t)=S at *;obtain⟨r,hr⟩:∃r,r=fpS (P0 S):=⟨_,rfl⟩;rw[<-hr];have hbl:=B3 S;obtain⟨a0,a1,a2,a3,ha⟩:=d6 t;rw[ha] at h1 ⊢;refine Y8 Tryd.func8 rfl ?_;intro qa qb _ qd _ _ qg qh _ qj _ _ _ _ _ _ qs qt;intros;rename_i hA;obtain⟨e1,e2,e3,e4,e5,e6,e7,e8,e9⟩:=j8 hA;obtain⟨s1,s2,s3,s4,s5,s6,s7⟩:=A3 hA;have hb:=a4K hA;have q1:qj 0 0=true:=by rw[e9];rfl
 iterate 2 (try cbv;repeat ((first|with_reducible apply b5 hA|rw[q1]|refine b9 hA _ h1 rfl ?_|refine c5 hA _ h1 ?_);cbv))
 try simp (maxSteps:=4000000) only [nc] at *
 refine l9 hA (γ:=Int×Int) (λx=>[(18,vi .i64 x.1),(6,vi .u64 x.2),(7,.jk),(8,.jk),(10,.jk)]) (λx=>[]) (λx=>∃k:Nat,x.1=(k:Int)/\k<=(P0 S).length/\x.2=fpS ((P0 S).take k)) (λx=>(P0 S).length - x.1.toNat) (0,14695981039346656037) ?_ ?_ ?_
 ·exact⟨0,rfl,c3d _,rfl⟩
 ·cbv
 ·intro x hinv;obtain⟨z,h⟩:=x;cbv
  repeat ((with_reducible apply b5 hA);cbv)
  try simp (maxSteps:=4000000) only [nc] at *
  obtain⟨k,hz,hk,hh⟩:=hinv;replace hz:z=(k:Int):=hz;replace hh:h=fpS ((P0 S).take k):=hh;have hlt:qh z (qs S)=decide (k<(P0 S).length):=by rw[e7,s5,hz];exact c2Q.2 (by omega)
  by_cases h9:k<(P0 S).length
  ·rw[c2J h9] at hlt;obtain⟨c,hc⟩:∃c,(P0 S)[k]?=some c:=⟨_,c28 h9⟩;have gx:qt S z=some (c.toNat:Int):=by rw[s6,hz];exact a6r hc
   have hz1:qa .i64 (qb z 1)=((k+1:Nat):Int):=by rw[e1,e2,hz,IntWalk.i64_in _ (by omega)];omega
   have hmu:(P0 S).length - (qa .i64 (qb z 1)).toNat<(P0 S).length - z.toNat:=by rw[hz1,hz];omega
   have hst:=b8g hc;rw[<-hh] at hst;have hC:c.toNat<256:=c.toNat_lt
   have q2:qg .xor .u64 h .u64 (qa .u64 (c.toNat:Int))=some (c0W h (c.toNat:Int)):=by
    rw[hb,e1,b8f (by omega) (by omega)];rfl
   obtain⟨X,hX⟩:∃X:Int,X=c0W h (c.toNat:Int):=⟨_,rfl⟩;have q3:qa .u64 (qd X 1099511628211)=fpS ((P0 S).take (k+1)):=by rw[hst,e1,e4,hX];rfl
   rw[<-hX] at q2;obtain⟨Cc,hCc⟩:∃Cc:Int,Cc=(c.toNat:Int):=⟨_,rfl⟩;rw[<-hCc] at q2 gx;rw[hlt]
   iterate 2 (try cbv;repeat ((first|with_reducible apply b5 hA|rw[gx]|rw[q2]);cbv))
   try simp (maxSteps:=4000000) only [nc] at *
   refine⟨(qa .i64 (qb z 1),_),⟨k+1,hz1,h9,q3⟩,hmu,?_⟩;cbv
  ·rw[c2G h9] at hlt;have hr2:h=r:=by rw[hh,hr,c3r (by omega)]
   subst hr2;rw[hlt];cbv
   repeat ((with_reducible apply b5 hA);cbv)
theorem b3h:Tryd.prog.cellsOf 40=5:=by kernel_rfl
set_option maxRecDepth 100000 in
theorem b5T {ds:List D} {m:Nat} (h:Deep Tryd.prog 40 ds m):∃(n:Int) (t:Ty),ds=.sc (.int .i64 n)::cT t/\t.parts.length<=m/\∀x∈t.parts,x.name.size<=m:=by
 obtain⟨dss,ms,rfl,h1,h2,rfl,hf⟩:=h.unst Tryd.underlying40
 match dss,ms,h1,h2,hf with
 | [d0,d1],[m0,m1],_,_,hf =>
  obtain⟨n,rfl,w0,rfl⟩:=(hf 0 _ d0 m0 rfl rfl rfl).unint Tryd.underlying3;obtain⟨t,rfl,h3,_,h4⟩:=b4I _ d1 (hf 1 _ d1 m1 rfl rfl rfl);refine⟨n,t,by simp,by simp only[c30,List.sum_nil];omega,λx hx=>by have:=h4 x hx;simp only[c30,List.sum_nil];omega⟩
set_option maxRecDepth 100000 in
theorem a8c {r:R} {m:Nat} (h:W9 Tryd.prog 37 r m):∃l:List (Int×Ty),r=.one (.sl 5 (rB l))/\l.length<=m/\∀p∈l,p.2.parts.length<=m/\∀x∈p.2.parts,x.name.size<=m:=by
 have hd:∃x,r=.one x/\Deep Tryd.prog 37 [x] m:=by
  unfold W9 at h;rw[Tryd.underlying37] at h;cases r with
  | one x=>exact⟨x,rfl,h⟩
  | ag xs=>exact h.elim
 obtain⟨x,rfl,hx⟩:=hd;obtain⟨rows,ks,e,hl,hb,rfl,hr⟩:=hx.unsl Tryd.underlying37;injection e with e _;subst e
 have key:∀(rows:List (List D)) (ks:List Nat),ks.length=rows.length->(∀(i:Nat) (r:List D) (m:Nat),rows[i]?=some r->ks[i]?=some m->Deep Tryd.prog 40 r m)->∃l:List (Int×Ty),rows=rB l/\l.length<=ks.sum/\∀p∈l,p.2.parts.length<=ks.sum/\∀x∈p.2.parts,x.name.size<=ks.sum:=by
  intro rows
  induction rows with
  | nil=>intro ks _ _;exact⟨[],rfl,c3d _,by simp⟩
  | cons r rows ih =>
   intro ks hl hr
   match ks,hl with
   | k::ks,hl =>
    obtain⟨n,t,e1,e2,e3⟩:=b5T (hr 0 r k rfl rfl);obtain⟨l,f1,f2,f3⟩:=ih ks (by simpa using hl) λi r' m' hi hm=>hr (i+1) r' m' (by simpa using hi) (by simpa using hm)
    have hpos:=l6 t;refine⟨(n,t)::l,by rw[e1,f1];rfl,by rw[c2D,c30];omega,λp hp=>?_⟩;rw[c30]
    rcases c2C.1 hp with rfl|hp
    ·exact⟨by show t.parts.length<=_;omega,λx hx=>by have:=e3 x hx;omega⟩
    ·have h1:=f3 p hp;exact⟨by omega,λx hx=>by have:=h1.2 x hx;omega⟩
 obtain⟨l,h1,h2,h3⟩:=key rows ks hl hr;rw[b3h,h1];exact⟨l,rfl,by omega,λp hp=>by have h4:=h3 p hp;exact⟨by omega,λx hx=>by have:=h4.2 x hx;omega⟩⟩
def a8d (g:List D->Option (Ty×Nat)):List (List D)->Option (List Ty×Nat)
 | []=>some ([],0)
 | r::rs=>match g r with
  | some (t,m)=>match a8d g rs with
   | some (ts,k)=>some (t::ts,m+k)
   | none=>none
  | none=>none
def b0u:Nat->List D->Option (Ty×Nat)
 | 0,_=>none
 | f+1,[.sc (.int .u8 op),.sc (.string nm),.sc (.int .i64 n),.sl sz rows]=>match rows with
  | []=>some (.mk op nm n [],1)
  | r::rs=>match a07 sz 4 with
   | true=>match a8d (b0u f) (r::rs) with
    | some (ks,m)=>some (.mk op nm n ks,m+1)
    | none=>none
   | false=>none
 | _+1,_=>none
def a8e (ds es:List D):Prop:=∀(I:Nat->Nat->Prop) (w:World) (us:List Value),s8 I w us ds->s8 I w us es
theorem b1X {sz:Nat} {rows rows':List (List D)} (hl:rows.length=rows'.length) (hr:∀(i:Nat) (r r':List D),rows[i]?=some r->rows'[i]?=some r'->a8e r r'/\r'.length=sz) {I:Nat->Nat->Prop} {w:World} {v:Value} (h:AtD I w v (.sl sz rows)):AtD I w v (.sl sz rows'):=by
 cases h with
 | nil A cap=>rw[c2M (l:=rows') (by simpa using hl.symm)];exact .nil _ _ _
 | sl b off cap _ _ us hcap hI hrl hl2 hc hd =>
  have hrl':∀r∈rows',r.length=sz:=λr hr'=>by
   obtain⟨i,hi⟩:=c2Z.1 hr';have hlt:i<rows.length:=by rw[hl];exact(c25.1 hi).1
   exact(hr i _ r (c28 hlt) hi).2
  rw[hl];refine .sl b off cap sz rows' us (by rw[<-hl];exact hcap) (by rw[<-hl];exact hI) hrl' (by rw[<-hl];exact hl2) hc λi u d hu hdd=>?_
  have hi:i<rows.length * sz:=by rw[<-hl2];exact(c25.1 hu).1
  rcases c4U sz with h0|hpos
  ·rw[h0,Nat.mul_zero] at hi;omega
  have hq:i / sz<rows.length:=(c4F hpos).2 hi;have hm:i % sz<sz:=Nat.mod_lt _ hpos;have ei:i / sz * sz+i % sz=i:=by rw[Nat.mul_comm];exact Nat.div_add_mod i _
  obtain⟨r,hr1⟩:∃r,rows[i / sz]?=some r:=⟨_,c28 hq⟩;obtain⟨r',hr2⟩:∃r',rows'[i / sz]?=some r':=⟨_,c28 (by omega)⟩;have hal:=(hr _ r r' hr1 hr2).1
  have hcs:s8 I w ((us.drop (i / sz * sz)).take sz) r:=by
   refine⟨?_,λj u d hu hd'=>?_⟩
   ·have h1:=hrl r (c2F hr1);rw[h1,c3h,c3K,hl2];have:(i / sz+1) * sz<=rows.length * sz:=c31 _ hq;rw[c46] at this;omega
   ·have hj:j<sz:=by
     have:=(c25.1 hu).1;rw[c3h] at this;omega
    rw[List.getElem?_take_of_lt hj,c3e] at hu;refine hd (i / sz * sz+j) u d hu ?_;rw[K6 hrl hr1 hj];exact hd'
  have h2:=hal I w _ hcs;have hu2:((us.drop (i / sz * sz)).take sz)[i % sz]?=some u:=by rw[List.getElem?_take_of_lt hm,c3e,ei];exact hu
  have hd2:r'[i % sz]?=some d:=by rw[<-hdd,<-K6 hrl' hr2 hm,ei]
  exact h2.2 _ u d hu2 hd2
theorem b8j:∀(f:Nat),  (∀(ds:List D) (t:Ty) (m:Nat),b0u f ds=some (t,m)->a8e ds (cT t)/\t.parts.length=m)/\∀(rows:List (List D)) (ts:List Ty) (m:Nat),a8d (b0u f) rows=some (ts,m)->rows.length=ts.length/\(o5 ts).length=m/\∀(i:Nat) (r r':List D),rows[i]?=some r->(rT ts)[i]?=some r'->a8e r r'/\r'.length=4:=by
 intro f
 induction f with
 | zero =>
  refine⟨λds t m h=>(by simp[b0u] at h),λrows=>?_⟩;cases rows with
  | nil=>intro ts m h;rw[a8d] at h;cases h;exact⟨rfl,by rw[o5];rfl,λi r r' h=>by simp at h⟩
  | cons r rs=>intro ts m h;simp[a8d,b0u] at h
 | succ f ih =>
  have h1:∀(ds:List D) (t:Ty) (m:Nat),b0u (f+1) ds=some (t,m)->a8e ds (cT t)/\t.parts.length=m:=by
   intro ds t m h;unfold b0u at h
   split at h
   ·cases h
   ·rename_i fx op nm n sz rows ef;cases ef
    split at h
    ·cases h;refine⟨λI w us hu=>?_,by rw[Ty.parts,o5];rfl⟩;obtain⟨u0,us0,rfl,a0,hu⟩:=hu.uncons;obtain⟨u1,us1,rfl,a1,hu⟩:=hu.uncons;obtain⟨u2,us2,rfl,a2,hu⟩:=hu.uncons;obtain⟨u3,us3,rfl,a3,hu⟩:=hu.uncons;rw[cT,rT];refine s8.cons a0 (s8.cons a1 (s8.cons a2 (s8.cons ?_ hu)));cases a3 with
     | nil A cap=>exact .nil _ _ _
     | sl b off cap _ _ us hcap hI hrl hl2 hc hd=>exact .nil _ _ _
    ·rename_i r rs
     split at h
     ·rename_i hsz;have hsz:=U5 hsz;subst hsz
      split at h
      ·rename_i ks k hk;cases h;obtain⟨e1,e2,e3⟩:=ih.2 _ _ _ hk;refine⟨λI w us hu=>?_,by rw[Ty.parts,c2D,e2]⟩;obtain⟨u0,us0,rfl,a0,hu⟩:=hu.uncons;obtain⟨u1,us1,rfl,a1,hu⟩:=hu.uncons;obtain⟨u2,us2,rfl,a2,hu⟩:=hu.uncons;obtain⟨u3,us3,rfl,a3,hu⟩:=hu.uncons;rw[cT];exact s8.cons a0 (s8.cons a1 (s8.cons a2 (s8.cons (b1X (by rw[E8];exact e1) e3 a3) hu)))
      ·cases h
     ·cases h
   ·cases h
  refine⟨h1,?_⟩;intro rows
  induction rows with
  | nil=>intro ts m h;rw[a8d] at h;cases h;exact⟨rfl,by rw[o5];rfl,λi r r' h=>by simp at h⟩
  | cons r rs ihr =>
   intro ts m h;rw[a8d] at h
   split at h
   ·rename_i t m1 ht
    split at h
    ·rename_i ts' k hts;cases h;obtain⟨e1,e2,e3⟩:=ihr _ _ hts;obtain⟨a1,a2⟩:=h1 _ _ _ ht;refine⟨by simp[e1],by rw[o5,c29,a2,e2],λi r1 r2 hr1 hr2=>?_⟩;cases i with
     | zero =>
      simp at hr1
      subst hr1;rw[rT] at hr2
      simp at hr2
      subst hr2;refine⟨a1,?_⟩;obtain⟨op,nm,n,ks⟩:=t;rw[cT];rfl
     | succ i=>rw[rT] at hr2;exact e3 i r1 r2 (by simpa using hr1) (by simpa using hr2)
    ·cases h
   ·cases h
theorem m6.alike {f:Nat} {rs rs' q:List R} (h:m6 f rs' q) (ha:∀I w vs,a3A I w vs rs->a3A I w vs rs'):m6 f rs q:=⟨h.1,λI w args hI hat=>h.2 I w args hI (ha I w args hat)⟩
theorem b8k {I:Nat->Nat->Prop} {w:World} {v:Value} {ds es:List D} (ha:a8e ds es) (h:AtR I w v (.ag ds)):AtR I w v (.ag es):=by
 obtain⟨us,e,hu⟩:=h;exact⟨us,e,ha I w us hu⟩
end Go.Proofs.YtlofmibkljoapaaDoor.Vm
end
section
namespace Go.Proofs.YtlofmibkljoapaaDoor.Vm
open Go.RowKit
set_option maxRecDepth 100000
set_option maxHeartbeats 8000000
def zA:ByteArray:=⟨#[97]⟩
def zB:ByteArray:=⟨#[98]⟩
def zE:ByteArray:=⟨#[]⟩
def gT:Ty:=.mk 5 zE 0 [.mk 11 zA 0 [.mk 7 zE 0 [],.mk 10 zE 1 []]]
def sT:Ty:=.mk 5 zE 0 [.mk 11 zB 0 [.mk 1 zE 0 [],.mk 11 zA 0 [.mk 2 zE 0 [],.mk 8 zE 0 []]]]
theorem b1Y:H5 gT sT=some [(0,.mk 2 zE 0 []),(1,.mk 11 zB 0 [.mk 1 zE 0 [],.mk 8 zE 0 []])]:=by kernel_rfl
theorem b5U:rB [((0:Int),Ty.mk 2 zE 0 []),(1,Ty.mk 11 zB 0 [Ty.mk 1 zE 0 [],Ty.mk 8 zE 0 []])]=[[.sc (.int .i64 0),.sc (.int .u8 2),.sc (.string zE),.sc (.int .i64 0),.sl 4 []],[.sc (.int .i64 1),.sc (.int .u8 11),.sc (.string zB),.sc (.int .i64 0),.sl 4 [[.sc (.int .u8 1),.sc (.string zE),.sc (.int .i64 0),.sl 4 []],[.sc (.int .u8 8),.sc (.string zE),.sc (.int .i64 0),.sl 4 []]]]]:=by kernel_rfl
theorem b9O (t:Ty) (h1:Nat.ble t.parts.length 1048576=true) (h2:(t.parts.all λx=>Nat.ble x.name.size 1048576)=true):Sm t :=
 ⟨c3u h1,λx hx=>c3u (c3a.1 h2 x hx)⟩
def dG:List D:=[.sc (.int .u8 5),.sc (.string ⟨⟨[]⟩⟩),.sc (.int .i64 0),.sl 4 [[.sc (.int .u8 11),.sc (.string ⟨⟨[97]⟩⟩),.sc (.int .i64 0),.sl 4 [[.sc (.int .u8 7),.sc (.string ⟨⟨[]⟩⟩),.sc (.int .i64 0),.sl 0 []],[.sc (.int .u8 10),.sc (.string ⟨⟨[]⟩⟩),.sc (.int .i64 1),.sl 0 []]]]]]
def dS:List D:=[.sc (.int .u8 5),.sc (.string ⟨⟨[]⟩⟩),.sc (.int .i64 0),.sl 4 [[.sc (.int .u8 11),.sc (.string ⟨⟨[98]⟩⟩),.sc (.int .i64 0),.sl 4 [[.sc (.int .u8 1),.sc (.string ⟨⟨[]⟩⟩),.sc (.int .i64 0),.sl 0 []],[.sc (.int .u8 11),.sc (.string ⟨⟨[97]⟩⟩),.sc (.int .i64 0),.sl 4 [[.sc (.int .u8 2),.sc (.string ⟨⟨[]⟩⟩),.sc (.int .i64 0),.sl 0 []],[.sc (.int .u8 8),.sc (.string ⟨⟨[]⟩⟩),.sc (.int .i64 0),.sl 0 []]]]]]]]
theorem c1U:b0u 60 dG=some (gT,4):=by kernel_rfl
theorem c1V:b0u 60 dS=some (sT,6):=by kernel_rfl
def b0v (rs:List R):Option (List R):=match P8 a76 rs [.ag dG,.ag dS] with
 | true=>some [.one (.sl 5 [[.sc (.int .i64 0),.sc (.int .u8 2),.sc (.string zE),.sc (.int .i64 0),.sl 4 []],[.sc (.int .i64 1),.sc (.int .u8 11),.sc (.string zB),.sc (.int .i64 0),.sl 4 [[.sc (.int .u8 1),.sc (.string zE),.sc (.int .i64 0),.sl 4 []],[.sc (.int .u8 8),.sc (.string zE),.sc (.int .i64 0),.sl 4 []]]]]),.one (.sc (.bool true))]
 | false=>none
theorem b3i (rs q:List R) (h:b0v rs=some q):m6 16 rs q:=by
 unfold b0v at h
 split at h
 ·rename_i he;have he:=F9 (λ_ _ h=>a4U h) he;subst he;injection h with h;subst h;rw[<-b5U];have h1:=b46 gT sT (b9O _ (by kernel_rfl) (by kernel_rfl)) (b9O _ (by kernel_rfl) (by kernel_rfl));rw[b1Y,c4H,c43] at h1;refine h1.alike λI w vs hv=>?_
  match vs,hv with
  | [v1,v2],⟨a1,a2,_⟩=>exact⟨b8k ((b8j 60).1 _ _ _ c1U).1 a1,b8k ((b8j 60).1 _ _ _ c1V).1 a2,trivial⟩
 ·cases h
end Go.Proofs.YtlofmibkljoapaaDoor.Vm
end
