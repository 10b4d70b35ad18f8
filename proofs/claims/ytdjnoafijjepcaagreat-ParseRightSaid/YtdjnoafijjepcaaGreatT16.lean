/- Part 16 of the proof. Conditions: none. -/
import Derived.Test.YtdjnoafijjepcaaGreatT4
import Derived.Test.YtdjnoafijjepcaaGreatT6
import Derived.Test.YtdjnoafijjepcaaGreatT10
import Derived.Test.YtdjnoafijjepcaaGreatT14
import Derived.Test.YtdjnoafijjepcaaGreatT15
import Derived.Test.YtdjnoafijjepcaaGreatT0
set_option linter.all false
set_option linter.unusedVariables false
set_option linter.unusedSimpArgs false
section
namespace Go.Proofs.YtdjnoafijjepcaaGreat.Vm
open Go.RowKit
set_option maxRecDepth 100000
set_option maxHeartbeats 4000000
abbrev a4a:Tm:=.mk 0 N9 N9 0 false v8 []
def zPL:PL:=(a4a,[])
def C9 (op:Int) (nm ar:ByteArray) (n:Int) (h:Bool) (ann:Ty) (a:Int) (ks:List PL):PL:=(.mk op nm ar n h ann (ks.map λp=>p.1),a::ks.flatMap λp=>p.2)
abbrev A9 (op:Int) (nm ar:ByteArray) (a:Int) (ks:List PL):PL:=C9 op nm ar 0 false v8 a ks
def a1L (op:Int) (nm:ByteArray) (n a:Int):PL:=(.mk op nm N9 n false v8 [],[a])
theorem b2f:cP zPL=cZ:=by
 unfold cP zPL a4a v8;rw[cM,cT,rT,rM];rfl
theorem E8.reread {f:Nat} {vs:List V} {os:List O} {r r2:List V} (h:E8 f vs os (λres os2=>res=r/\os2=os)) (hv:∀(I:Nat->Nat->Prop) (w:World) (g:Nat->Value) (us:List Value),o7 I w g us r->o7 I w g us r2):E8 f vs os (λres os2=>res=r2/\os2=os) :=
 ⟨h.1,λI w g args hr=>(h.2 I w g args hr).mono λe w' ⟨us,res,os2,I',g',e1,⟨⟨q1,q2⟩,e2⟩,e3⟩=>⟨us,r2,os2,I',g',e1,⟨⟨rfl,q2⟩,e2⟩,⟨e3.im,e3.lt,e3.fr,e3.kp,e3.lo,e3.st,e3.obj,e3.dis,e3.out,hv _ _ _ _ (q1 ▸ e3.tmp),e3.dfr⟩⟩⟩
theorem b8s {I:Nat->Nat->Prop} {w:World} {g:Nat->Value} {op n:Int} {nm ar:ByteArray} {h:Bool} {x:List V} {us:List Value} (hv:o7 I w g us (.ag (b99 op nm ar n h)::x)):o7 I w g us (.ag (b6r op nm ar n h (.sc (.int .u8 0)) (.sc (.string ⟨#[]⟩)) (.sc (.int .i64 0)) (.sl 4 []))::x):=by
 obtain⟨u,us,rfl,h1,h2⟩:=hv.uncons;obtain⟨vs,rfl,h3⟩:=h1.unag;exact .cons (Z6 (b3z (cs:=b99 op nm ar n h) ⟨.inl rfl,.inl rfl,.inl rfl,.inl rfl,.inl rfl,.inl rfl,.inl rfl,.inl rfl,.inr ⟨rfl,_,rfl⟩,.inl rfl,trivial⟩ h3)) h2
theorem a23 (op:Int) (nm ar:ByteArray) (n:Int) (h:Bool) (a:Int) (ks:List PL) (hn:ks.length<=1048576) (hf:(ks.flatMap λp=>p.2).length<=1048576) :
  E8 30 [.ag (b99 op nm ar n h),vi .i64 a,.d (.sl 11 (rP ks))] [] (λres os=>res=[.ag (C0 (cP (C9 op nm ar n h v8 a ks)))]/\os=[]):=by
 have h1:=(c25 op nm ar n h (.sc (.int .u8 0)) (.sc (.string ⟨#[]⟩)) (.sc (.int .i64 0)) (.sl 4 []) a ks hn hf).args λI w g us hv=>b8s hv
 have e:C0 (cP (C9 op nm ar n h v8 a ks))=[vi .u8 op,vs nm,vs ar,vi .i64 n,vb h,.d (.sc (.int .u8 0)),.d (.sc (.string ⟨#[]⟩)),.d (.sc (.int .i64 0)),.d (.sl 4 []),.d (.sl 10 (rM (ks.map λp=>p.1))),.d (.sl 1 (rZ (a::ks.flatMap λp=>p.2)))]:=by
  unfold cP C9 v8;rw[cM,cT,rT];rfl
 rw[e];exact h1
theorem c3h (op:Int) (nm ar:ByteArray) (n:Int) (h:Bool) (t:Ty) (y:Nat->D) (hy:cT t=c4 y) (a:Int) (ks:List PL) (hn:ks.length<=1048576) (hf:(ks.flatMap λp=>p.2).length<=1048576) :
  E8 30 [.ag (b6r op nm ar n h (y 0) (y 1) (y 2) (y 3)),vi .i64 a,.d (.sl 11 (rP ks))] [] (λres os=>res=[.ag (C0 (cP (C9 op nm ar n h t a ks)))]/\os=[]):=by
 have h1:=c25 op nm ar n h (y 0) (y 1) (y 2) (y 3) a ks hn hf
 have e:C0 (cP (C9 op nm ar n h t a ks))=[vi .u8 op,vs nm,vs ar,vi .i64 n,vb h,.d (y 0),.d (y 1),.d (y 2),.d (y 3),.d (.sl 10 (rM (ks.map λp=>p.1))),.d (.sl 1 (rZ (a::ks.flatMap λp=>p.2)))]:=by
  unfold cP C9;rw[cM,hy];rfl
 rw[e];exact h1
theorem b69 (op:Int) (nm:ByteArray) (n a:Int):E8 53 [.ag (b99 op nm ⟨#[]⟩ n false),vi .i64 a] [] (λres os=>res=[.ag (C0 (cP (a1L op nm n a)))]/\os=[]):=by
 have h1:=(c8O (op:=op) (nm:=nm) (ar:=⟨#[]⟩) (n:=n) (h:=false) (a:=a) (y0:=.sc (.int .u8 0)) (y1:=.sc (.string ⟨#[]⟩)) (y2:=.sc (.int .i64 0)) (y3:=.sl 4 [])).args λI w g us hv=>b8s hv
 have e:C0 (cP (a1L op nm n a))=[vi .u8 op,vs nm,vs ⟨#[]⟩,vi .i64 n,vb false,.d (.sc (.int .u8 0)),.d (.sc (.string ⟨#[]⟩)),.d (.sc (.int .i64 0)),.d (.sl 4 []),.d (.sl 10 []),.d (.sl 1 [[.sc (.int .i64 a)]])]:=by
  unfold cP a1L v8;rw[cM,cT,rT,rM];rfl
 rw[e];refine h1.reread λI w g us hv=>?_
 obtain⟨u,us,rfl,h1,h2⟩:=hv.uncons;obtain⟨vs,rfl,h3⟩:=h1.unag;refine .cons (Z6 (h3.reset (i:=9) λv hv=>?_)) h2;have h4:=h3.2 9 v _ hv rfl;cases h4 with
 | d h4=>exact .d (h4.empty 10)
abbrev PF:=PE->PL×PE
structure FitP (ts:List Tok) (p:PE) (r:PL×PE):Prop where
 lo:p.1<=r.2.1
 hi:r.2.1<ts.length
 sz:r.1.2.length+2 * p.1<=2 * r.2.1+2
 ok:r.2.2=0->p.2=0/\r.1.2.length+2 * p.1+1<=2 * r.2.1
def E3 (ts:List Tok) (nx:PF):Prop:=∀p:PE,p.1<ts.length->FitP ts p (nx p)
def a0g (sg:List ByteArray) (nx:PF) (ts:List Tok) (a:Int):Nat->PL×PE->PL×PE
 | 0,s=>s
 | k+1,s=>match w9 ts sg s.2 with
  | none=>s
  | some g=>a0g sg nx ts a k (A9 40 g N9 a [s.1,(nx (s.2.1+1,0)).1],(nx (s.2.1+1,0)).2)
theorem K7 {ts:List Tok} (hE:y5 ts) {p:PE} (hp:p.1<ts.length):∀ {l:List ByteArray} {g:ByteArray},w9 ts l p=some g->p.2=0/\p.1+1<ts.length/\g∈l
 | s::l,g,h=>by
  rw[w9] at h
  split at h
  ·rename_i hs;injection h with h;subst h;obtain⟨h1,h2⟩:=B0 hE hp hs;exact⟨h1,h2,d3L ..⟩
  ·obtain⟨h1,h2,h3⟩:=K7 hE hp h;exact⟨h1,h2,d3M _ h3⟩
theorem b2g {sg:List ByteArray} {nx:PF} {ts:List Tok} {a:Int} (hE:y5 ts) (hf:E3 ts nx):∀(k m:Nat) (s:PL×PE),s.2.1<ts.length->ts.length - s.2.1<=k->ts.length - s.2.1<=m->a0g sg nx ts a k s=a0g sg nx ts a m s
 | 0,m,s,h,h1,h2=>by omega
 | k+1,0,s,h,h1,h2=>by omega
 | k+1,m+1,s,h,h1,h2=>by
  rw[a0g,a0g];cases hs:w9 ts sg s.2 with
  | none=>rfl
  | some g =>
   obtain⟨_,h4,_⟩:=K7 hE h hs;have hn:=hf (s.2.1+1,0) h4;exact b2g hE hf k m _ hn.hi (by have:=hn.lo;show ts.length - (nx (s.2.1+1,0)).2.1<=k;omega) (by have:=hn.lo;show ts.length - (nx (s.2.1+1,0)).2.1<=m;omega)
def SzP (b:Nat) (s:PL×PE):Prop:=b<=s.2.1/\s.1.2.length+2 * b<=2 * s.2.1+2/\(s.2.2=0->s.1.2.length+2 * b+1<=2 * s.2.1)
theorem a7P {nx:PF} {ts:List Tok} (hE:y5 ts) (hf:E3 ts nx) {b:Nat} {op:Int} {nm ar:ByteArray} {a:Int} {s:PL×PE} (hs:SzP b s) (h0:s.2.2=0) (h:s.2.1+1<ts.length):SzP b (A9 op nm ar a [s.1,(nx (s.2.1+1,0)).1],(nx (s.2.1+1,0)).2):=by
 have hn:=hf (s.2.1+1,0) h;obtain⟨h1,h2,h3⟩:=hs;have h3:=h3 h0;have l1:=hn.lo;have l2:=hn.sz;have l3:=hn.ok;simp only at l1 l2 l3;unfold SzP A9 C9;simp only[d4m,d4t,d4d,d3O,d3K];exact⟨by omega,by omega,λh=>by have:=(l3 h).2;omega⟩
def d1r (ts:List Tok) (b:Nat) (sg:List ByteArray) (nx:PF) (a:Int) (r:PL×PE) (x:(Nat->D)×Int×Int×Int):Prop:=∃y:PL×PE,cP y.1=cE x.1/\(x.2.1,x.2.2.1,x.2.2.2)=stP ts y.2/\y.2.1<ts.length/\SzP b y/\r=a0g sg nx ts a ts.length y
theorem b8t {sg:List ByteArray} {nx:PF} {ts:List Tok} {a:Int} (hE:y5 ts) (hf:E3 ts nx) {y:PL×PE} (h:y.2.1<ts.length):a0g sg nx ts a ts.length y=match w9 ts sg y.2 with
  | none=>y
  | some g=>a0g sg nx ts a ts.length (A9 40 g N9 a [y.1,(nx (y.2.1+1,0)).1],(nx (y.2.1+1,0)).2):=by
 have e:a0g sg nx ts a ts.length y=a0g sg nx ts a (ts.length+1) y:=b2g hE hf _ _ y h (by omega) (by omega);rw[e,a0g]
abbrev a56:List ByteArray:=[⟨#[43]⟩,⟨#[45]⟩]
def c3i (nx:PF) (ts:List Tok) (p:PE):PL×PE:=a0g a56 nx ts (r9 ts p.1).at_ ts.length (nx p)
theorem d1s {ts:List Tok} (hE:y5 ts) (hl:ts.length<=65537) {L:Int} {nx:PF} (hf:E3 ts nx) (hx:∀p:PE,p.1<ts.length->N2 54 [vi .i64 L] ts p [.ag (C0 (cP (nx p).1))] (nx p).2) (p:PE) (hp:p.1<ts.length) :
  N2 31 [vi .i64 L] ts p [.ag (C0 (cP (c3i nx ts p).1))] (c3i nx ts p).2:=by
 have hh:=a54 (by omega:ts.length<=1048576) hp;have hn:=hf p hp;have h1:=hx p hp;have hsg:∀q:PE,q.1<ts.length->N2 55 [.d (.sl 1 [[.sc (.string ⟨#[43]⟩)],[.sc (.string ⟨#[45]⟩)]])] ts q [vs ((w9 ts a56 q).getD N9)] (a2M ts a56 q):=λq hq=>b02 (by omega) hq a56 (by decide)
 have hov:=λg a x y hf=>a23 40 g ⟨#[]⟩ 0 false a [x,y] (by simp only[d3O,d3Y];omega) hf
 unfold c3i;generalize (r9 ts p.1).at_=pl at *;obtain⟨rr,hrr⟩:∃rr,rr=a0g a56 nx ts pl ts.length (nx p):=⟨_,rfl⟩;rw[<-hrr];obtain⟨x1,hx1⟩:=F5 (nx p).1;unfold N2 at hh h1 ⊢;rw[hx1] at h1;obtain⟨s0,hs0⟩:∃s0,s0=stP ts p:=⟨_,rfl⟩;obtain⟨s1,hs1⟩:∃s1,s1=stP ts (nx p).2:=⟨_,rfl⟩;obtain⟨s9,hs9⟩:∃s9,s9=stP ts rr.2:=⟨_,rfl⟩;obtain⟨R9,hR9⟩:∃R9,R9=cP rr.1:=⟨_,rfl⟩;rw[<-hs0] at hh h1;rw[<-hs1] at h1;rw[<-hs0,<-hs9,<-hR9];obtain⟨inv,hi⟩:∃inv,inv=d1r ts p.1 a56 nx pl rr:=⟨_,rfl⟩;have hi0:inv (x1,s1.1,s1.2.1,s1.2.2):=by rw[hi];exact⟨nx p,hx1,hs1,hn.hi,⟨hn.lo,hn.sz,λh=>(hn.ok h).2⟩,hrr⟩
 obtain⟨mu,hmu⟩:∃mu:(Nat->D)×Int×Int×Int->Nat,mu=λx=>ts.length - x.2.2.2.toNat:=⟨_,rfl⟩
 generalize hT:P6 ts=T at *;obtain⟨a0,b0,d0⟩:=s0;obtain⟨a1,b1,d1⟩:=s1;obtain⟨a9,b9,d9⟩:=s9;refine so9 Tryz.func31 rfl ?_;intro _ _ _ _ _ _ _ _ _ _ _ qm _ qp _ _ _ _ _ _ _ _ _ _ _ _ _ _ _ _ _ _ _ _ _ _ _ _ _ _ _ vx;intros;rename_i hA;obtain⟨e1,e2,e3,e4,e5,e6,e7,e8,e9⟩:=m6 hA;obtain⟨c1,c2,c3,c4_,c5,c6,c7⟩:=G1 hA
 iterate 2 (try cbv;repeat ((first|with_reducible apply j6 hA|refine B8 hA [0,1] hh ?_|refine B8 hA [0,1] h1 ?_);cbv))
 try simp (maxSteps:=4000000) only [nc] at *
 refine n9 hA (γ:=(Nat->D)×Int×Int×Int) (λx=>[(12,.jk)]) (λx=>[(0,.box [.ptr 1 0,vi .u8 x.2.1,vi .i64 x.2.2.1]),(1,.box [.d (.sl 4 T),vi .i64 x.2.2.2]),(3,.box (C0 (cE x.1)))]) inv mu (x1,a1,b1,d1) hi0 ?_ ?_
 ·cbv
 ·intro x hinv;obtain⟨x,e,q,a⟩:=x;cbv;refine gn ?_;try simp only[nc] at *
  rw[hi] at hinv;obtain⟨y,hy1,hy2,hyl,hsz,hr⟩:=hinv;replace hy1:cP y.1=cE x:=hy1;replace hy2:((e,q,a):ST)=stP ts y.2:=hy2;rw[b8t hE hf hyl] at hr;have hs:=hsg y.2 hyl;unfold N2 a2M at hs;rw[<-hy2,hT] at hs;cases hso:w9 ts a56 y.2 with
  | none =>
   rw[hso] at hr hs;dsimp only at hr hs;rw[<-hy2] at hs;have hR:R9=cE x:=by rw[hR9,hr,hy1]
   have hss:((a9,b9,d9):ST)=(e,q,a):=by rw[hs9,hr,<-hy2]
   injection hss with f0 f1;injection f1 with f1 f2;subst f0;subst f1;subst f2;rw[hR];have q1:qm (qp ⟨#[]⟩) (qp ⟨#[]⟩)=true:=by rw[c1];exact d4G _
   clear hs9 hR9 hr hy2 hso hi0;have p0:=hs;exact fin
  | some g =>
   rw[hso] at hr hs;dsimp only[d6h] at hr hs;obtain⟨k1,k2,k3⟩:=K7 hE hyl hso;have hsz2:=a7P hE hf (op:=40) (nm:=g) (ar:=N9) (a:=pl) hsz k1 k2;have hn2:=hf (y.2.1+1,0) k2;have hp2:=hx (y.2.1+1,0) k2;unfold N2 at hp2
   have ho:=hov g pl y.1 (nx (y.2.1+1,0)).1 (by
    have h1:=hsz2.2.1;have h2:=hn2.hi;simp only[A9,C9,d4m,d4t,d4d,d3O,d3K] at h1 ⊢
    omega)
   have q1:qm (qp g) (qp ⟨#[]⟩)=false:=by
    simp only[d3R,d5h,d6b] at k3
    rcases k3 with rfl|rfl <;> (simp only[c1,c3,ByteArray.toList_eq];rfl)
   obtain⟨z,hz⟩:∃z,z=A9 40 g N9 pl [y.1,(nx (y.2.1+1,0)).1]:=⟨_,rfl⟩;obtain⟨x2,hx2⟩:=F5 (nx (y.2.1+1,0)).1;obtain⟨x3,hx3⟩:=F5 z;rw[show rP [y.1,(nx (y.2.1+1,0)).1]=[cE x,cE x2] by unfold rP;rw[d4a,d4a,d47,hy1,hx2],show cP (C9 40 g ⟨#[]⟩ 0 false v8 pl [y.1,(nx (y.2.1+1,0)).1])=cE x3 by rw[<-hx3,hz]] at ho;rw[hx2,hT] at hp2;have ha:a=(y.2.1:Int):=congrArg (λs:ST=>s.2.2) hy2;have hin:inv (x3,stP ts (nx (y.2.1+1,0)).2):=by rw[hi];exact⟨(z,(nx (y.2.1+1,0)).2),hx3,rfl,hn2.hi,by rw[hz];exact hsz2,by rw[hz];exact hr⟩
   have hmu9:mu (x3,stP ts (nx (y.2.1+1,0)).2)<mu (x,e,q,a):=by
    rw[hmu];show ts.length - (((nx (y.2.1+1,0)).2.1:Nat):Int).toNat<ts.length - a.toNat;have:=hn2.lo;rw[ha];simp only[d4j] at this ⊢;omega
   generalize stP ts (y.2.1+1,0)=s2 at *;generalize stP ts (nx (y.2.1+1,0)).2=s3 at *;obtain⟨a2,b2,d2⟩:=s2;obtain⟨a3,b3,d3⟩:=s3;have hp2b:=y7.box hp2 rfl;clear hs9 hR9 hr hy2 hso hi0 hsz2 hn2 hz hx3 hx2 hy1;have p0:=hs;have p1:=hp2;have o0:=ho;have hi:=hin;have hm:=hmu9;exact fin
abbrev a24:List ByteArray:=[⟨#[42]⟩,⟨#[47]⟩,⟨#[37]⟩]
def a4L (nx:PF) (ts:List Tok) (p:PE):PL×PE:=a0g a24 nx ts (r9 ts p.1).at_ ts.length (nx p)
theorem c9s {ts:List Tok} (hE:y5 ts) (hl:ts.length<=65537) {L:Int} {nx:PF} (hf:E3 ts nx) (hx:∀p:PE,p.1<ts.length->N2 78 [vi .i64 L] ts p [.ag (C0 (cP (nx p).1))] (nx p).2) (p:PE) (hp:p.1<ts.length) :
  N2 54 [vi .i64 L] ts p [.ag (C0 (cP (a4L nx ts p).1))] (a4L nx ts p).2:=by
 have hh:=a54 (by omega:ts.length<=1048576) hp;have hn:=hf p hp;have h1:=hx p hp;have hsg:∀q:PE,q.1<ts.length->N2 55 [.d (.sl 1 [[.sc (.string ⟨#[42]⟩)],[.sc (.string ⟨#[47]⟩)],[.sc (.string ⟨#[37]⟩)]])] ts q [vs ((w9 ts a24 q).getD N9)] (a2M ts a24 q):=λq hq=>b02 (by omega) hq a24 (by decide)
 have hov:=λg a x y hf=>a23 40 g ⟨#[]⟩ 0 false a [x,y] (by simp only[d3O,d3Y];omega) hf
 unfold a4L;generalize (r9 ts p.1).at_=pl at *;obtain⟨rr,hrr⟩:∃rr,rr=a0g a24 nx ts pl ts.length (nx p):=⟨_,rfl⟩;rw[<-hrr];obtain⟨x1,hx1⟩:=F5 (nx p).1;unfold N2 at hh h1 ⊢;rw[hx1] at h1;obtain⟨s0,hs0⟩:∃s0,s0=stP ts p:=⟨_,rfl⟩;obtain⟨s1,hs1⟩:∃s1,s1=stP ts (nx p).2:=⟨_,rfl⟩;obtain⟨s9,hs9⟩:∃s9,s9=stP ts rr.2:=⟨_,rfl⟩;obtain⟨R9,hR9⟩:∃R9,R9=cP rr.1:=⟨_,rfl⟩;rw[<-hs0] at hh h1;rw[<-hs1] at h1;rw[<-hs0,<-hs9,<-hR9];obtain⟨inv,hi⟩:∃inv,inv=d1r ts p.1 a24 nx pl rr:=⟨_,rfl⟩;have hi0:inv (x1,s1.1,s1.2.1,s1.2.2):=by rw[hi];exact⟨nx p,hx1,hs1,hn.hi,⟨hn.lo,hn.sz,λh=>(hn.ok h).2⟩,hrr⟩
 obtain⟨mu,hmu⟩:∃mu:(Nat->D)×Int×Int×Int->Nat,mu=λx=>ts.length - x.2.2.2.toNat:=⟨_,rfl⟩
 generalize hT:P6 ts=T at *;obtain⟨a0,b0,d0⟩:=s0;obtain⟨a1,b1,d1⟩:=s1;obtain⟨a9,b9,d9⟩:=s9;refine so9 Tryz.func54 rfl ?_;intro _ _ _ _ _ _ _ _ _ _ _ qm _ qp _ _ _ _ _ _ _ _ _ _ _ _ _ _ _ _ _ _ _ _ _ _ _ _ _ _ _ vx;intros;rename_i hA;obtain⟨e1,e2,e3,e4,e5,e6,e7,e8,e9⟩:=m6 hA;obtain⟨c1,c2,c3,c4_,c5,c6,c7⟩:=G1 hA
 iterate 2 (try cbv;repeat ((first|with_reducible apply j6 hA|refine B8 hA [0,1] hh ?_|refine B8 hA [0,1] h1 ?_);cbv))
 try simp (maxSteps:=4000000) only [nc] at *
 refine n9 hA (γ:=(Nat->D)×Int×Int×Int) (λx=>[(12,.jk)]) (λx=>[(0,.box [.ptr 1 0,vi .u8 x.2.1,vi .i64 x.2.2.1]),(1,.box [.d (.sl 4 T),vi .i64 x.2.2.2]),(3,.box (C0 (cE x.1)))]) inv mu (x1,a1,b1,d1) hi0 ?_ ?_
 ·cbv
 ·intro x hinv;obtain⟨x,e,q,a⟩:=x;cbv;refine gn ?_;try simp only[nc] at *
  rw[hi] at hinv;obtain⟨y,hy1,hy2,hyl,hsz,hr⟩:=hinv;replace hy1:cP y.1=cE x:=hy1;replace hy2:((e,q,a):ST)=stP ts y.2:=hy2;rw[b8t hE hf hyl] at hr;have hs:=hsg y.2 hyl;unfold N2 a2M at hs;rw[<-hy2,hT] at hs;cases hso:w9 ts a24 y.2 with
  | none =>
   rw[hso] at hr hs;dsimp only at hr hs;rw[<-hy2] at hs;have hR:R9=cE x:=by rw[hR9,hr,hy1]
   have hss:((a9,b9,d9):ST)=(e,q,a):=by rw[hs9,hr,<-hy2]
   injection hss with f0 f1;injection f1 with f1 f2;subst f0;subst f1;subst f2;rw[hR];have q1:qm (qp ⟨#[]⟩) (qp ⟨#[]⟩)=true:=by rw[c1];exact d4G _
   clear hs9 hR9 hr hy2 hso hi0;have p0:=hs;exact fin
  | some g =>
   rw[hso] at hr hs;dsimp only[d6h] at hr hs;obtain⟨k1,k2,k3⟩:=K7 hE hyl hso;have hsz2:=a7P hE hf (op:=40) (nm:=g) (ar:=N9) (a:=pl) hsz k1 k2;have hn2:=hf (y.2.1+1,0) k2;have hp2:=hx (y.2.1+1,0) k2;unfold N2 at hp2
   have ho:=hov g pl y.1 (nx (y.2.1+1,0)).1 (by
    have h1:=hsz2.2.1;have h2:=hn2.hi;simp only[A9,C9,d4m,d4t,d4d,d3O,d3K] at h1 ⊢
    omega)
   have q1:qm (qp g) (qp ⟨#[]⟩)=false:=by
    simp only[d3R,d5h,d6b] at k3
    rcases k3 with rfl|rfl|rfl <;> (simp only[c1,c3,ByteArray.toList_eq];rfl)
   obtain⟨z,hz⟩:∃z,z=A9 40 g N9 pl [y.1,(nx (y.2.1+1,0)).1]:=⟨_,rfl⟩;obtain⟨x2,hx2⟩:=F5 (nx (y.2.1+1,0)).1;obtain⟨x3,hx3⟩:=F5 z;rw[show rP [y.1,(nx (y.2.1+1,0)).1]=[cE x,cE x2] by unfold rP;rw[d4a,d4a,d47,hy1,hx2],show cP (C9 40 g ⟨#[]⟩ 0 false v8 pl [y.1,(nx (y.2.1+1,0)).1])=cE x3 by rw[<-hx3,hz]] at ho;rw[hx2,hT] at hp2;have ha:a=(y.2.1:Int):=congrArg (λs:ST=>s.2.2) hy2;have hin:inv (x3,stP ts (nx (y.2.1+1,0)).2):=by rw[hi];exact⟨(z,(nx (y.2.1+1,0)).2),hx3,rfl,hn2.hi,by rw[hz];exact hsz2,by rw[hz];exact hr⟩
   have hmu9:mu (x3,stP ts (nx (y.2.1+1,0)).2)<mu (x,e,q,a):=by
    rw[hmu];show ts.length - (((nx (y.2.1+1,0)).2.1:Nat):Int).toNat<ts.length - a.toNat;have:=hn2.lo;rw[ha];simp only[d4j] at this ⊢;omega
   generalize stP ts (y.2.1+1,0)=s2 at *;generalize stP ts (nx (y.2.1+1,0)).2=s3 at *;obtain⟨a2,b2,d2⟩:=s2;obtain⟨a3,b3,d3⟩:=s3;have hp2b:=y7.box hp2 rfl;clear hs9 hR9 hr hy2 hso hi0 hsz2 hn2 hz hx3 hx2 hy1;have p0:=hs;have p1:=hp2;have o0:=ho;have hi:=hin;have hm:=hmu9;exact fin
theorem b4X {sg:List ByteArray} {nx:PF} {ts:List Tok} {a:Int} {b:Nat} (hE:y5 ts) (hf:E3 ts nx):∀(k:Nat) (s:PL×PE),SzP b s->s.2.1<ts.length->SzP b (a0g sg nx ts a k s)/\(a0g sg nx ts a k s).2.1<ts.length
 | 0,s,h,h1=>⟨h,h1⟩
 | k+1,s,h,h1=>by
  rw[a0g];cases hs:w9 ts sg s.2 with
  | none=>exact⟨h,h1⟩
  | some g =>
   obtain⟨h3,h4,_⟩:=K7 hE h1 hs;exact b4X hE hf k _ (a7P hE hf h h3 h4) (hf (s.2.1+1,0) h4).hi
theorem Y6 {ts:List Tok} {p:PE} (h:p.2≠0):∀l:List ByteArray,w9 ts l p=none
 | []=>rfl
 | s::l=>by rw[w9,d3G (by unfold B1;rw[d3T h,d56];decide),Y6 h l]
theorem b4Y {sg:List ByteArray} {nx:PF} {ts:List Tok} {a:Int} {s:PL×PE} (h:s.2.2≠0):∀k,a0g sg nx ts a k s=s
 | 0=>rfl
 | k+1=>by rw[a0g,Y6 h]
theorem SzP.fit {ts:List Tok} {p:PE} {r:PL×PE} (h:SzP p.1 r) (h1:r.2.1<ts.length) (h2:r.2.2=0->p.2=0):FitP ts p r:=⟨h.1,h1,h.2.1,λh0=>⟨h2 h0,h.2.2 h0⟩⟩
theorem FitP.size {ts:List Tok} {p:PE} {r:PL×PE} (h:FitP ts p r):SzP p.1 r:=⟨h.lo,h.sz,λh0=>(h.ok h0).2⟩
theorem c6n {sg:List ByteArray} {nx:PF} {ts:List Tok} {a:PE->Int} (hE:y5 ts) (hf:E3 ts nx):E3 ts λp=>a0g sg nx ts (a p) ts.length (nx p):=λp hp=>by
 have h:=hf p hp;obtain⟨h1,h2⟩:=b4X (sg:=sg) (a:=a p) hE hf ts.length (nx p) h.size h.hi;refine h1.fit h2 λh0=>?_
 by_cases hz:(nx p).2.2=0
 ·exact(h.ok hz).1
 ·rw[b4Y hz] at h0;exact absurd h0 hz
abbrev a2N:List ByteArray:=[⟨#[64]⟩,⟨#[94]⟩,⟨#[116,114,117,101]⟩,⟨#[102,97,108,115,101]⟩,⟨#[40]⟩,⟨#[123]⟩,⟨#[99,97,115,101]⟩]
def H8 (t:Tok):Bool:=t.kind == 1 || (t.kind == 2 || (t.kind == 3 && a2N.any λs=>t.text.toList == s.toList))
theorem c3j (t:Tok):o8 92 [.ag (tkD t)] [.one (.sc (.bool (H8 t)))]:=by
 unfold tkD H8 a2N;generalize t.kind=k;generalize t.text=x;generalize t.n=n;generalize t.at_=p;simp only[d6z,List.any_nil,Bool.or_false];obtain⟨b0,hb0⟩:∃b,b=(x.toList == (⟨#[64]⟩:ByteArray).toList):=⟨_,rfl⟩;obtain⟨b1,hb1⟩:∃b,b=(x.toList == (⟨#[94]⟩:ByteArray).toList):=⟨_,rfl⟩;obtain⟨b2,hb2⟩:∃b,b=(x.toList == (⟨#[116,114,117,101]⟩:ByteArray).toList):=⟨_,rfl⟩;obtain⟨b3,hb3⟩:∃b,b=(x.toList == (⟨#[102,97,108,115,101]⟩:ByteArray).toList):=⟨_,rfl⟩;obtain⟨b4,hb4⟩:∃b,b=(x.toList == (⟨#[40]⟩:ByteArray).toList):=⟨_,rfl⟩;obtain⟨b5,hb5⟩:∃b,b=(x.toList == (⟨#[123]⟩:ByteArray).toList):=⟨_,rfl⟩;obtain⟨b6,hb6⟩:∃b,b=(x.toList == (⟨#[99,97,115,101]⟩:ByteArray).toList):=⟨_,rfl⟩;rw[<-hb0,<-hb1,<-hb2,<-hb3,<-hb4,<-hb5,<-hb6];obtain⟨k1,hk1⟩:∃b,b=(k == 1):=⟨_,rfl⟩;obtain⟨k2,hk2⟩:∃b,b=(k == 2):=⟨_,rfl⟩;obtain⟨k3,hk3⟩:∃b,b=(k == 3):=⟨_,rfl⟩;rw[<-hk1,<-hk2,<-hk3];refine Q5 Tryz.func92 rfl ?_;intro _ _ _ _ _ _ _ _ _ qk _ qm _ qp;intros;rename_i hA;obtain⟨e1,e2,e3,e4,e5,e6,e7,e8,e9⟩:=m6 hA;obtain⟨c1,c2,c3,c4_,c5,c6,c7⟩:=G1 hA;have q1:qk k 1=k1:=by rw[e9,hk1]
 have q2:qk k 2=k2:=by rw[e9,hk2]
 have q3:qk k 3=k3:=by rw[e9,hk3]
 have r0:qm (qp x) (qp ⟨#[64]⟩)=b0:=by rw[c1,c3,c3,hb0]
 have r1:qm (qp x) (qp ⟨#[94]⟩)=b1:=by rw[c1,c3,c3,hb1]
 have r2:qm (qp x) (qp ⟨#[116,114,117,101]⟩)=b2:=by rw[c1,c3,c3,hb2]
 have r3:qm (qp x) (qp ⟨#[102,97,108,115,101]⟩)=b3:=by rw[c1,c3,c3,hb3]
 have r4:qm (qp x) (qp ⟨#[40]⟩)=b4:=by rw[c1,c3,c3,hb4]
 have r5:qm (qp x) (qp ⟨#[123]⟩)=b5:=by rw[c1,c3,c3,hb5]
 have r6:qm (qp x) (qp ⟨#[99,97,115,101]⟩)=b6:=by rw[c1,c3,c3,hb6]
 clear hb0 hb1 hb2 hb3 hb4 hb5 hb6 hk1 hk2 hk3;cases k1
 ·cases k2
  ·cases k3
   ·try cbv;exact fr
   ·cases b0
    ·cases b1
     ·cases b2
      ·cases b3
       ·cases b4
        ·cases b5
         ·cases b6
          ·iterate 2 (try cbv;repeat ((first|with_reducible apply j6 hA|rw[q1]|rw[q2]|rw[q3]|rw[r0]|rw[r1]|rw[r2]|rw[r3]|rw[r4]|rw[r5]|rw[r6]);cbv))
          ·iterate 2 (try cbv;repeat ((first|with_reducible apply j6 hA|rw[q1]|rw[q2]|rw[q3]|rw[r0]|rw[r1]|rw[r2]|rw[r3]|rw[r4]|rw[r5]|rw[r6]);cbv))
         ·iterate 2 (try cbv;repeat ((first|with_reducible apply j6 hA|rw[q1]|rw[q2]|rw[q3]|rw[r0]|rw[r1]|rw[r2]|rw[r3]|rw[r4]|rw[r5]);cbv))
        ·iterate 2 (try cbv;repeat ((first|with_reducible apply j6 hA|rw[q1]|rw[q2]|rw[q3]|rw[r0]|rw[r1]|rw[r2]|rw[r3]|rw[r4]);cbv))
       ·iterate 2 (try cbv;repeat ((first|with_reducible apply j6 hA|rw[q1]|rw[q2]|rw[q3]|rw[r0]|rw[r1]|rw[r2]|rw[r3]);cbv))
      ·iterate 2 (try cbv;repeat ((first|with_reducible apply j6 hA|rw[q1]|rw[q2]|rw[q3]|rw[r0]|rw[r1]|rw[r2]);cbv))
     ·iterate 2 (try cbv;repeat ((first|with_reducible apply j6 hA|rw[q1]|rw[q2]|rw[q3]|rw[r0]|rw[r1]);cbv))
    ·iterate 2 (try cbv;repeat ((first|with_reducible apply j6 hA|rw[q1]|rw[q2]|rw[q3]|rw[r0]);cbv))
  ·try cbv;exact fr
 ·try cbv;exact fr
def StF (ts:List Tok) (pr:PF):Prop:=∀p:PE,p.1<ts.length->p.2=0->H8 (r9 ts p.1)=true->p.1<(pr p).2.1
def a04 (pr:PF) (ts:List Tok) (a:Int):Nat->PL×PE->PL×PE
 | 0,s=>s
 | k+1,s=>if s.2.2=0/\H8 (r9 ts s.2.1)=true then a04 pr ts a k (A9 37 N9 N9 a [s.1,(pr s.2).1],(pr s.2).2) else s
theorem b2h {pr:PF} {ts:List Tok} {a:Int} (hf:E3 ts pr) (hst:StF ts pr):∀(k m:Nat) (s:PL×PE),s.2.1<ts.length->ts.length - s.2.1<=k->ts.length - s.2.1<=m->a04 pr ts a k s=a04 pr ts a m s
 | 0,m,s,h,h1,h2=>by omega
 | k+1,0,s,h,h1,h2=>by omega
 | k+1,m+1,s,h,h1,h2=>by
  rw[a04,a04]
  by_cases hs:s.2.2=0/\H8 (r9 ts s.2.1)=true
  ·rw[d3I hs,d3I hs];have hn:=hf s.2 h;have h3:=hst s.2 h hs.1 hs.2;exact b2h hf hst k m _ hn.hi (by show ts.length - (pr s.2).2.1<=k;omega) (by show ts.length - (pr s.2).2.1<=m;omega)
  ·rw[d3G hs,d3G hs]
theorem c6o {pr:PF} {ts:List Tok} {a:Int} (hf:E3 ts pr) (hst:StF ts pr) {y:PL×PE} (h:y.2.1<ts.length):a04 pr ts a ts.length y=if y.2.2=0/\H8 (r9 ts y.2.1)=true then a04 pr ts a ts.length (A9 37 N9 N9 a [y.1,(pr y.2).1],(pr y.2).2) else y:=by
 have e:a04 pr ts a ts.length y=a04 pr ts a (ts.length+1) y:=b2h hf hst _ _ y h (by omega) (by omega);rw[e,a04]
theorem b4Z {pr:PF} {ts:List Tok} (hf:E3 ts pr) {b:Nat} {a:Int} {s:PL×PE} (hs:SzP b s) (h0:s.2.2=0) (h:s.2.1<ts.length):SzP b (A9 37 N9 N9 a [s.1,(pr s.2).1],(pr s.2).2):=by
 have hn:=hf s.2 h;obtain⟨h1,h2,h3⟩:=hs;have h3:=h3 h0;have l1:=hn.lo;have l2:=hn.sz;have l3:=hn.ok;unfold SzP A9 C9;simp only[d4m,d4t,d4d,d3O,d3K];exact⟨by omega,by omega,λh=>by have:=(l3 h).2;omega⟩
theorem b5a {pr:PF} {ts:List Tok} {a:Int} {b:Nat} (hf:E3 ts pr):∀(k:Nat) (s:PL×PE),SzP b s->s.2.1<ts.length->SzP b (a04 pr ts a k s)/\(a04 pr ts a k s).2.1<ts.length
 | 0,s,h,h1=>⟨h,h1⟩
 | k+1,s,h,h1=>by
  rw[a04]
  by_cases hs:s.2.2=0/\H8 (r9 ts s.2.1)=true
  ·rw[d3I hs];exact b5a hf k _ (b4Z hf h hs.1 h1) (hf s.2 h1).hi
  ·rw[d3G hs];exact⟨h,h1⟩
def a4b (pr:PF) (ts:List Tok) (p:PE):PL×PE:=a04 pr ts (r9 ts p.1).at_ ts.length (pr p)
theorem b5b {pr:PF} {ts:List Tok} (hf:E3 ts pr):E3 ts (a4b pr ts):=λp hp=>by
 have h:=hf p hp;unfold a4b;obtain⟨h1,h2⟩:=b5a (a:=(r9 ts p.1).at_) hf ts.length (pr p) h.size h.hi;refine h1.fit h2 λh0=>?_
 by_cases hz:(pr p).2.2=0
 ·exact(h.ok hz).1
 ·have e:∀k,a04 pr ts (r9 ts p.1).at_ k (pr p)=pr p:=λk=>by cases k with|zero=>rfl|succ k=>rw[a04,d3G (λh=>hz h.1)]
  rw[e] at h0;exact absurd h0 hz
def d3a (ts:List Tok) (b:Nat) (nx:PF) (a:Int) (r:PL×PE) (x:(Nat->D)×Int×Int×Int):Prop:=∃y:PL×PE,cP y.1=cE x.1/\(x.2.1,x.2.2.1,x.2.2.2)=stP ts y.2/\y.2.1<ts.length/\SzP b y/\r=a04 nx ts a ts.length y
theorem d1t {ts:List Tok} (hl:ts.length<=65537) {L:Int} {nx:PF} (hf:E3 ts nx) (hst:StF ts nx) (hx:∀p:PE,p.1<ts.length->N2 91 [vi .i64 L] ts p [.ag (C0 (cP (nx p).1))] (nx p).2) (p:PE) (hp:p.1<ts.length) :
  N2 78 [vi .i64 L] ts p [.ag (C0 (cP (a4b nx ts p).1))] (a4b nx ts p).2:=by
 have hl2:ts.length<=1048576:=by omega
 have hh:=a54 hl2 hp;have hn:=hf p hp;have h1:=hx p hp;have hok:=λ(q:PE) hq=>okP hl2 (p:=q) hq
 have hpk:=λa ha=>c23 hl2 (a:=a) ha
 have hstt:=λt=>c3j t
 have hov:=λa x y hf=>a23 37 N9 ⟨#[]⟩ 0 false a [x,y] (by simp only[d3O,d3Y];omega) hf
 unfold a4b;generalize (r9 ts p.1).at_=pl at *;obtain⟨rr,hrr⟩:∃rr,rr=a04 nx ts pl ts.length (nx p):=⟨_,rfl⟩;rw[<-hrr];obtain⟨x1,hx1⟩:=F5 (nx p).1;unfold N2 at hh h1 ⊢;rw[hx1] at h1;obtain⟨s0,hs0⟩:∃s0,s0=stP ts p:=⟨_,rfl⟩;obtain⟨s1,hs1⟩:∃s1,s1=stP ts (nx p).2:=⟨_,rfl⟩;obtain⟨s9,hs9⟩:∃s9,s9=stP ts rr.2:=⟨_,rfl⟩;obtain⟨R9,hR9⟩:∃R9,R9=cP rr.1:=⟨_,rfl⟩;rw[<-hs0] at hh h1;rw[<-hs1] at h1;rw[<-hs0,<-hs9,<-hR9];obtain⟨inv,hi⟩:∃inv,inv=d3a ts p.1 nx pl rr:=⟨_,rfl⟩;have hi0:inv (x1,s1.1,s1.2.1,s1.2.2):=by rw[hi];exact⟨nx p,hx1,hs1,hn.hi,hn.size,hrr⟩
 obtain⟨mu,hmu⟩:∃mu:(Nat->D)×Int×Int×Int->Nat,mu=λx=>ts.length - x.2.2.2.toNat:=⟨_,rfl⟩
 generalize hT:P6 ts=T at *;obtain⟨a0,b0,d0⟩:=s0;obtain⟨a1,b1,d1⟩:=s1;obtain⟨a9,b9,d9⟩:=s9;refine so9 Tryz.func78 rfl ?_;intro _ _ _ _ _ _ _ _ _ _ _ _ _ _ _ _ _ _ _ _ _ _ _ _ _ _ _ _ _ _ _ _ _ _ _ _ _ _ _ _ _ vx;intros;rename_i hA
 iterate 2 (try cbv;repeat ((first|with_reducible apply j6 hA|refine B8 hA [0,1] hh ?_|refine B8 hA [0,1] h1 ?_);cbv))
 try simp (maxSteps:=4000000) only [nc] at *
 refine n9 hA (γ:=(Nat->D)×Int×Int×Int) (λx=>[(11,.jk)]) (λx=>[(0,.box [.ptr 1 0,vi .u8 x.2.1,vi .i64 x.2.2.1]),(1,.box [.d (.sl 4 T),vi .i64 x.2.2.2]),(3,.box (C0 (cE x.1)))]) inv mu (x1,a1,b1,d1) hi0 ?_ ?_
 ·cbv
 ·intro x hinv;obtain⟨x,e,q,a⟩:=x;cbv;refine gn ?_;try simp only[nc] at *
  rw[hi] at hinv;obtain⟨y,hy1,hy2,hyl,hsz,hr⟩:=hinv;replace hy1:cP y.1=cE x:=hy1;replace hy2:((e,q,a):ST)=stP ts y.2:=hy2;rw[c6o hf hst hyl] at hr;have ha:a=(y.2.1:Int):=congrArg (λs:ST=>s.2.2) hy2;have ho1:=hok y.2 hyl;unfold N2 at ho1;rw[<-hy2,hT] at ho1
  by_cases hz:y.2.2=0
  ·rw[hz] at ho1;have hk:=hpk y.2.1 hyl;have hs:=hstt (r9 ts y.2.1);unfold tkD at hs;rw[<-ha] at hk
   by_cases hb:H8 (r9 ts y.2.1)=true
   ·rw[d3I ⟨hz,hb⟩] at hr;rw[hb] at hs;have hsz2:=b4Z hf (a:=pl) hsz hz hyl;have hn2:=hf y.2 hyl;have hp2:=hx y.2 hyl;have hlt:=hst y.2 hyl hz hb;unfold N2 at hp2
    have ho:=hov pl y.1 (nx y.2).1 (by
     have h1:=hsz2.2.1;have h2:=hn2.hi;simp only[A9,C9,d4m,d4t,d4d,d3O,d3K] at h1 ⊢
     omega)
    obtain⟨z,hzz⟩:∃z,z=A9 37 N9 N9 pl [y.1,(nx y.2).1]:=⟨_,rfl⟩;obtain⟨x2,hx2⟩:=F5 (nx y.2).1;obtain⟨x3,hx3⟩:=F5 z;rw[show rP [y.1,(nx y.2).1]=[cE x,cE x2] by unfold rP;rw[d4a,d4a,d47,hy1,hx2],show cP (C9 37 N9 ⟨#[]⟩ 0 false v8 pl [y.1,(nx y.2).1])=cE x3 by rw[<-hx3,hzz]] at ho;rw[hx2,hT,<-hy2] at hp2;have hin:inv (x3,stP ts (nx y.2).2):=by rw[hi];exact⟨(z,(nx y.2).2),hx3,rfl,hn2.hi,by rw[hzz];exact hsz2,by rw[hzz];exact hr⟩
    have hmu9:mu (x3,stP ts (nx y.2).2)<mu (x,e,q,a):=by
     rw[hmu];show ts.length - (((nx y.2).2.1:Nat):Int).toNat<ts.length - a.toNat;rw[ha];simp only[d4j];omega
    generalize stP ts (nx y.2).2=s3 at *;obtain⟨a3,b3,d3⟩:=s3;have hp2b:=y7.box hp2 rfl;generalize (r9 ts y.2.1).kind=k0 at *;generalize (r9 ts y.2.1).text=t0 at *;generalize (r9 ts y.2.1).n=n0 at *;generalize (r9 ts y.2.1).at_=p0 at *;clear hs9 hR9 hr hy2 hb hi0 hsz2 hn2 hzz hx3 hx2 hy1;have h0:=hs;have p0:=ho1;have r0:=hk;have p1:=hp2;have o0:=ho;have hi:=hin;have hm:=hmu9;exact fin
   ·rw[d3G (λh=>hb h.2)] at hr;replace hb:H8 (r9 ts y.2.1)=false:=by simpa using hb
    rw[hb] at hs;have hR:R9=cE x:=by rw[hR9,hr,hy1]
    have hss:((a9,b9,d9):ST)=(e,q,a):=by rw[hs9,hr,<-hy2]
    injection hss with f0 f1;injection f1 with f1 f2;subst f0;subst f1;subst f2;rw[hR];generalize (r9 ts y.2.1).kind=k0 at *;generalize (r9 ts y.2.1).text=t0 at *;generalize (r9 ts y.2.1).n=n0 at *;generalize (r9 ts y.2.1).at_=p0 at *;clear hs9 hR9 hr hy2 hb hi0 hy1;have h0:=hs;have p0:=ho1;have r0:=hk;exact fin
  ·rw[d3T hz] at ho1;rw[d3G (λh=>hz h.1)] at hr;have hR:R9=cE x:=by rw[hR9,hr,hy1]
   have hss:((a9,b9,d9):ST)=(e,q,a):=by rw[hs9,hr,<-hy2]
   injection hss with f0 f1;injection f1 with f1 f2;subst f0;subst f1;subst f2;rw[hR];clear hs9 hR9 hr hy2 hi0 hy1;have p0:=ho1;exact fin
abbrev d1u:ByteArray:=⟨#[46]⟩
abbrev d1v:ByteArray:=⟨#[92]⟩
abbrev W6:List ByteArray:=[d1u,d1v]
def a1M (g:ByteArray):Int:=if g.toList=d1u.toList then 43 else 44
def J5 (ts:List Tok) (a:Int):Nat->PL×PE->PL×PE
 | 0,s=>s
 | k+1,s=>match w9 ts W6 s.2 with
  | none=>s
  | some g=>J5 ts a k (A9 (a1M g) (j7 ts (s.2.1+1,0)).1 N9 a [s.1],(j7 ts (s.2.1+1,0)).2)
theorem r8 {ts:List Tok} (hE:y5 ts) {p:PE} (hp:p.1<ts.length):(j7 ts p).2.1<ts.length/\p.1<=(j7 ts p).2.1/\((j7 ts p).2.2=0->p.2=0/\(j7 ts p).2.1=p.1+1):=by
 unfold j7
 split
 ·rename_i h;exact⟨hE _ hp (by rw[h.2];decide),d6w _,λ_=>⟨h.1,rfl⟩⟩
 ·obtain⟨h1,h2⟩:=C8 5 (by decide) p;exact⟨by show (F6 5 p).1<_;rw[h1];exact hp,by show _<=(F6 5 p).1;rw[h1];exact d3Q _,λh=>absurd h h2⟩
theorem b2i {ts:List Tok} (hE:y5 ts) {b:Nat} {op:Int} {nm ar:ByteArray} {a:Int} {s:PL×PE} (hs:SzP b s) (h0:s.2.2=0) (h:s.2.1+1<ts.length):SzP b (A9 op nm ar a [s.1],(j7 ts (s.2.1+1,0)).2):=by
 obtain⟨w1,w2,w3⟩:=r8 hE (p:=(s.2.1+1,0)) h;obtain⟨h1,h2,h3⟩:=hs;have h3:=h3 h0;simp only at w2 w3;unfold SzP A9 C9;simp only[d4m,d4t,d4d,d3O];exact⟨by omega,by omega,λh=>by have:=(w3 h).2;omega⟩
theorem b03 {ts:List Tok} {a:Int} (hE:y5 ts):∀(k m:Nat) (s:PL×PE),s.2.1<ts.length->ts.length - s.2.1<=k->ts.length - s.2.1<=m->J5 ts a k s=J5 ts a m s
 | 0,m,s,h,h1,h2=>by omega
 | k+1,0,s,h,h1,h2=>by omega
 | k+1,m+1,s,h,h1,h2=>by
  rw[J5,J5];cases hs:w9 ts W6 s.2 with
  | none=>rfl
  | some g =>
   obtain⟨_,h4,_⟩:=K7 hE h hs;obtain⟨w1,w2,_⟩:=r8 hE (p:=(s.2.1+1,0)) h4;simp only at w2;exact b03 hE k m _ w1 (by show ts.length - (j7 ts (s.2.1+1,0)).2.1<=k;omega) (by show ts.length - (j7 ts (s.2.1+1,0)).2.1<=m;omega)
theorem c3k {ts:List Tok} {a:Int} (hE:y5 ts) {y:PL×PE} (h:y.2.1<ts.length):J5 ts a ts.length y=match w9 ts W6 y.2 with
  | none=>y
  | some g=>J5 ts a ts.length (A9 (a1M g) (j7 ts (y.2.1+1,0)).1 N9 a [y.1],(j7 ts (y.2.1+1,0)).2):=by
 have e:J5 ts a ts.length y=J5 ts a (ts.length+1) y:=b03 hE _ _ y h (by omega) (by omega);rw[e,J5]
theorem b2j {ts:List Tok} {a:Int} {b:Nat} (hE:y5 ts):∀(k:Nat) (s:PL×PE),SzP b s->s.2.1<ts.length->SzP b (J5 ts a k s)/\(J5 ts a k s).2.1<ts.length
 | 0,s,h,h1=>⟨h,h1⟩
 | k+1,s,h,h1=>by
  rw[J5];cases hs:w9 ts W6 s.2 with
  | none=>exact⟨h,h1⟩
  | some g =>
   obtain⟨h3,h4,_⟩:=K7 hE h1 hs;exact b2j hE k _ (b2i hE h h3 h4) (r8 hE (p:=(s.2.1+1,0)) h4).1
def a1N (nx:PF) (ts:List Tok) (p:PE):PL×PE:=J5 ts (r9 ts p.1).at_ ts.length (nx p)
theorem c7F {nx:PF} {ts:List Tok} (hE:y5 ts) (hf:E3 ts nx):E3 ts (a1N nx ts):=λp hp=>by
 have h:=hf p hp;unfold a1N;obtain⟨h1,h2⟩:=b2j (a:=(r9 ts p.1).at_) hE ts.length (nx p) h.size h.hi;refine h1.fit h2 λh0=>?_
 by_cases hz:(nx p).2.2=0
 ·exact(h.ok hz).1
 ·have e:∀k,J5 ts (r9 ts p.1).at_ k (nx p)=nx p:=λk=>by cases k with|zero=>rfl|succ k=>rw[J5,Y6 hz]
  rw[e] at h0;exact absurd h0 hz
def d3b (ts:List Tok) (b:Nat) (a:Int) (r:PL×PE) (x:(Nat->D)×Int×Int×Int):Prop:=∃y:PL×PE,cP y.1=cE x.1/\(x.2.1,x.2.2.1,x.2.2.2)=stP ts y.2/\y.2.1<ts.length/\SzP b y/\r=J5 ts a ts.length y
theorem c9t {ts:List Tok} (hE:y5 ts) (hl:ts.length<=65537) {L:Int} {nx:PF} (hf:E3 ts nx) (hx:∀p:PE,p.1<ts.length->N2 105 [vi .i64 L] ts p [.ag (C0 (cP (nx p).1))] (nx p).2) (p:PE) (hp:p.1<ts.length) :
  N2 100 [vi .i64 L] ts p [.ag (C0 (cP (a1N nx ts p).1))] (a1N nx ts p).2:=by
 have hl2:ts.length<=1048576:=by omega
 have hh:=a54 hl2 hp;have hn:=hf p hp;have h1:=hx p hp;have hsg:∀q:PE,q.1<ts.length->N2 55 [.d (.sl 1 [[.sc (.string ⟨#[46]⟩)],[.sc (.string ⟨#[92]⟩)]])] ts q [vs ((w9 ts W6 q).getD N9)] (a2M ts W6 q):=λq hq=>b02 hl2 hq W6 (by decide)
 have hwd:=λ(q:PE) hq=>a1S hl2 (p:=q) hq
 have hov:=λop w a x hf=>a23 op w ⟨#[]⟩ 0 false a [x] (by simp only[d3O,d3Y];omega) hf
 unfold a1N;generalize (r9 ts p.1).at_=pl at *;obtain⟨rr,hrr⟩:∃rr,rr=J5 ts pl ts.length (nx p):=⟨_,rfl⟩;rw[<-hrr];obtain⟨x1,hx1⟩:=F5 (nx p).1;unfold N2 at hh h1 ⊢;rw[hx1] at h1;obtain⟨s0,hs0⟩:∃s0,s0=stP ts p:=⟨_,rfl⟩;obtain⟨s1,hs1⟩:∃s1,s1=stP ts (nx p).2:=⟨_,rfl⟩;obtain⟨s9,hs9⟩:∃s9,s9=stP ts rr.2:=⟨_,rfl⟩;obtain⟨R9,hR9⟩:∃R9,R9=cP rr.1:=⟨_,rfl⟩;rw[<-hs0] at hh h1;rw[<-hs1] at h1;rw[<-hs0,<-hs9,<-hR9];obtain⟨inv,hi⟩:∃inv,inv=d3b ts p.1 pl rr:=⟨_,rfl⟩;have hi0:inv (x1,s1.1,s1.2.1,s1.2.2):=by rw[hi];exact⟨nx p,hx1,hs1,hn.hi,hn.size,hrr⟩
 obtain⟨mu,hmu⟩:∃mu:(Nat->D)×Int×Int×Int->Nat,mu=λx=>ts.length - x.2.2.2.toNat:=⟨_,rfl⟩
 generalize hT:P6 ts=T at *;obtain⟨a0,b0,d0⟩:=s0;obtain⟨a1,b1,d1⟩:=s1;obtain⟨a9,b9,d9⟩:=s9;refine so9 Tryz.func100 rfl ?_;intro _ _ _ _ _ _ _ _ _ _ _ qm _ qp _ _ _ _ _ _ _ _ _ _ _ _ _ _ _ _ _ _ _ _ _ _ _ _ _ _ _ vx;intros;rename_i hA;obtain⟨e1,e2,e3,e4,e5,e6,e7,e8,e9⟩:=m6 hA;obtain⟨c1,c2,c3,c4_,c5,c6,c7⟩:=G1 hA
 iterate 2 (try cbv;repeat ((first|with_reducible apply j6 hA|refine B8 hA [0,1] hh ?_|refine B8 hA [0,1] h1 ?_);cbv))
 try simp (maxSteps:=4000000) only [nc] at *
 refine n9 hA (γ:=(Nat->D)×Int×Int×Int) (λx=>[(12,.jk)]) (λx=>[(0,.box [.ptr 1 0,vi .u8 x.2.1,vi .i64 x.2.2.1]),(1,.box [.d (.sl 4 T),vi .i64 x.2.2.2]),(3,.box (C0 (cE x.1)))]) inv mu (x1,a1,b1,d1) hi0 ?_ ?_
 ·cbv
 ·intro x hinv;obtain⟨x,e,q,a⟩:=x;cbv;refine gn ?_;try simp only[nc] at *
  rw[hi] at hinv;obtain⟨y,hy1,hy2,hyl,hsz,hr⟩:=hinv;replace hy1:cP y.1=cE x:=hy1;replace hy2:((e,q,a):ST)=stP ts y.2:=hy2;rw[c3k hE hyl] at hr;have ha:a=(y.2.1:Int):=congrArg (λs:ST=>s.2.2) hy2;have hs:=hsg y.2 hyl;unfold N2 a2M at hs;rw[<-hy2,hT] at hs;cases hso:w9 ts W6 y.2 with
  | none =>
   rw[hso] at hr hs;dsimp only at hr hs;rw[<-hy2] at hs;have hR:R9=cE x:=by rw[hR9,hr,hy1]
   have hss:((a9,b9,d9):ST)=(e,q,a):=by rw[hs9,hr,<-hy2]
   injection hss with f0 f1;injection f1 with f1 f2;subst f0;subst f1;subst f2;rw[hR];have q1:qm (qp ⟨#[]⟩) (qp ⟨#[46]⟩)=false:=by simp only[c1,c3,ByteArray.toList_eq];rfl
   have q2:qm (qp ⟨#[]⟩) (qp ⟨#[92]⟩)=false:=by simp only[c1,c3,ByteArray.toList_eq];rfl
   clear hs9 hR9 hr hy2 hso hi0 hy1;have p0:=hs;exact fin
  | some g =>
   rw[hso] at hr hs;dsimp only[d6h] at hr hs;obtain⟨k1,k2,k3⟩:=K7 hE hyl hso;have hsz2:=b2i hE (op:=a1M g) (nm:=(j7 ts (y.2.1+1,0)).1) (ar:=N9) (a:=pl) hsz k1 k2;obtain⟨n1,n2,n3⟩:=r8 hE (p:=(y.2.1+1,0)) k2;have hp2:=hwd (y.2.1+1,0) k2;unfold N2 at hp2
   have ho:=hov (a1M g) (j7 ts (y.2.1+1,0)).1 pl y.1 (by
    have h1:=hsz.2.1;simp only[d4m,d4t,d4d]
    omega)
   obtain⟨z,hz⟩:∃z,z=A9 (a1M g) (j7 ts (y.2.1+1,0)).1 N9 pl [y.1]:=⟨_,rfl⟩;obtain⟨x3,hx3⟩:=F5 z;rw[show rP [y.1]=[cE x] by unfold rP;rw[d4a,d47,hy1],show cP (C9 (a1M g) (j7 ts (y.2.1+1,0)).1 ⟨#[]⟩ 0 false v8 pl [y.1])=cE x3 by rw[<-hx3,hz]] at ho;rw[hT] at hp2;have hin:inv (x3,stP ts (j7 ts (y.2.1+1,0)).2):=by rw[hi];exact⟨(z,(j7 ts (y.2.1+1,0)).2),hx3,rfl,n1,by rw[hz];exact hsz2,by rw[hz];exact hr⟩
   have hmu9:mu (x3,stP ts (j7 ts (y.2.1+1,0)).2)<mu (x,e,q,a):=by
    rw[hmu];show ts.length - (((j7 ts (y.2.1+1,0)).2.1:Nat):Int).toNat<ts.length - a.toNat;rw[ha];simp only[d4j] at n2 ⊢;omega
   generalize (j7 ts (y.2.1+1,0)).1=w at *;generalize stP ts (y.2.1+1,0)=s2 at *;generalize stP ts (j7 ts (y.2.1+1,0)).2=s3 at *;obtain⟨a2,b2,d2⟩:=s2;obtain⟨a3,b3,d3⟩:=s3;clear hs9 hR9 hr hy2 hso hi0 hsz2 hz hx3 hy1;simp only[d3R,d5h,d6b] at k3
   rcases k3 with rfl|rfl
   ·have q1:qm (qp ⟨#[46]⟩) (qp ⟨#[46]⟩)=true:=by rw[c1];exact d4G _
    rw[show a1M ⟨#[46]⟩=43 from d3I rfl] at ho;have p0:=hs;have p1:=hp2;have o0:=ho;have hi:=hin;have hm:=hmu9;exact fin
   ·have q1:qm (qp ⟨#[92]⟩) (qp ⟨#[46]⟩)=false:=by simp only[c1,c3,ByteArray.toList_eq];rfl
    have q2:qm (qp ⟨#[92]⟩) (qp ⟨#[92]⟩)=true:=by rw[c1];exact d4G _
    rw[show a1M ⟨#[92]⟩=44 from d3G (by rw[ByteArray.toList_eq,ByteArray.toList_eq];decide)] at ho;have p0:=hs;have p1:=hp2;have o0:=ho;have hi:=hin;have hm:=hmu9;exact fin
inductive LikeD:D->D->Prop
 | refl (d:D):LikeD d d
 | nil (n m:Nat):LikeD (.sl n []) (.sl m [])
 | sl (sz:Nat) (rows rows':List (List D)) (hl:rows.length=rows'.length) (hr:∀r∈rows',r.length=sz) (hf:rows.flatten.length=rows'.flatten.length)
   (h:∀(i:Nat) (d d':D),rows.flatten[i]?=some d->rows'.flatten[i]?=some d'->LikeD d d'):LikeD (.sl sz rows) (.sl sz rows')
theorem LikeD.at {d d':D} (h:LikeD d d'):∀ {I:Nat->Nat->Prop} {w:World} {v:Value},AtD I w v d->AtD I w v d':=by
 induction h with
 | refl d=>exact λh=>h
 | nil n m=>exact λh=>h.empty m
 | sl sz rows rows' hl hr hf _ ih =>
  intro I w v h;generalize hd:D.sl sz rows=d at h;cases h with
  | sc v hv=>cases hd
  | nil A cap sz2 =>
   injection hd with e1 e2;subst e2;have:rows'=[]:=d4h (by rw[<-hl];rfl);subst this;exact .nil _ _ _
  | sl b off cap sz2 rows2 us hcap hI hr2 hlen hc hdd =>
   injection hd with e1 e2;subst e1;subst e2;rw[hl];refine .sl b off cap sz rows' us (by omega) (by rw[<-hl];exact hI) hr (by rw[<-hl];exact hlen) hc λi u d' hu hd'=>?_
   have hlt:i<rows.flatten.length:=by rw[hf];exact(d3J.1 hd').1
   exact ih i _ d' (d3H hlt) hd' (hdd i u _ hu (d3H hlt))
def a4c (ds ds':List D):Prop:=ds.length=ds'.length/\∀(i:Nat) (d d':D),ds[i]?=some d->ds'[i]?=some d'->LikeD d d'
theorem a4c.at {ds ds':List D} (h:a4c ds ds') {I:Nat->Nat->Prop} {w:World} {us:List Value} (hu:F8 I w us ds):F8 I w us ds' :=
 ⟨hu.1.trans h.1,λi u d' hui hd'=>by
  have hlt:i<ds.length:=by rw[h.1];exact(d3J.1 hd').1
  exact(h.2 i _ d' (d3H hlt) hd').at (hu.2 i u _ hui (d3H hlt))⟩
inductive LikeR:R->R->Prop
 | one {d d':D} (h:LikeD d d'):LikeR (.one d) (.one d')
 | ag {ds ds':List D} (h:a4c ds ds'):LikeR (.ag ds) (.ag ds')
theorem LikeR.at {r r':R} (h:LikeR r r') {I:Nat->Nat->Prop} {w:World} {v:Value} (hv:AtR I w v r):AtR I w v r':=by
 cases h with
 | one h=>exact h.at hv
 | ag h=>obtain⟨us,e,h2⟩:=hv;exact⟨us,e,h.at h2⟩
def a4M:List R->List R->Prop
 | [],[]=>True
 | r::rs,r'::rs'=>LikeR r r'/\a4M rs rs'
 | _,_=>False
theorem a4M.at:∀ {rs rs':List R},a4M rs rs'->∀ {I:Nat->Nat->Prop} {w:World} {us:List Value},a5G I w us rs->a5G I w us rs'
 | [],[],_,_,_,us,h=>h
 | r::rs,r'::rs',h,I,w,us,hu=>by
  match us,hu with
  | u::us,hu=>exact⟨h.1.at hu.1,a4M.at h.2 hu.2⟩
theorem o8.like {f:Nat} {rs rs' q:List R} (h:o8 f rs q) (hl:a4M rs' rs):o8 f rs' q:=⟨h.1,λI w args hI hat=>h.2 I w args hI (hl.at hat)⟩
theorem a4M.res:∀ {q q':List R},a4M q q'->∀ {I:Nat->Nat->Prop} {w:World} {v:Value},a3o I w v q->a3o I w v q'
 | [],[],_,_,_,v,h=>h
 | [r],[r'],h,_,_,v,hv=>h.1.at hv
 | r::s::rs,r'::s'::rs',h,_,_,v,hv=>by
  obtain⟨us,e,h2⟩:=hv;exact⟨us,e,h.at h2⟩
theorem o8.likeq {f:Nat} {rs q q':List R} (h:o8 f rs q) (hl:a4M q q'):o8 f rs q':=h.mono λI w v hv=>hl.res hv
theorem LikeR.same (r:R):LikeR r r:=by
 cases r with
 | one x=>exact .one (.refl _)
 | ag xs=>exact .ag ⟨rfl,λi d d' h h'=>by rw[h] at h';cases h';exact .refl _⟩
theorem a4c.nil:a4c [] []:=⟨rfl,λi d d' h=>by simp at h⟩
theorem a4c.cons {d d':D} {ds ds':List D} (h:LikeD d d') (hs:a4c ds ds'):a4c (d::ds) (d'::ds') :=
 ⟨by simp[hs.1],λi x y hx hy=>by
  cases i with
  | zero=>simp at hx hy;subst hx;subst hy;exact h
  | succ i=>exact hs.2 i x y (by simpa using hx) (by simpa using hy)⟩
abbrev lfT (op:Int):Ty:=.mk op N9 0 []
def lf0 (op:Int):List D:=[.sc (.int .u8 op),.sc (.string N9),.sc (.int .i64 0),.sl 0 []]
theorem a6R (op:Int):LikeR (.ag (lf0 op)) (.ag [.sc (.int .u8 op),.sc (.string N9),.sc (.int .i64 0),.sl 4 []]) :=
 .ag ⟨rfl,λi d d' h h'=>by
  match i,h,h' with
  | 0,h,h'=>cases h;cases h';exact .refl _
  | 1,h,h'=>cases h;cases h';exact .refl _
  | 2,h,h'=>cases h;cases h';exact .refl _
  | 3,h,h'=>cases h;cases h';exact .nil _ _⟩
theorem d1w:o8 121 [] [.ag (cT (lfT 1))]:=by
 rw[cT,rT];refine o8.likeq (q:=[.ag (lf0 1)]) ?_ ⟨a6R 1,trivial⟩;unfold lf0;refine Q5 Tryz.func121 rfl ?_;intros;rename_i hA
 try cbv;exact fr
theorem c9u:o8 122 [] [.ag (cT (lfT 2))]:=by
 rw[cT,rT];refine o8.likeq (q:=[.ag (lf0 2)]) ?_ ⟨a6R 2,trivial⟩;unfold lf0;refine Q5 Tryz.func122 rfl ?_;intros;rename_i hA
 try cbv;exact fr
theorem d1x:o8 123 [] [.ag (cT (lfT 3))]:=by
 rw[cT,rT];refine o8.likeq (q:=[.ag (lf0 3)]) ?_ ⟨a6R 3,trivial⟩;unfold lf0;refine Q5 Tryz.func123 rfl ?_;intros;rename_i hA
 try cbv;exact fr
theorem d1y (t:Ty) (h:t.parts.length<=1048576):o8 126 [.ag (cT t)] [.ag (cT (.mk 5 N9 0 [t]))]:=by
 have hc:=a1J t h;rw[show cT (.mk 5 N9 0 [t])=[.sc (.int .u8 5),.sc (.string N9),.sc (.int .i64 0),.sl 4 [cT t]] by rw[cT,rT,rT]];obtain⟨a0,a1,a2,a3,ha⟩:=m8 t;rw[ha] at hc ⊢;refine Q5 Tryz.func126 rfl ?_;intros;rename_i hA
 try cbv;exact fr
theorem d1z (t:Ty) (h:t.parts.length<=1048576):o8 127 [.ag (cT t)] [.ag (cT (.mk 6 N9 0 [t]))]:=by
 have hc:=a1J t h;rw[show cT (.mk 6 N9 0 [t])=[.sc (.int .u8 6),.sc (.string N9),.sc (.int .i64 0),.sl 4 [cT t]] by rw[cT,rT,rT]];obtain⟨a0,a1,a2,a3,ha⟩:=m8 t;rw[ha] at hc ⊢;refine Q5 Tryz.func127 rfl ?_;intros;rename_i hA
 try cbv;exact fr
theorem d10 (t u:Ty) (h:t.parts.length<=1048576) (hu:u.parts.length<=1048576):o8 114 [.ag (cT t),.ag (cT u)] [.ag (cT (.mk 4 N9 0 [t,u]))]:=by
 have hc:=a1J t h;have hc2:=a1J u hu;rw[show cT (.mk 4 N9 0 [t,u])=[.sc (.int .u8 4),.sc (.string N9),.sc (.int .i64 0),.sl 4 [cT t,cT u]] by rw[cT,rT,rT,rT]];obtain⟨a0,a1,a2,a3,ha⟩:=m8 t;obtain⟨b0,b1,b2,b3,hb⟩:=m8 u;rw[ha] at hc ⊢;rw[hb] at hc2 ⊢;refine Q5 Tryz.func114 rfl ?_;intros;rename_i hA
 iterate 2 (try cbv;repeat ((first|with_reducible apply j6 hA|refine j8 hA _ hc rfl ?_|refine l9 hA _ hc ?_|refine j8 hA _ hc2 rfl ?_|refine l9 hA _ hc2 ?_|refine E2 hA true ?_);cbv))
theorem c9v (fs:List (ByteArray×Ty)) (tl:Ty) (hn:fs.length<=1048576) (htl:tl.parts.length<=1048576) (hf:∀f∈fs,f.2.parts.length<=1048576):o8 102 [.one (.sl 5 (rF fs)),.ag (cT tl)] [.ag (cT (a0E fs tl))]:=by
 have hct:=a1J tl htl;have hj:=b0z tl fs
 have hcf:∀r∈rF fs,∃nm c0 c1 c2 c3,r=[nm,c0,c1,c2,c3]/\o8 109 [.ag [c0,c1,c2,c3]] [.ag [c0,c1,c2,c3]]:=λr hr=>by
  obtain⟨f,hf0,rfl⟩:=d4U.1 hr;have h3:=a1J f.2 (hf f hf0);obtain⟨c0,c1,c2,c3,hcc⟩:=m8 f.2;rw[hcc] at h3;exact⟨_,c0,c1,c2,c3,by show D.sc _::cT f.2=_;rw[hcc],h3⟩
 obtain⟨q0,q1,q2,q3,hq⟩:=m8 tl;rw[hq] at hct hj ⊢;have hJ:=c2S (rF fs) q0 q1 q2 q3 (by rw[a2u];omega) hct hcf;rw[hj] at hJ;exact hJ
def G6 (rd:PE->Ty×PE) (ts:List Tok) (p:PE):(ByteArray×Ty)×PE :=
 if (r9 ts p.1).kind≠1 then ((N9,v8),F6 5 p)
 else (((r9 ts p.1).text,(rd (l6 ts a3d (p.1+1,p.2))).1),(rd (l6 ts a3d (p.1+1,p.2))).2)
def J8 (rd:PE->Ty×PE) (ts:List Tok):Nat->PE->List (ByteArray×Ty)->List (ByteArray×Ty)×PE
 | 0,p,l=>(l,p)
 | k+1,p,l=>if B1 ts a2s p=true then J8 rd ts k (G6 rd ts (p.1+1,0)).2 (l++[(G6 rd ts (p.1+1,0)).1]) else (l,p)
def a05 (rd:PE->Ty×PE) (ts:List Tok) (p:PE):List (ByteArray×Ty)×PE :=
 if (r9 ts p.1).kind=1 then J8 rd ts ts.length (G6 rd ts p).2 [(G6 rd ts p).1] else ([],p)
def tlW (ts:List Tok) (l:List (ByteArray×Ty)) (p:PE):Ty×PE :=
 if B1 ts b3e p=true then (a0E l (lfT 9),l6 ts a3V (p.1+1,0)) else (a0E l (lfT 8),p)
def a25 (rd:PE->Ty×PE) (ts:List Tok) (p:PE):Ty×PE:=tlW ts (a05 rd ts p).1 (a05 rd ts p).2
def T6 (rd:PE->Ty×PE) (ts:List Tok) (p:PE):Ty×PE :=
 if B1 ts a7G p=true then (lfT 1,(p.1+1,0))
 else if B1 ts a4h p=true then (lfT 2,(p.1+1,0))
 else if B1 ts a3V p=true then (lfT 3,(p.1+1,0))
 else if B1 ts a52 p=true then ((rd (p.1+1,0)).1,l6 ts a8m (rd (p.1+1,0)).2)
 else if B1 ts b3d p=true then (.mk 5 N9 0 [(a25 rd ts (p.1+1,0)).1],l6 ts b7W (a25 rd ts (p.1+1,0)).2)
 else if B1 ts b42 p=true then (.mk 6 N9 0 [(a25 rd ts (p.1+1,0)).1],l6 ts b7X (a25 rd ts (p.1+1,0)).2)
 else (v8,F6 5 p)
def A8 (ts:List Tok):Nat->PE->Ty×PE
 | 0,p=>(v8,F6 6 p)
 | n+1,p =>
  if p.2≠0 then (v8,p)
  else if B1 ts gTo (T6 (A8 ts n) ts p).2=true then
   (.mk 4 N9 0 [(T6 (A8 ts n) ts p).1,(A8 ts n ((T6 (A8 ts n) ts p).2.1+1,0)).1],(A8 ts n ((T6 (A8 ts n) ts p).2.1+1,0)).2)
  else T6 (A8 ts n) ts p
structure Fit (ts:List Tok) (p:PE) (r:Ty×PE) (k:Nat):Prop where
 lo:p.1<=r.2.1
 hi:r.2.1<ts.length
 sz:r.1.parts.length+p.1<=r.2.1+2
 ok:r.2.2=0->p.2=0/\r.1.parts.length+p.1<=r.2.1+k
 sp:G5 r.1
theorem a26 (op:Int):(lfT op).parts.length=1:=by rw[B5];rfl
theorem a1w:v8.parts.length=1:=a26 0
theorem a4d (op:Int) (h:op≠11):G5 (lfT op):=.mk (a7H h) λx hx=>by cases hx
theorem a4e:G5 v8:=a4d 0 (by decide)
theorem b2k (op:Int) (nm:ByteArray) (n:Int) (t:Ty):(Ty.mk op nm n [t]).parts.length=1+t.parts.length:=by rw[B5];simp only[Ty.kids,d4m,d4t,d4d,d3O];omega
theorem b2l (op:Int) (nm:ByteArray) (n:Int) (t u:Ty):(Ty.mk op nm n [t,u]).parts.length=1+t.parts.length+u.parts.length:=by rw[B5];simp only[Ty.kids,d4m,d4t,d4d,d3O,d3K];omega
theorem b9V {op:Int} {nm:ByteArray} {n:Int} {t:Ty} (h:op≠11) (ht:G5 t):G5 (.mk op nm n [t]):=.mk (a7H h) λx hx=>by
 cases hx with
 | head=>exact ht
 | tail _ hx=>cases hx
theorem b9W {op:Int} {nm:ByteArray} {n:Int} {t u:Ty} (h:op≠11) (ht:G5 t) (hu:G5 u):G5 (.mk op nm n [t,u]):=.mk (a7H h) λx hx=>by
 cases hx with
 | head=>exact ht
 | tail _ hx=>cases hx with
  | head=>exact hu
  | tail _ hx=>cases hx
theorem b5c (l:List (ByteArray×Ty)) (f:ByteArray×Ty):B9 (l++[f])=B9 l+(1+f.2.parts.length):=by unfold B9;rw[d45,List.sum_append];simp
theorem b8v (l:List (ByteArray×Ty)):2 * l.length<=B9 l/\∀f∈l,f.2.parts.length<=B9 l:=by
 induction l with
 | nil=>exact⟨d3Q _,λf hf=>by cases hf⟩
 | cons a l ih =>
  have h:B9 (a::l)=(1+a.2.parts.length)+B9 l:=by unfold B9;simp
  have:=F9 a.2;rw[h,d3O];refine⟨by omega,λf hf=>?_⟩;cases hf with
  | head=>omega
  | tail _ hf=>have:=ih.2 f hf;omega
def a7Q (ts:List Tok) (rd:PE->Ty×PE):Prop:=∀p:PE,p.1<ts.length->Fit ts p (rd p) 0/\(p.2≠0->rd p=(v8,p))
structure FitF (ts:List Tok) (p:PE) (r:(ByteArray×Ty)×PE):Prop where
 lo:p.1<=r.2.1
 hi:r.2.1<ts.length
 sz:r.1.2.parts.length+p.1<=r.2.1+1
 sw:(r9 ts p.1).kind=1->r.1.2.parts.length+p.1<=r.2.1
 ok:r.2.2=0->p.2=0/\r.1.2.parts.length+p.1+2<=r.2.1
 sp:G5 r.1.2
theorem Y7 {ts:List Tok} {rd:PE->Ty×PE} (hE:y5 ts) (hr:a7Q ts rd) (p:PE) (hp:p.1<ts.length):FitF ts p (G6 rd ts p):=by
 unfold G6
 by_cases hk:(r9 ts p.1).kind≠1
 ·rw[d3I hk];obtain⟨f1,f2⟩:=C8 5 (by decide) p;exact⟨by rw[f1];exact d3Q _,by rw[f1];exact hp,by show v8.parts.length+_<=_;rw[a1w,f1];omega,λh=>absurd h hk,λh=>absurd h f2,a4e⟩
 ·rw[d3G hk];replace hk:=d4Z.1 hk;have h1:=hE _ hp (by rw[hk];decide);obtain⟨w1,w2,w3⟩:=l8 (s:=a3d) (p:=(p.1+1,p.2)) hE h1;generalize l6 ts a3d (p.1+1,p.2)=q at *;obtain⟨hq,hz⟩:=hr q w1;simp only at w2 w3
  have key:(rd q).1.parts.length+p.1<=(rd q).2.1:=by
   have:=hq.sz
   by_cases hq0:q.2=0
   ·have:=(w3 hq0).2;omega
   ·rw[hz hq0];show v8.parts.length+_<=q.1;rw[a1w];omega
  generalize rd q=r at *;obtain⟨a1,a2,a3,a4,a5⟩:=hq
  exact⟨by show p.1<=r.2.1;omega,a2,by show r.1.parts.length+_<=r.2.1+1;omega,λ_=>key,λh=>by
   have h3:=a4 h;have h4:=w3 h3.1;refine⟨h4.1,?_⟩;show r.1.parts.length+_+_<=r.2.1
   omega,a5⟩
structure FitL (ts:List Tok) (p:PE) (r:List (ByteArray×Ty)×PE):Prop where
 lo:p.1<=r.2.1
 hi:r.2.1<ts.length
 sz:B9 r.1+p.1<=r.2.1+1
 ok:r.2.2=0->p.2=0/\B9 r.1+p.1<=r.2.1
 sp:∀f∈r.1,G5 f.2
theorem a6d {ts:List Tok} {rd:PE->Ty×PE} (hE:y5 ts) (hr:a7Q ts rd) (p0:PE):∀(k:Nat) (p:PE) (l:List (ByteArray×Ty)),FitL ts p0 (l,p)->FitL ts p0 (J8 rd ts k p l)
 | 0,p,l,h=>h
 | k+1,p,l,h=>by
  rw[J8]
  by_cases hs:B1 ts a2s p=true
  ·rw[d3I hs];obtain⟨s1,s2⟩:=B0 hE h.hi hs;have hf:=Y7 hE hr (p.1+1,0) s2;generalize G6 rd ts (p.1+1,0)=f at *;obtain⟨a1,a2,a3,a4,a5,a6⟩:=hf;obtain⟨b1,b2,b3,b4,b5⟩:=h;simp only at *;have b6:=b4 s1;refine a6d hE hr p0 k f.2 (l++[f.1]) ⟨by show p0.1<=f.2.1;omega,a2,?_,λh=>⟨b6.1,?_⟩,λx hx=>?_⟩
   ·show B9 (l++[f.1])+p0.1<=f.2.1+1;rw[b5c];omega
   ·show B9 (l++[f.1])+p0.1<=f.2.1;rw[b5c];have:=(a5 h).2;omega
   ·rcases d4s.1 hx with hx|hx
    ·exact b5 x hx
    ·cases d4e.1 hx;exact a6
  ·rw[d3G hs];exact h
theorem a6S {ts:List Tok} {rd:PE->Ty×PE} (hE:y5 ts) (hr:a7Q ts rd) (p:PE) (hp:p.1<ts.length):FitL ts p (a05 rd ts p):=by
 unfold a05
 by_cases hk:(r9 ts p.1).kind=1
 ·rw[d3I hk];have hf:=Y7 hE hr p hp;generalize G6 rd ts p=f at *;obtain⟨a1,a2,a3,a4,a5,a6⟩:=hf;have e1:B9 [f.1]=1+f.1.2.parts.length:=rfl;have a7:=a4 hk;refine a6d hE hr p _ _ _ ⟨a1,a2,by show B9 [f.1]+_<=f.2.1+1;omega,λh=>⟨(a5 h).1,by show B9 [f.1]+_<=f.2.1;have:=(a5 h).2;omega⟩,λx hx=>?_⟩;cases d4e.1 hx;exact a6
 ·rw[d3G hk];have e1:B9 []=0:=rfl;exact⟨d3Q _,hp,by show B9 []+p.1<=p.1+1;omega,λh=>⟨h,by show B9 []+p.1<=p.1;omega⟩,λx hx=>by cases hx⟩
theorem a6T {ts:List Tok} {rd:PE->Ty×PE} (hE:y5 ts) (hr:a7Q ts rd) (p:PE) (hp:p.1<ts.length):Fit ts p (a25 rd ts p) 1:=by
 unfold a25;have hh:=a6S hE hr p hp;generalize a05 rd ts p=r at *;obtain⟨b1,b2,b3,b4,b5⟩:=hh;unfold tlW;have e1:∀o:Int,(a0E r.1 (lfT o)).parts.length=B9 r.1+1:=λo=>by rw[a6a,a26]
 by_cases hs:B1 ts b3e r.2=true
 ·rw[d3I hs];obtain⟨s1,s2⟩:=B0 hE b2 hs;obtain⟨w1,w2,w3⟩:=l8 (s:=a3V) (p:=(r.2.1+1,0)) hE s2;have b6:=b4 s1;generalize l6 ts a3V (r.2.1+1,0)=q at *;simp only at w2 w3;exact⟨by show p.1<=q.1;omega,w1,by show (a0E r.1 (lfT 9)).parts.length+p.1<=q.1+2;rw[e1];omega,λh=>⟨b6.1,by show (a0E r.1 (lfT 9)).parts.length+p.1<=q.1+1;rw[e1];omega⟩,a6b (a4d 9 (by decide)) b5⟩
 ·rw[d3G hs];exact⟨b1,b2,by show (a0E r.1 (lfT 8)).parts.length+p.1<=r.2.1+2;rw[e1];omega,λh=>⟨(b4 h).1,by show (a0E r.1 (lfT 8)).parts.length+p.1<=r.2.1+1;rw[e1];have:=(b4 h).2;omega⟩,a6b (a4d 8 (by decide)) b5⟩
theorem b04 {ts:List Tok} {p:PE} {s:ByteArray} (op:Int) (ho:op≠11) (hE:y5 ts) (hp:p.1<ts.length) (h:B1 ts s p=true):Fit ts p (lfT op,(p.1+1,0)) 0:=by
 obtain⟨s1,s2⟩:=B0 hE hp h;exact⟨d6w _,s2,by show (lfT op).parts.length+p.1<=p.1+1+2;rw[a26];omega,λ_=>⟨s1,by show (lfT op).parts.length+p.1<=p.1+1+0;rw[a26];omega⟩,a4d op ho⟩
theorem b5d {ts:List Tok} {p:PE} {s c:ByteArray} (op:Int) (ho:op≠11) (hE:y5 ts) (hp:p.1<ts.length) (h:B1 ts s p=true) {r:Ty×PE} (hr:Fit ts (p.1+1,0) r 1):Fit ts p (.mk op N9 0 [r.1],l6 ts c r.2) 0:=by
 obtain⟨s1,s2⟩:=B0 hE hp h;obtain⟨a1,a2,a3,a4,a5⟩:=hr;obtain⟨w1,w2,w3⟩:=l8 (s:=c) (p:=r.2) hE a2;simp only at a1 a3 a4
 exact⟨by show p.1<=(l6 ts c r.2).1;omega,w1,by show (Ty.mk op N9 0 [r.1]).parts.length+p.1<=(l6 ts c r.2).1+2;rw[b2k];omega,λh=>⟨s1,by
  show (Ty.mk op N9 0 [r.1]).parts.length+p.1<=(l6 ts c r.2).1+0;have h3:=w3 h;have h4:=a4 h3.1
  rw[b2k];omega⟩,b9V ho a5⟩
theorem a38 {ts:List Tok} {rd:PE->Ty×PE} (hE:y5 ts) (hr:a7Q ts rd) (p:PE) (hp:p.1<ts.length):Fit ts p (T6 rd ts p) 0:=by
 unfold T6
 by_cases h1:B1 ts a7G p=true
 ·rw[d3I h1];exact b04 1 (by decide) hE hp h1
 rw[d3G h1]
 by_cases h2:B1 ts a4h p=true
 ·rw[d3I h2];exact b04 2 (by decide) hE hp h2
 rw[d3G h2]
 by_cases h3:B1 ts a3V p=true
 ·rw[d3I h3];exact b04 3 (by decide) hE hp h3
 rw[d3G h3]
 by_cases h4:B1 ts a52 p=true
 ·rw[d3I h4];obtain⟨s1,s2⟩:=B0 hE hp h4;obtain⟨hq,_⟩:=hr (p.1+1,0) s2;generalize rd (p.1+1,0)=r at *;obtain⟨a1,a2,a3,a4,a5⟩:=hq;obtain⟨w1,w2,w3⟩:=l8 (s:=a8m) (p:=r.2) hE a2;simp only at a1 a3 a4
  exact⟨by show p.1<=(l6 ts a8m r.2).1;omega,w1,by show r.1.parts.length+p.1<=(l6 ts a8m r.2).1+2;omega,λh=>⟨s1,by
   show r.1.parts.length+p.1<=(l6 ts a8m r.2).1+0;have h3:=w3 h;have h4:=a4 h3.1
   omega⟩,a5⟩
 rw[d3G h4]
 by_cases h5:B1 ts b3d p=true
 ·rw[d3I h5];exact b5d 5 (by decide) hE hp h5 (a6T hE hr (p.1+1,0) (B0 hE hp h5).2)
 rw[d3G h5]
 by_cases h6:B1 ts b42 p=true
 ·rw[d3I h6];exact b5d 6 (by decide) hE hp h6 (a6T hE hr (p.1+1,0) (B0 hE hp h6).2)
 rw[d3G h6];obtain⟨f1,f2⟩:=C8 5 (by decide) p;exact⟨by rw[f1];exact d3Q _,by rw[f1];exact hp,by show v8.parts.length+_<=_;rw[a1w,f1];omega,λh=>absurd h f2,a4e⟩
theorem T7 {ts:List Tok} (hE:y5 ts):∀n:Nat,a7Q ts (A8 ts n)
 | 0,p,hp=>by
  rw[A8];obtain⟨f1,f2⟩:=C8 6 (by decide) p;refine⟨⟨by rw[f1];exact d3Q _,by rw[f1];exact hp,by show v8.parts.length+_<=_;rw[a1w,f1];omega,λh=>absurd h f2,a4e⟩,λh=>?_⟩;unfold F6;rw[d3I h]
 | n+1,p,hp=>by
  have ih:=T7 hE n;rw[A8]
  by_cases h0:p.2≠0
  ·rw[d3I h0];exact⟨⟨d3Q _,hp,by show v8.parts.length+p.1<=p.1+2;rw[a1w];omega,λh=>absurd h h0,a4e⟩,λ_=>rfl⟩
  rw[d3G h0];refine⟨?_,λh=>absurd h h0⟩;have ha:=a38 hE ih p hp;generalize T6 (A8 ts n) ts p=r at *
  by_cases hs:B1 ts gTo r.2=true
  ·rw[d3I hs];obtain⟨a1,a2,a3,a4,a5⟩:=ha;obtain⟨s1,s2⟩:=B0 hE a2 hs;obtain⟨hq,_⟩:=ih (r.2.1+1,0) s2;generalize A8 ts n (r.2.1+1,0)=u at *;obtain⟨b1,b2,b3,b4,b5⟩:=hq;have a6:=a4 s1;simp only at b1 b3 b4
   exact⟨by show p.1<=u.2.1;omega,b2,by show (Ty.mk 4 N9 0 [r.1,u.1]).parts.length+p.1<=u.2.1+2;rw[b2l];omega,λh=>⟨a6.1,by
    show (Ty.mk 4 N9 0 [r.1,u.1]).parts.length+p.1<=u.2.1+0;have h4:=(b4 h).2
    rw[b2l];omega⟩,b9W (by decide) a5 b5⟩
  ·rw[d3G hs];exact ha
section
abbrev SkN (T:List (List D)) (s:ByteArray) (b:Bool) (e q a e' q' a':Int):Prop:=y7 113 [.ptr 0 0,vs s] [.box [.ptr 1 0,.d (.sc (.int .u8 e)),.d (.sc (.int .i64 q))],.box [.d (.sl 4 T),.d (.sc (.int .i64 a))]] (λres os=>res=[vb b]/\os=[.box [.ptr 1 0,.d (.sc (.int .u8 e')),.d (.sc (.int .i64 q'))],.box [.d (.sl 4 T),.d (.sc (.int .i64 a'))]])
abbrev WaN (T:List (List D)) (s:ByteArray) (e q a e' q' a':Int):Prop:=y7 124 [.ptr 0 0,vs s] [.box [.ptr 1 0,.d (.sc (.int .u8 e)),.d (.sc (.int .i64 q))],.box [.d (.sl 4 T),.d (.sc (.int .i64 a))]] (λres os=>res=[]/\os=[.box [.ptr 1 0,.d (.sc (.int .u8 e')),.d (.sc (.int .i64 q'))],.box [.d (.sl 4 T),.d (.sc (.int .i64 a'))]])
abbrev FaN (T:List (List D)) (c:Int) (e q a e' q' a':Int):Prop:=y7 111 [.ptr 0 0,vi .u8 c] [.box [.ptr 1 0,.d (.sc (.int .u8 e)),.d (.sc (.int .i64 q))],.box [.d (.sl 4 T),.d (.sc (.int .i64 a))]] (λres os=>res=[]/\os=[.box [.ptr 1 0,.d (.sc (.int .u8 e')),.d (.sc (.int .i64 q'))],.box [.d (.sl 4 T),.d (.sc (.int .i64 a'))]])
abbrev TyN (f:Nat) (T:List (List D)) (L:Int) (x:List V) (e q a e' q' a':Int):Prop:=y7 f [.ptr 0 0,vi .i64 L] [.box [.ptr 1 0,.d (.sc (.int .u8 e)),.d (.sc (.int .i64 q))],.box [.d (.sl 4 T),.d (.sc (.int .i64 a))]] (λres os=>res=[.ag x]/\os=[.box [.ptr 1 0,.d (.sc (.int .u8 e')),.d (.sc (.int .i64 q'))],.box [.d (.sl 4 T),.d (.sc (.int .i64 a'))]])
section
variable {T:List (List D)} {L e q a e1 q1 a1 e2 q2 a2 e3 q3 a3:Int}
theorem c3l (h1:SkN T a7G true e q a e1 q1 a1):TyN 112 T L (C0 (cT (lfT 1))) e q a e1 q1 a1:=by
 have hi:=d1w;rw[cT,rT] at hi ⊢;refine so9 Tryz.func112 rfl ?_;intro _ _ _ _ _ _ _ _ _ _ _ _ _ _ _ _ _ _ _ _ _ _ _ _ _ _ _ _ _ _ _ _ _ _ _ _ _ _ _ _ _ vx;intros;rename_i hA;have h0:=hi;have p0:=h1;exact fin
theorem b9X (h1:SkN T a7G false e q a e q a) (h2:SkN T a4h true e q a e1 q1 a1):TyN 112 T L (C0 (cT (lfT 2))) e q a e1 q1 a1:=by
 have hi:=c9u;rw[cT,rT] at hi ⊢;refine so9 Tryz.func112 rfl ?_;intro _ _ _ _ _ _ _ _ _ _ _ _ _ _ _ _ _ _ _ _ _ _ _ _ _ _ _ _ _ _ _ _ _ _ _ _ _ _ _ _ _ vx;intros;rename_i hA;have h0:=hi;have p0:=h1;have p1:=h2;exact fin
theorem c3m (h1:SkN T a7G false e q a e q a) (h2:SkN T a4h false e q a e q a) (h3:SkN T a3V true e q a e1 q1 a1):TyN 112 T L (C0 (cT (lfT 3))) e q a e1 q1 a1:=by
 have hi:=d1x;rw[cT,rT] at hi ⊢;refine so9 Tryz.func112 rfl ?_;intro _ _ _ _ _ _ _ _ _ _ _ _ _ _ _ _ _ _ _ _ _ _ _ _ _ _ _ _ _ _ _ _ _ _ _ _ _ _ _ _ _ vx;intros;rename_i hA;have h0:=hi;have p0:=h1;have p1:=h2;have p2:=h3;exact fin
theorem b9Y {t:Ty} (hL:0<=L) (hL2:L<=1048576) (h1:SkN T a7G false e q a e q a) (h2:SkN T a4h false e q a e q a) (h3:SkN T a3V false e q a e q a) (h4:SkN T a52 true e q a e1 q1 a1) (hw:TyN 103 T (L+1) (C0 (cT t)) e1 q1 a1 e2 q2 a2) (hn:WaN T a8m e2 q2 a2 e3 q3 a3):TyN 112 T L (C0 (cT t)) e q a e3 q3 a3:=by
 obtain⟨c0,c1,c2,c3,hc⟩:=m8 t;rw[hc] at hw ⊢;obtain⟨L1,hL1⟩:∃L1,L1=L+1:=⟨_,rfl⟩;rw[<-hL1] at hw;refine so9 Tryz.func112 rfl ?_;intro qa qb _ _ _ _ _ _ _ _ _ _ _ _ _ _ _ _ _ _ _ _ _ _ _ _ _ _ _ _ _ _ _ _ _ _ _ _ _ _ _ vx;intros;rename_i hA;obtain⟨ee1,ee2,e3,e4,e5,e6,e7,e8,e9⟩:=m6 hA;have g1:qa .i64 (qb L 1)=L1:=by rw[ee1,ee2,IntWalk.i64_in _ (by omega)];exact hL1.symm
 have q0:=g1;have p0:=h1;have p1:=h2;have p2:=h3;have p3:=h4;have p4:=hw;have p5:=hn;exact fin
theorem c3n {t:Ty} (ht:t.parts.length<=1048576) (h1:SkN T a7G false e q a e q a) (h2:SkN T a4h false e q a e q a) (h3:SkN T a3V false e q a e q a) (h4:SkN T a52 false e q a e q a) (h5:SkN T b3d true e q a e1 q1 a1) (hw:TyN 125 T L (C0 (cT t)) e1 q1 a1 e2 q2 a2) (hn:WaN T b7W e2 q2 a2 e3 q3 a3):TyN 112 T L (C0 (cT (.mk 5 N9 0 [t]))) e q a e3 q3 a3:=by
 have hr:=d1y t ht;obtain⟨c0,c1,c2,c3,hc⟩:=m8 t;obtain⟨d0,d1,d2,d3,hd⟩:=m8 (.mk 5 N9 0 [t]);rw[hc] at hw hr;rw[hd] at hr ⊢;refine so9 Tryz.func112 rfl ?_;intro _ _ _ _ _ _ _ _ _ _ _ _ _ _ _ _ _ _ _ _ _ _ _ _ _ _ _ _ _ _ _ _ _ _ _ _ _ _ _ _ _ vx;intros;rename_i hA;have h0:=hr;have p0:=h1;have p1:=h2;have p2:=h3;have p3:=h4;have p4:=h5;have p5:=hw;have p6:=hn;exact fin
theorem c3o {t:Ty} (ht:t.parts.length<=1048576) (h1:SkN T a7G false e q a e q a) (h2:SkN T a4h false e q a e q a) (h3:SkN T a3V false e q a e q a) (h4:SkN T a52 false e q a e q a) (h5:SkN T b3d false e q a e q a) (h6:SkN T b42 true e q a e1 q1 a1) (hw:TyN 125 T L (C0 (cT t)) e1 q1 a1 e2 q2 a2) (hn:WaN T b7X e2 q2 a2 e3 q3 a3):TyN 112 T L (C0 (cT (.mk 6 N9 0 [t]))) e q a e3 q3 a3:=by
 have hr:=d1z t ht;obtain⟨c0,c1,c2,c3,hc⟩:=m8 t;obtain⟨d0,d1,d2,d3,hd⟩:=m8 (.mk 6 N9 0 [t]);rw[hc] at hw hr;rw[hd] at hr ⊢;refine so9 Tryz.func112 rfl ?_;intro _ _ _ _ _ _ _ _ _ _ _ _ _ _ _ _ _ _ _ _ _ _ _ _ _ _ _ _ _ _ _ _ _ _ _ _ _ _ _ _ _ vx;intros;rename_i hA;have h0:=hr;have p0:=h1;have p1:=h2;have p2:=h3;have p3:=h4;have p4:=h5;have p5:=h6;have p6:=hw;have p7:=hn;exact fin
theorem b9Z (h1:SkN T a7G false e q a e q a) (h2:SkN T a4h false e q a e q a) (h3:SkN T a3V false e q a e q a) (h4:SkN T a52 false e q a e q a) (h5:SkN T b3d false e q a e q a) (h6:SkN T b42 false e q a e q a) (hf:FaN T 5 e q a e1 q1 a1):TyN 112 T L (C0 (cT v8)) e q a e1 q1 a1:=by
 unfold TyN;rw[a7O];refine y7.nil4 ?_;refine so9 Tryz.func112 rfl ?_;intro _ _ _ _ _ _ _ _ _ _ _ _ _ _ _ _ _ _ _ _ _ _ _ _ _ _ _ _ _ _ _ _ _ _ _ _ _ _ _ _ _ vx;intros;rename_i hA;have p0:=h1;have p1:=h2;have p2:=h3;have p3:=h4;have p4:=h5;have p5:=h6;have p6:=hf;exact fin
end
end
section
section
variable {T:List (List D)} {L e q a e1 q1 a1 e2 q2 a2 e3 q3 a3:Int}
theorem b6A {t:Ty} (hL2:L<=200) (h1:TyN 112 T L (C0 (cT t)) 0 q a e1 q1 a1) (h2:SkN T gTo false e1 q1 a1 e1 q1 a1):TyN 103 T L (C0 (cT t)) 0 q a e1 q1 a1:=by
 obtain⟨c0,c1,c2,c3,hc⟩:=m8 t;rw[hc] at h1 ⊢;refine so9 Tryz.func103 rfl ?_;intro _ _ _ _ _ _ _ qi _ qk _ _ _ _ _ _ _ _ _ _ _ _ _ _ _ _ _ _ _ _ _ _ _ _ _ _ _ _ _ _ _ vx;intros;rename_i hA;obtain⟨ee1,ee2,e3,e4,e5,e6,e7,e8,e9⟩:=m6 hA;have g1:qk 0 0=true:=by rw[e9];rfl
 have g2:qi 200 L=false:=by rw[e7];exact d3P (by omega)
 have q0:=g1;have q1:=g2;have p0:=h1;have p1:=h2;exact fin
theorem c0a {t u:Ty} (ht:t.parts.length<=1048576) (hu:u.parts.length<=1048576) (hL1:0<=L) (hL2:L<=200) (h1:TyN 112 T L (C0 (cT t)) 0 q a e1 q1 a1) (h2:SkN T gTo true e1 q1 a1 e2 q2 a2) (h3:TyN 103 T (L+1) (C0 (cT u)) e2 q2 a2 e3 q3 a3):TyN 103 T L (C0 (cT (.mk 4 N9 0 [t,u]))) 0 q a e3 q3 a3:=by
 have hf:=d10 t u ht hu;obtain⟨c0,c1,c2,c3,hc⟩:=m8 t;obtain⟨b0,b1,b2,b3,hb⟩:=m8 u;obtain⟨d0,d1,d2,d3,hd⟩:=m8 (.mk 4 N9 0 [t,u]);rw[hc] at h1 hf;rw[hb] at h3 hf;rw[hd] at hf ⊢;obtain⟨L1,hL⟩:∃L1,L1=L+1:=⟨_,rfl⟩;rw[<-hL] at h3;have h3b:=y7.box h3 rfl;refine so9 Tryz.func103 rfl ?_;intro qa qb _ _ _ _ _ qi _ qk;intros;rename_i hA;obtain⟨ee1,ee2,e3,e4,e5,e6,e7,e8,e9⟩:=m6 hA;have g1:qk 0 0=true:=by rw[e9];rfl
 have g2:qi 200 L=false:=by rw[e7];exact d3P (by omega)
 have g3:qa .i64 (qb L 1)=L1:=by rw[ee1,ee2,IntWalk.i64_in _ (by omega)];exact hL.symm
 iterate 2 (try cbv;repeat ((first|with_reducible apply j6 hA|rw[g1]|rw[g2]|rw[g3]|refine j8 hA _ hf rfl ?_|refine l9 hA _ hf ?_|refine B8 hA [0,1] h1 ?_|refine B8 hA [0,1] h2 ?_|(refine b4l hA [0,1] h3b ⟨rfl,rfl,rfl,rfl,rfl,rfl,rfl⟩ ?_;rintro _ _ ⟨rfl,rfl⟩;refine⟨?_,?_⟩;exact a8j (λk hk=>by injection hk with hk;subst hk;rfl) (a9S _ _ _)));cbv))
 try simp (maxSteps:=4000000) only [nc] at *
 exact n7 hA [0,1] ⟨rfl,rfl,rfl,rfl,rfl,rfl,rfl,rfl⟩ ⟨rfl,rfl⟩
theorem b6B {s0:ByteArray} {k n0 p0:Int} (hk:k≠1) (hp:E8 14 [.ptr 0 0] [.box [.d (.sl 4 T),.d (.sc (.int .i64 a))]] (λres os=>res=[.ag [.d (.sc (.int .u8 k)),.d (.sc (.string s0)),.d (.sc (.int .i64 n0)),.d (.sc (.int .i64 p0))]]/\os=[.box [.d (.sl 4 T),.d (.sc (.int .i64 a))]])) (hf:FaN T 5 e q a e1 q1 a1) :
  TyN 133 T L [.d (.sc (.string N9)),.d (.sc (.int .u8 0)),.d (.sc (.string N9)),.d (.sc (.int .i64 0)),.em] e q a e1 q1 a1:=by
 refine so9 Tryz.func133 rfl ?_;intro _ _ _ _ _ _ _ _ _ qk _ _ _ _ _ _ _ _ _ _ _ _ _ _ _ _ _ _ _ _ _ _ _ _ _ _ _ _ _ _ _ vx;intros;rename_i hA;obtain⟨ee1,ee2,e3,e4,e5,e6,e7,e8,e9⟩:=m6 hA;have g1:qk k 1=false:=by rw[e9];exact d3P hk
 have q0:=g1;have r0:=hp;have p0:=hf;exact fin
theorem b6C {s0:ByteArray} {n0 p0:Int} {t:Ty} (hL1:0<=L) (hL2:L<=1048576) (hp:E8 14 [.ptr 0 0] [.box [.d (.sl 4 T),.d (.sc (.int .i64 a))]] (λres os=>res=[.ag [.d (.sc (.int .u8 1)),.d (.sc (.string s0)),.d (.sc (.int .i64 n0)),.d (.sc (.int .i64 p0))]]/\os=[.box [.d (.sl 4 T),.d (.sc (.int .i64 a))]]))
  (hq:y7 52 [.ptr 0 0] [.box [.d (.sl 4 T),.d (.sc (.int .i64 a))]] (λres os=>res=[.ag [.d (.sc (.int .u8 1)),.d (.sc (.string s0)),.d (.sc (.int .i64 n0)),.d (.sc (.int .i64 p0))]]/\os=[.box [.d (.sl 4 T),.d (.sc (.int .i64 a1))]]))
  (hn:WaN T a3d e q a1 e2 q2 a2) (hw:TyN 103 T (L+1) (C0 (cT t)) e2 q2 a2 e3 q3 a3) :
  TyN 133 T L (.d (.sc (.string s0))::C0 (cT t)) e q a e3 q3 a3:=by
 obtain⟨c0,c1,c2,c3,hc⟩:=m8 t;rw[hc] at hw ⊢;obtain⟨L1,hL⟩:∃L1,L1=L+1:=⟨_,rfl⟩;rw[<-hL] at hw;refine so9 Tryz.func133 rfl ?_;intro qa qb _ _ _ _ _ _ _ qk;intros;rename_i hA;obtain⟨ee1,ee2,e3,e4,e5,e6,e7,e8,e9⟩:=m6 hA;have g1:qk 1 1=true:=by rw[e9];rfl
 have g3:qa .i64 (qb L 1)=L1:=by rw[ee1,ee2,IntWalk.i64_in _ (by omega)];exact hL.symm
 iterate 2 (try cbv;repeat ((first|with_reducible apply j6 hA|rw[g1]|rw[g3]|refine rdx hA [1] hp ?_|refine B8 hA [1] hq ?_|refine B8 hA [0,1] hn ?_|refine B8 hA [0,1] hw ?_);cbv))
 try simp (maxSteps:=4000000) only [nc] at *
 exact n7 hA [0,1] ⟨rfl,rfl,rfl,rfl,rfl,rfl,rfl,rfl⟩ ⟨rfl,rfl⟩
end
end
def cQ (ts:List Tok) (p:PE):Int:=if p.2=0 then 0 else (r9 ts p.1).at_
theorem c3p (ts:List Tok) {p:PE} (h:p.2=0):cQ ts p=0:=d3I h
theorem d11 (ts:List Tok) {p:PE} (h:p.2≠0):cQ ts p=(r9 ts p.1).at_:=d3G h
abbrev TyS (f:Nat) (ts:List Tok) (L:Int) (x:List V) (p p':PE):Prop:=TyN f (P6 ts) L x p.2 (cQ ts p) (p.1:Int) p'.2 (cQ ts p') (p'.1:Int)
theorem c3q (ts:List Tok) (hl:ts.length<=1048576) (s:ByteArray) (p:PE) (hp:p.1<ts.length):SkN (P6 ts) s (B1 ts s p) p.2 (cQ ts p) (p.1:Int) (skP ts s p).2 (cQ ts (skP ts s p)) ((skP ts s p).1:Int):=by
 by_cases h0:p.2=0
 ·have h1:=c6c ts _ p.1 (W5 hp) hl s;unfold eyB at h1;have e1:B1 ts s p=Z5 (r9 ts p.1) s:=by unfold B1;rw[h0];rfl
  unfold skP;rw[e1,h0,c3p ts h0]
  by_cases hb:Z5 (r9 ts p.1) s=true
  ·rw[d3I hb] at h1 ⊢;exact h1
  ·rw[d3G hb] at h1 ⊢;rw[h0,c3p ts h0];exact h1
 ·have h1:=c2W (P6 ts) p.2 (cQ ts p) (p.1:Int) h0 s;unfold eyB at h1;have e1:B1 ts s p=false:=by unfold B1;rw[d3T h0];rfl
  unfold skP;rw[e1,d3G (by decide)];exact h1
theorem a1c {ts:List Tok} (hl:ts.length<=1048576) {s:ByteArray} {p:PE} (hp:p.1<ts.length) (h:B1 ts s p=true):SkN (P6 ts) s true p.2 (cQ ts p) (p.1:Int) 0 0 ((p.1+1:Nat):Int):=by
 have h1:=c3q ts hl s p hp;unfold skP at h1;rw[h,d3I rfl] at h1;exact h1
theorem a1Z {ts:List Tok} (hl:ts.length<=1048576) {s:ByteArray} {p:PE} (hp:p.1<ts.length) (h:¬B1 ts s p=true):SkN (P6 ts) s false p.2 (cQ ts p) (p.1:Int) p.2 (cQ ts p) (p.1:Int):=by
 have h1:=c3q ts hl s p hp;unfold skP at h1;rw[d3G h,show B1 ts s p=false from Bool.eq_false_iff.2 h] at h1;exact h1
theorem b05 (ts:List Tok) (hl:ts.length<=1048576) (s:ByteArray) (p:PE) (hp:p.1<ts.length):WaN (P6 ts) s p.2 (cQ ts p) (p.1:Int) (l6 ts s p).2 (cQ ts (l6 ts s p)) ((l6 ts s p).1:Int):=by
 by_cases h0:p.2=0
 ·have h1:=c6d ts _ p.1 (W5 hp) hl s;unfold l6;rw[d3G (λh=>h h0),h0,c3p ts h0]
  by_cases hb:Z5 (r9 ts p.1) s=true
  ·rw[d3I hb] at h1 ⊢;unfold eyB at h1;exact h1
  ·rw[d3G hb] at h1 ⊢;unfold eyB at h1;exact h1
 ·have h1:=c2X (P6 ts) p.2 (cQ ts p) (p.1:Int) h0 s;unfold eyB at h1;unfold l6;rw[d3I h0];exact h1
theorem c3r (ts:List Tok) (hl:ts.length<=1048576) (c:Int) (hc:c≠0) (p:PE) (hp:p.1<ts.length):FaN (P6 ts) c p.2 (cQ ts p) (p.1:Int) (F6 c p).2 (cQ ts (F6 c p)) ((F6 c p).1:Int):=by
 by_cases h0:p.2=0
 ·have h1:=b3y ts _ p.1 (W5 hp) hl c;unfold eyB at h1;unfold F6;rw[d3G (λh=>h h0),h0,c3p ts h0,d11 ts (p:=(p.1,c)) hc];exact h1
 ·have h1:=c2V (P6 ts) p.2 (cQ ts p) (p.1:Int) c h0;unfold eyB at h1;unfold F6;rw[d3I h0];exact h1
theorem d3d {I:Nat->Nat->Prop} {w:World} {g:Nat->Value} {us:List Value} {n a b c:V} {z:Nat} (h:o7 I w g us [.ag [n,a,b,c,.em]]):o7 I w g us [.ag [n,a,b,c,.d (.sl z [])]] :=
 h.reset (i:=0) λv hv=>by
  have h4:=h.2 0 v _ hv rfl;obtain⟨ks,rfl,h5⟩:=h4.unag;exact Z6 (h5.reset (i:=4) λv hv=>by rw[(h5.2 4 v _ hv rfl).unem];exact .d (.nil _ _ _))
theorem b8w {ts:List Tok} (hE:y5 ts) (hl:ts.length<=1048576) {rd:PE->Ty×PE} {L:Int} (hL1:0<=L) (hL2:L<=1048576) (hr:a7Q ts rd) (hw:∀q:PE,q.1<ts.length->TyS 103 ts (L+1) (C0 (cT (rd q).1)) q (rd q).2) (a:Nat) (hp:a<ts.length) :
  TyS 133 ts L (.d (.sc (.string (G6 rd ts (a,0)).1.1))::C0 (cT (G6 rd ts (a,0)).1.2)) (a,0) (G6 rd ts (a,0)).2:=by
 have hpk:=a4A ts _ a (W5 hp) hl;unfold rdB tkD at hpk;unfold G6
 by_cases hk:(r9 ts a).kind=1
 ·rw[d3G (λh=>h hk)];have h1:=hE _ hp (by rw[hk];decide);have hq:=b3b ts _ a (W5 hp) hl;unfold rdB tkD at hq;rw[hk] at hpk hq;have hn:=b05 ts hl a3d (a+1,0) h1;obtain⟨w1,w2,w3⟩:=l8 (s:=a3d) (p:=(a+1,0)) hE h1;have hwh:=hw _ w1;exact b6C hL1 hL2 hpk hq hn hwh
 ·rw[d3I hk];have hf:=c3r ts hl 5 (by decide) (a,0) hp;have h1:=b6B (L:=L) hk hpk hf;unfold TyS TyN;rw[a7O];exact y7.reread h1 λres os2 ⟨e1,e2⟩=>⟨_,⟨rfl,e2⟩,λI w g us hv=>d3d (e1 ▸ hv)⟩
theorem c9w {ts:List Tok} (hE:y5 ts) (hl:ts.length<=65537) {rd:PE->Ty×PE} {L:Int} (hL1:0<=L) (hL2:L<=1048576) (hr:a7Q ts rd) (hw:∀q:PE,q.1<ts.length->TyS 103 ts (L+1) (C0 (cT (rd q).1)) q (rd q).2)
  (hrow:∀a:Nat,a<ts.length->TyS 125 ts L (C0 (cT (a25 rd ts (a,0)).1)) (a,0) (a25 rd ts (a,0)).2) (p:PE) (hp:p.1<ts.length) :
  TyS 112 ts L (C0 (cT (T6 rd ts p).1)) p (T6 rd ts p).2:=by
 have hl2:ts.length<=1048576:=by omega
 unfold T6
 by_cases h1:B1 ts a7G p=true
 ·rw[d3I h1];exact c3l (a1c hl2 hp h1)
 rw[d3G h1];have n1:=a1Z hl2 hp h1
 by_cases h2:B1 ts a4h p=true
 ·rw[d3I h2];exact b9X n1 (a1c hl2 hp h2)
 rw[d3G h2];have n2:=a1Z hl2 hp h2
 by_cases h3:B1 ts a3V p=true
 ·rw[d3I h3];exact c3m n1 n2 (a1c hl2 hp h3)
 rw[d3G h3];have n3:=a1Z hl2 hp h3
 by_cases h4:B1 ts a52 p=true
 ·rw[d3I h4];have s2:=(B0 hE hp h4).2;exact b9Y hL1 hL2 n1 n2 n3 (a1c hl2 hp h4) (hw (p.1+1,0) s2) (b05 ts hl2 a8m _ (hr (p.1+1,0) s2).1.hi)
 rw[d3G h4];have n4:=a1Z hl2 hp h4
 have hbig:∀a:Nat,a<ts.length->(a25 rd ts (a,0)).1.parts.length<=1048576/\(a25 rd ts (a,0)).2.1<ts.length:=λa ha=>by
  obtain⟨f1,f2,f3,f4,f5⟩:=a6T hE hr (a,0) ha;exact⟨by omega,f2⟩
 by_cases h5:B1 ts b3d p=true
 ·rw[d3I h5];have s2:=(B0 hE hp h5).2;exact c3n (hbig _ s2).1 n1 n2 n3 n4 (a1c hl2 hp h5) (hrow (p.1+1) s2) (b05 ts hl2 b7W _ (hbig _ s2).2)
 rw[d3G h5];have n5:=a1Z hl2 hp h5
 by_cases h6:B1 ts b42 p=true
 ·rw[d3I h6];have s2:=(B0 hE hp h6).2;exact c3o (hbig _ s2).1 n1 n2 n3 n4 n5 (a1c hl2 hp h6) (hrow (p.1+1) s2) (b05 ts hl2 b7X _ (hbig _ s2).2)
 rw[d3G h6];exact b9Z n1 n2 n3 n4 n5 (a1Z hl2 hp h6) (c3r ts hl2 5 (by decide) p hp)
def b06 (T:List (List D)) (y:List D) (ef qf af:Int) (e q a:Int) (R:List (List D)):Prop :=
 (SkN T b3e false e q a ef qf af/\o8 102 [.one (.sl 5 R),.ag (lf0 8)] [.ag y]) \/
 (∃e1 q1 a1,SkN T b3e true e q a e1 q1 a1/\WaN T a3V e1 q1 a1 ef qf af/\o8 102 [.one (.sl 5 R),.ag (lf0 9)] [.ag y])
theorem c3s {T:List (List D)} {L e q a ef qf af:Int} {y0 y1 y2 y3:D} {s0:ByteArray} {k n0 p0:Int} (hk:k≠1) (hp:E8 14 [.ptr 0 0] [.box [.d (.sl 4 T),.d (.sc (.int .i64 a))]] (λres os=>res=[.ag [.d (.sc (.int .u8 k)),.d (.sc (.string s0)),.d (.sc (.int .i64 n0)),.d (.sc (.int .i64 p0))]]/\os=[.box [.d (.sl 4 T),.d (.sc (.int .i64 a))]]))
  (hend:b06 T [y0,y1,y2,y3] ef qf af e q a []):TyN 125 T L [.d y0,.d y1,.d y2,.d y3] e q a ef qf af:=by
 unfold b06 at hend;refine so9 Tryz.func125 rfl ?_;intro _ _ _ _ _ _ _ _ _ qk _ _ _ _ _ _ _ _ _ _ _ _ _ _ _ _ _ _ _ _ _ _ _ _ _ _ _ _ _ _ _ vx;intros;rename_i hA;obtain⟨ee1,ee2,e3,e4,e5,e6,e7,e8,e9⟩:=m6 hA;have g1:qk k 1=false:=by rw[e9];exact d3P hk
 cbv
 with_reducible apply j6 hA
 cbv;refine a3b hA 5 124 true rfl ?_;cbv
 rcases hend with⟨hb,hj⟩|⟨e1,q1,a1,hb,hn,hj⟩
 ·unfold lf0 at hj;have q0:=g1;have h0:=hj;have r0:=hp;have p0:=hb;exact fin
 ·unfold lf0 at hj;have q0:=g1;have h0:=hj;have r0:=hp;have p0:=hb;have p1:=hn;exact fin
theorem c3t {T:List (List D)} {L e q a ef qf af:Int} {y0 y1 y2 y3:D} {s0:ByteArray} {n0 p0:Int} (hp:E8 14 [.ptr 0 0] [.box [.d (.sl 4 T),.d (.sc (.int .i64 a))]] (λres os=>res=[.ag [.d (.sc (.int .u8 1)),.d (.sc (.string s0)),.d (.sc (.int .i64 n0)),.d (.sc (.int .i64 p0))]]/\os=[.box [.d (.sl 4 T),.d (.sc (.int .i64 a))]]))
  {f0 f1 f2 f3 f4:D} {es qs as0:Int} {m0:Nat} (inv:Int->Int->Int->List (List D)->Nat->Prop)
  (hf:TyN 133 T L [.d f0,.d f1,.d f2,.d f3,.d f4] e q a es qs as0) (h0:inv es qs as0 [[f0,f1,f2,f3,f4]] m0)
  (hst:∀(e q a:Int) (R:List (List D)) (m:Nat),inv e q a R m->R.length<1048576/\((∃(e1 q1 a1:Int) (c0 c1 c2 c3 c4:D) (e2 q2 a2:Int) (m2:Nat),SkN T a2s true e q a e1 q1 a1/\TyN 133 T L [.d c0,.d c1,.d c2,.d c3,.d c4] e1 q1 a1 e2 q2 a2/\inv e2 q2 a2 (R++[[c0,c1,c2,c3,c4]]) m2/\m2<m)
   \/ (SkN T a2s false e q a e q a/\b06 T [y0,y1,y2,y3] ef qf af e q a R))):TyN 125 T L [.d y0,.d y1,.d y2,.d y3] e q a ef qf af:=by
 refine so9 Tryz.func125 rfl ?_;intro _ _ _ _ _ _ _ _ _ qk _ _ _ _ _ _ _ _ _ _ _ _ _ _ _ ve _ _ _ _ _ _ _ _ _ _ _ _ _ _ _ vx;intros;rename_i hA;obtain⟨ee1,ee2,e3,e4,e5,e6,e7,e8,e9⟩:=m6 hA;obtain⟨r1,r2,r3,r4⟩:=B3 hA;have g1:qk 1 1=true:=by rw[e9];rfl
 have g2:ve [] [[f0,f1,f2,f3,f4]]=[[f0,f1,f2,f3,f4]]:=by rw[r4];rfl
 cbv
 with_reducible apply j6 hA
 cbv;refine a3b hA 5 124 true rfl ?_;cbv
 iterate 2 (try cbv;repeat ((first|with_reducible apply j6 hA|rw[g1]|rw[g2]|refine rdx hA [1] hp ?_|refine B8 hA [0,1] hf ?_|refine E2 hA true ?_|refine F3 hA (by simp) ?_);cbv))
 try simp (maxSteps:=4000000) only [nc] at *
 refine n9 hA (γ:=(Int×Int×Int)×List (List D)×Nat) (λx=>[(5,.own 3),(19,.jk)]) (λx=>[(0,.box [.ptr 1 0,.d (.sc (.int .u8 x.1.1)),.d (.sc (.int .i64 x.1.2.1))]),(1,.box [.d (.sl 4 T),.d (.sc (.int .i64 x.1.2.2))]),(3,.row true 124 x.2.1)]) (λx=>inv x.1.1 x.1.2.1 x.1.2.2 x.2.1 x.2.2) (λx=>x.2.2) ((es,qs,as0),[[f0,f1,f2,f3,f4]],m0) ?_ ?_ ?_
 ·exact h0
 ·cbv
 ·intro x hinv;obtain⟨⟨e,q,a⟩,R,m⟩:=x;obtain⟨hlen,hs⟩:=hst e q a R m hinv
  rcases hs with⟨e1,q1,a1,c0,c1,c2,c3,c4,e2,q2,a2,m2,hc,hf2,hi2,hm2⟩|⟨hc,hend⟩
  ·have g3:ve R [[c0,c1,c2,c3,c4]]=R++[[c0,c1,c2,c3,c4]]:=by rw[r4]
   obtain⟨R2,hR2⟩:∃R2,R2=R++[[c0,c1,c2,c3,c4]]:=⟨_,rfl⟩;rw[<-hR2] at g3 hi2
   iterate 2 (try cbv;repeat ((first|with_reducible apply j6 hA|rw[g3]|refine B8 hA [0,1] hc ?_|refine B8 hA [0,1] hf2 ?_|refine E2 hA true ?_|(refine F3 hA (by simp only[d3O,d3Y];omega) ?_));cbv))
   try simp (maxSteps:=4000000) only [nc] at *
   refine⟨((e2,q2,a2),R2,m2),hi2,hm2,?_⟩;cbv
  ·unfold b06 at hend
   rcases hend with⟨hb,hj⟩|⟨e1,q1,a1,hb,hn,hj⟩
   ·unfold lf0 at hj;have h0:=hj;have p0:=hc;have p1:=hb;exact fin
   ·unfold lf0 at hj;have h0:=hj;have p0:=hc;have p1:=hb;have p2:=hn;exact fin
theorem b2m (l:List (ByteArray×Ty)) (op:Int) (hn:l.length<=1048576) (hf:∀f∈l,f.2.parts.length<=1048576):o8 102 [.one (.sl 5 (rF l)),.ag (lf0 op)] [.ag (cT (a0E l (lfT op)))]:=by
 have h:=c9v l (lfT op) hn (by rw[a26];omega) hf;rw[show cT (lfT op)=[.sc (.int .u8 op),.sc (.string N9),.sc (.int .i64 0),.sl 4 []] by rw[cT,rT]] at h;exact h.like ⟨.same _,a6R op,trivial⟩
theorem c3u {ts:List Tok} (hE:y5 ts) (hl:ts.length<=65537) (l:List (ByteArray×Ty)) (q:PE) (hq:q.1<ts.length) (hn:B9 l<=1048576) :
  b06 (P6 ts) (cT (tlW ts l q).1) (tlW ts l q).2.2 (cQ ts (tlW ts l q).2) ((tlW ts l q).2.1:Int) q.2 (cQ ts q) (q.1:Int) (rF l):=by
 have hl2:ts.length<=1048576:=by omega
 have hfl:=b8v l;have hlen:l.length<=1048576:=by omega
 have hfs:∀f∈l,f.2.parts.length<=1048576:=λf hf=>by have:=hfl.2 f hf;omega
 unfold tlW
 by_cases hb:B1 ts b3e q=true
 ·rw[d3I hb];have s2:=(B0 hE hq hb).2;exact .inr ⟨_,_,_,a1c hl2 hq hb,b05 ts hl2 a3V (q.1+1,0) s2,b2m l 9 hlen hfs⟩
 ·rw[d3G hb];exact .inl ⟨a1Z hl2 hq hb,b2m l 8 hlen hfs⟩
theorem d12 {ts:List Tok} (hE:y5 ts) (hl:ts.length<=65537) {rd:PE->Ty×PE} {L:Int} (hL1:0<=L) (hL2:L<=1048576) (hr:a7Q ts rd) (hw:∀q:PE,q.1<ts.length->TyS 103 ts (L+1) (C0 (cT (rd q).1)) q (rd q).2) (a:Nat) (hp:a<ts.length) :
  TyS 125 ts L (C0 (cT (a25 rd ts (a,0)).1)) (a,0) (a25 rd ts (a,0)).2:=by
 have hl2:ts.length<=1048576:=by omega
 have hpk:=a4A ts _ a (W5 hp) hl2;unfold rdB tkD at hpk;obtain⟨y0,y1,y2,y3,hy⟩:=m8 (a25 rd ts (a,0)).1;have hh:=a6S hE hr (a,0) hp;have hend:=c3u hE hl (a05 rd ts (a,0)).1 (a05 rd ts (a,0)).2 hh.hi (by have:=hh.sz;have:=hh.hi;omega)
 by_cases hk:(r9 ts a).kind=1
 ·rw[hk] at hpk;have hff:=Y7 hE hr (a,0) hp;have hf:=b8w hE hl2 hL1 hL2 hr hw a hp;have hhd:a05 rd ts (a,0)=J8 rd ts ts.length (G6 rd ts (a,0)).2 [(G6 rd ts (a,0)).1]:=by unfold a05;rw[d3I hk]
  obtain⟨f1,f2,f3,f4,hc⟩:=m8 (G6 rd ts (a,0)).1.2;rw[hc] at hf;generalize hF:G6 rd ts (a,0)=F at *;have e1:B9 [F.1]=1+F.1.2.parts.length:=rfl;have hfl:FitL ts (a,0) ([F.1],F.2):=⟨hff.lo,hff.hi,by have:=hff.sw hk;show B9 [F.1]+a<=F.2.1+1;rw[e1];simp only at this;omega,λh=>⟨rfl,by have:=(hff.ok h).2;show B9 [F.1]+a<=F.2.1;rw[e1];simp only at this;omega⟩,λx hx=>by cases d4e.1 hx;exact hff.sp⟩;generalize hH:a05 rd ts (a,0)=H at *;unfold a25 at hy ⊢;rw[hH] at hy ⊢;rw[hy] at hend ⊢;refine c3t (m0:=ts.length) hpk (λe q z R m=>∃(p:PE) (l:List (ByteArray×Ty)),e=p.2/\q=cQ ts p/\z=(p.1:Int)/\R=rF l/\FitL ts (a,0) (l,p)/\ts.length - p.1<=m/\J8 rd ts m p l=H) hf ⟨F.2,[F.1],rfl,rfl,rfl,by unfold rF;rw[d4a,hc];rfl,hfl,Nat.sub_le ..,hhd.symm⟩ ?_
  rintro e q z R m ⟨p,l,rfl,rfl,rfl,rfl,hfit,hm,hfin⟩
  have hpi:=hfit.hi;have hsz:=hfit.sz;simp only at hpi hsz;have hll:=(b8v l).1;refine⟨by rw[a2u];omega,?_⟩
  match m,hm,hfin with
  | 0,hm,hfin=>omega
  | m+1,hm,hfin =>
   rw[J8] at hfin
   by_cases hb:B1 ts a2s p=true
   ·rw[d3I hb] at hfin;obtain⟨s1,s2⟩:=B0 hE hpi hb;have hf2:=b8w hE hl2 hL1 hL2 hr hw (p.1+1) s2;have hfg:=a6d hE hr (a,0) 1 p l hfit;have hff2:=Y7 hE hr (p.1+1,0) s2;rw[J8,d3I hb,J8] at hfg;obtain⟨c1,c2,c3,c4,hc2⟩:=m8 (G6 rd ts (p.1+1,0)).1.2;rw[hc2] at hf2;generalize G6 rd ts (p.1+1,0)=G at *;exact .inl ⟨_,_,_,_,_,_,_,_,_,_,_,m,a1c hl2 hpi hb,hf2,⟨G.2,l++[G.1],rfl,rfl,rfl,by rw[b8l,hc2],hfg,by have:=hff2.lo;simp only at this;omega,hfin⟩,Nat.lt_succ_self m⟩
   ·rw[d3G hb] at hfin;subst hfin;exact .inr ⟨a1Z hl2 hpi hb,hend⟩
 ·have hhd:a05 rd ts (a,0)=([],(a,0)):=by unfold a05;rw[d3G hk]
  unfold a25 at hy ⊢;rw[hhd] at hend hy ⊢;rw[hy] at hend ⊢;exact c3s hk hpk hend
def a27 (n:Nat) (L:Int):Prop:=(n=0/\200<L)\/(1<=n/\n<=201/\L=201 - (n:Int))
theorem b8x {ts:List Tok} (hE:y5 ts) (hl:ts.length<=65537):∀(n:Nat) (L:Int),a27 n L->∀p:PE,p.1<ts.length->TyS 103 ts L (C0 (cT (A8 ts n p).1)) p (A8 ts n p).2
 | n,L,hv,p,hp=>by
  have hl2:ts.length<=1048576:=by omega
  by_cases h0:p.2=0
  ·rcases hv with⟨rfl,hL⟩|⟨h1,h2,hL⟩
   ·have h:=b68 ts _ p.1 (W5 hp) hl2 L hL;unfold eyB at h;rw[A8];unfold F6;rw[d3G (λh=>h h0)];unfold TyS;rw[h0,c3p ts h0];exact h
   ·obtain⟨n,rfl⟩:∃k,n=k+1:=⟨n - 1,by omega⟩
    have hv2:a27 n (L+1):=by
     unfold a27
     by_cases hn:n=0
     ·exact .inl ⟨hn,by omega⟩
     ·exact .inr ⟨by omega,by omega,by omega⟩
    have ih:=b8x hE hl n (L+1) hv2;have hr:=T7 hE n;have ha:=c9w hE hl (by omega) (by omega) hr ih (d12 hE hl (by omega) (by omega) hr ih) p hp;have hfa:=a38 hE hr p hp;rw[A8,d3G (λh=>h h0)];unfold TyS at ha ⊢;rw[h0] at ha ⊢
    by_cases hb:B1 ts gTo (T6 (A8 ts n) ts p).2=true
    ·rw[d3I hb];have s2:=(B0 hE hfa.hi hb).2;have hfu:=(hr ((T6 (A8 ts n) ts p).2.1+1,0) s2).1;exact c0a (by have:=hfa.sz;have:=hfa.hi;omega) (by have:=hfu.sz;have:=hfu.hi;omega) (by omega) (by omega) ha (a1c hl2 hfa.hi hb) (ih _ s2)
    ·rw[d3G hb];exact b6A (by omega) ha (a1Z hl2 hfa.hi hb)
  ·have h:=b9S (P6 ts) p.2 (cQ ts p) (p.1:Int) L h0;unfold eyB at h
   have e:A8 ts n p=(v8,p):=by
    cases n with
    | zero=>rw[A8];unfold F6;rw[d3I h0]
    | succ n=>rw[A8,d3I h0]
   rw[e];exact h
def NoV (t:Ty):Prop:=∀x∈t.parts,x.op≠7/\x.op≠10
def Rt (t:Ty) (s:Int):Prop:=B6 A3 t s=true/\NoV t
theorem c6q:N9.toList=[]:=by rw[ByteArray.toList_eq]
theorem NoV.mk {op:Int} {nm:ByteArray} {n:Int} {ks:List Ty} (h:op≠7/\op≠10) (hk:∀k∈ks,NoV k):NoV (.mk op nm n ks):=λx hx=>by
 rw[B5] at hx
 rcases d3R.1 hx with rfl|hx
 ·exact h
 ·obtain⟨k,hkm,hxk⟩:=d40.1 hx;exact hk k hkm x hxk
theorem c3v (op:Int) (h:op≠11):c3B A3 op N9=true:=by unfold c3B;rw[d3G h];exact d3S c6q
theorem a6U (op s:Int) (h:op=1/\s=116\/op=2/\s=116\/op=3/\s=116\/op=8/\s=114\/op=9/\s=114):Rt (lfT op) s:=by
 refine⟨?_,NoV.mk (by omega) λk hk=>by cases hk⟩;have hk:I9 op=some []:=by unfold I9;rw[d3I (by omega)]
 rw[a0F hk,c3v op (by omega)]
 rcases h with⟨rfl,rfl⟩|⟨rfl,rfl⟩|⟨rfl,rfl⟩|⟨rfl,rfl⟩|⟨rfl,rfl⟩ <;> rfl
theorem c9x {t u:Ty} (ht:Rt t 116) (hu:Rt u 116):Rt (.mk 4 N9 0 [t,u]) 116:=by
 refine⟨?_,NoV.mk (by decide) λk hk=>by
  rcases d3R.1 hk with rfl|hk
  ·exact ht.2
  ·cases d4e.1 hk;exact hu.2⟩
 rw[a0F (k:=[116,116]) rfl,c3v 4 (by decide),C5,C5,ht.1,hu.1];rfl
theorem c3w {t:Ty} (op:Int) (h:op=5\/op=6) (ht:Rt t 114):Rt (.mk op N9 0 [t]) 116:=by
 refine⟨?_,NoV.mk (by omega) λk hk=>by cases d4e.1 hk;exact ht.2⟩;have hk:I9 op=some [114]:=by rcases h with rfl|rfl <;> rfl
 rw[a0F hk,c3v op (by omega),C5,ht.1]
 rcases h with rfl|rfl <;> rfl
theorem b30 {tl:Ty} (htl:Rt tl 114):∀ {l:List (ByteArray×Ty)},(∀f∈l,A3 f.1=true/\Rt f.2 116)->Rt (a0E l tl) 114
 | [],_=>htl
 | f::l,h=>by
  have h1:=h f (d3L ..);have h2:=b30 htl (l:=l) λg hg=>h g (d3M _ hg)
  rw[a2v]
  refine⟨?_,NoV.mk (by decide) λk hk=>by
   rcases d3R.1 hk with rfl|hk
   ·exact h1.2.2
   ·cases d4e.1 hk;exact h2.2⟩
  rw[a0F (k:=[116,114]) rfl,C5,C5,h1.2.1,h2.1];unfold c3B;rw[d3I rfl,h1.1];rfl
theorem c3x {t:Ty} (h:NoV t):a2L t=true:=by
 unfold a2L;rw[d4f];intro x hx;rw[d4f];intro y hy;unfold a2t;rw[d3T (h x hx).1];rfl
theorem Rt.right {t:Ty} {s:Int} (h:Rt t s):G2 t s=true:=by unfold G2;rw[h.1,c3x h.2];rfl
theorem Rt.either {t:Ty} (h:Rt t 116):N1 t=true:=by unfold N1;rw[h.right];rfl
def RtR (ts:List Tok) (rd:PE->Ty×PE):Prop:=∀p:PE,p.1<ts.length->(rd p).2.2=0->Rt (rd p).1 116
theorem b6D {ts:List Tok} {s:ByteArray} {p:PE} (h:(l6 ts s p).2=0):p.2=0:=by
 unfold l6 at h
 by_cases h0:p.2≠0
 ·rw[d3I h0] at h;exact h
 ·exact d4Z.1 h0
theorem b5e {ts:List Tok} {rd:PE->Ty×PE} (hE:y5 ts) (hN:a0c ts) (hr:RtR ts rd) (p:PE) (hp:p.1<ts.length) (h:(G6 rd ts p).2.2=0):A3 (G6 rd ts p).1.1=true/\Rt (G6 rd ts p).1.2 116:=by
 unfold G6 at h ⊢
 by_cases hk:(r9 ts p.1).kind≠1
 ·rw[d3I hk] at h;exact absurd h (C8 5 (by decide) p).2
 ·rw[d3G hk] at h ⊢;replace hk:=d4Z.1 hk;exact⟨hN _ hp hk,hr _ (l8 hE (hE _ hp (by rw[hk];decide))).1 h⟩
theorem b2n {ts:List Tok} {rd:PE->Ty×PE} (hE:y5 ts) (hN:a0c ts) (hf:a7Q ts rd) (hr:RtR ts rd):∀(k:Nat) (p:PE) (l:List (ByteArray×Ty)),p.1<ts.length->(p.2=0->∀f∈l,A3 f.1=true/\Rt f.2 116)->(J8 rd ts k p l).2.2=0->∀f∈(J8 rd ts k p l).1,A3 f.1=true/\Rt f.2 116
 | 0,p,l,_,h,h0=>h h0
 | k+1,p,l,hp,h,h0=>by
  rw[J8] at h0 ⊢
  by_cases hs:B1 ts a2s p=true
  ·rw[d3I hs] at h0 ⊢;obtain⟨s1,s2⟩:=B0 hE hp hs;refine b2n hE hN hf hr k _ _ (Y7 hE hf (p.1+1,0) s2).hi (λh1 f hm=>?_) h0
   rcases d4s.1 hm with hm|hm
   ·exact h s1 f hm
   ·cases d4e.1 hm;exact b5e hE hN hr (p.1+1,0) s2 h1
  ·rw[d3G hs] at h0 ⊢;exact h h0
theorem b8y {ts:List Tok} {rd:PE->Ty×PE} (hE:y5 ts) (hN:a0c ts) (hf:a7Q ts rd) (hr:RtR ts rd) (p:PE) (hp:p.1<ts.length) (h:(a25 rd ts p).2.2=0):Rt (a25 rd ts p).1 114:=by
 have hh:(a05 rd ts p).2.2=0->∀f∈(a05 rd ts p).1,A3 f.1=true/\Rt f.2 116:=by
  unfold a05
  by_cases hk:(r9 ts p.1).kind=1
  ·rw[d3I hk];intro h0;exact b2n hE hN hf hr _ _ _ (Y7 hE hf p hp).hi (λh1 f hm=>by cases d4e.1 hm;exact b5e hE hN hr p hp h1) h0
  ·rw[d3G hk];intro _ f hm;cases hm
 unfold a25 tlW at h ⊢
 by_cases hs:B1 ts b3e (a05 rd ts p).2=true
 ·rw[d3I hs] at h ⊢;exact b30 (a6U 9 114 (by omega)) (hh (B0 hE (a6S hE hf p hp).hi hs).1)
 ·rw[d3G hs] at h ⊢;exact b30 (a6U 8 114 (by omega)) (hh h)
theorem b8z {ts:List Tok} {rd:PE->Ty×PE} (hE:y5 ts) (hN:a0c ts) (hf:a7Q ts rd) (hr:RtR ts rd) (p:PE) (hp:p.1<ts.length) (h:(T6 rd ts p).2.2=0):Rt (T6 rd ts p).1 116:=by
 unfold T6 at h ⊢
 by_cases h1:B1 ts a7G p=true
 ·rw[d3I h1];exact a6U 1 116 (by omega)
 rw[d3G h1] at h ⊢
 by_cases h2:B1 ts a4h p=true
 ·rw[d3I h2];exact a6U 2 116 (by omega)
 rw[d3G h2] at h ⊢
 by_cases h3:B1 ts a3V p=true
 ·rw[d3I h3];exact a6U 3 116 (by omega)
 rw[d3G h3] at h ⊢
 by_cases h4:B1 ts a52 p=true
 ·rw[d3I h4] at h ⊢;exact hr (p.1+1,0) (B0 hE hp h4).2 (b6D h)
 rw[d3G h4] at h ⊢
 by_cases h5:B1 ts b3d p=true
 ·rw[d3I h5] at h ⊢;exact c3w 5 (by omega) (b8y hE hN hf hr (p.1+1,0) (B0 hE hp h5).2 (b6D h))
 rw[d3G h5] at h ⊢
 by_cases h6:B1 ts b42 p=true
 ·rw[d3I h6] at h ⊢;exact c3w 6 (by omega) (b8y hE hN hf hr (p.1+1,0) (B0 hE hp h6).2 (b6D h))
 rw[d3G h6] at h;exact absurd h (C8 5 (by decide) p).2
theorem b07 {ts:List Tok} (hE:y5 ts) (hN:a0c ts):∀n:Nat,RtR ts (A8 ts n)
 | 0,p,hp,h=>by
  rw[A8] at h;exact absurd h (C8 6 (by decide) p).2
 | n+1,p,hp,h=>by
  have ih:=b07 hE hN n;have hf:=T7 hE n;rw[A8] at h ⊢
  by_cases h0:p.2≠0
  ·rw[d3I h0] at h;exact absurd h h0
  rw[d3G h0] at h ⊢
  by_cases hs:B1 ts gTo (T6 (A8 ts n) ts p).2=true
  ·rw[d3I hs] at h ⊢;have hfa:=a38 hE hf p hp;obtain⟨s1,s2⟩:=B0 hE hfa.hi hs;exact c9x (b8z hE hN hf ih p hp s1) (ih ((T6 (A8 ts n) ts p).2.1+1,0) s2 h)
  ·rw[d3G hs] at h ⊢;exact b8z hE hN hf ih p hp h
abbrev RdN (T:List (List D)) (L:Int) (x:List V) (a p c a1:Int):Prop:=y7 99 [.ptr 0 0,vi .i64 L] [.box [.d (.sl 4 T),.d (.sc (.int .i64 a))]] (λres os=>res=[.ag x,.d (.sc (.int .i64 p)),.d (.sc (.int .u8 c))]/\os=[.box [.d (.sl 4 T),.d (.sc (.int .i64 a1))]])
theorem d14 {I:Nat->Nat->Prop} {w:World} {g:Nat->Value} {us:List Value} {a b c x y:V} {z:Nat} (h:o7 I w g us [.ag [a,b,c,.em],x,y]):o7 I w g us [.ag [a,b,c,.d (.sl z [])],x,y] :=
 h.reset (i:=0) λv hv=>by
  have h4:=h.2 0 v _ hv rfl;obtain⟨ks,rfl,h5⟩:=h4.unag;exact Z6 (h5.reset (i:=3) λv hv=>by rw[(h5.2 3 v _ hv rfl).unem];exact .d (.nil _ _ _))
theorem c3y {T:List (List D)} {L a e q a1:Int} {t:Ty} (he:e≠0) (h1:TyN 103 T L (C0 (cT t)) 0 0 a e q a1):RdN T L (C0 (cT v8)) a q e a1:=by
 have h0:RdN T L [.d (.sc (.int .u8 0)),.d (.sc (.string N9)),.d (.sc (.int .i64 0)),.em] a q e a1:=by
  obtain⟨c0,c1,c2,c3,hc⟩:=m8 t;rw[hc] at h1;refine so9 Tryz.func99 rfl ?_;intro _ _ _ _ _ _ _ _ _ qk;intros;rename_i hA;obtain⟨ee1,ee2,e3,e4,e5,e6,e7,e8,e9⟩:=m6 hA;have g1:qk e 0=false:=by rw[e9];exact d3P he
  iterate 2 (try cbv;repeat ((first|with_reducible apply j6 hA|rw[g1]|refine B8 hA [2,0] h1 ?_);cbv))
  try simp (maxSteps:=4000000) only [nc] at *
  exact n7 hA [0] ⟨rfl,rfl,rfl,rfl,rfl,rfl,rfl,rfl⟩ ⟨rfl,rfl⟩
 unfold RdN;rw[a7O];exact y7.reread h0 λres os2 ⟨e1,e2⟩=>⟨_,⟨rfl,e2⟩,λI w g us hv=>d14 (e1 ▸ hv)⟩
theorem c6r {T:List (List D)} {L a q a1:Int} {t:Ty} (ht:Sm t) (he:N1 t=true) (h1:TyN 103 T L (C0 (cT t)) 0 0 a 0 q a1):RdN T L (C0 (cT (y9 t))) a 0 0 a1:=by
 have hcn:=c6b t ht;rw[d3I he] at hcn;obtain⟨c0,c1,c2,c3,hc⟩:=m8 t;obtain⟨d0,d1,d2,d3,hd⟩:=m8 (y9 t);rw[hc] at h1 hcn;rw[hd] at hcn ⊢;refine so9 Tryz.func99 rfl ?_;intro _ _ _ _ _ _ _ _ _ qk;intros;rename_i hA;obtain⟨ee1,ee2,e3,e4,e5,e6,e7,e8,e9⟩:=m6 hA;have g1:qk 0 0=true:=by rw[e9];rfl
 iterate 2 (try cbv;repeat ((first|with_reducible apply j6 hA|rw[g1]|refine j8 hA _ hcn rfl ?_|refine l9 hA _ hcn ?_|refine B8 hA [2,0] h1 ?_);cbv))
 try simp (maxSteps:=4000000) only [nc] at *
 exact n7 hA [0] ⟨rfl,rfl,rfl,rfl,rfl,rfl,rfl,rfl⟩ ⟨rfl,rfl⟩
def T8 (ts:List Tok) (n a:Nat):Ty×Int×Int×Nat :=
 if (A8 ts n (a,0)).2.2≠0 then (v8,(r9 ts (A8 ts n (a,0)).2.1).at_,(A8 ts n (a,0)).2.2,(A8 ts n (a,0)).2.1)
 else (y9 (A8 ts n (a,0)).1,0,0,(A8 ts n (a,0)).2.1)
theorem c9z {ts:List Tok} (hE:y5 ts) (hN:a0c ts) (hl:ts.length<=65537) (n:Nat) (L:Int) (hv:a27 n L) (a:Nat) (ha:a<ts.length) :
  RdN (P6 ts) L (C0 (cT (T8 ts n a).1)) (a:Int) (T8 ts n a).2.1 (T8 ts n a).2.2.1 ((T8 ts n a).2.2.2:Int):=by
 have h:=b8x hE hl n L hv (a,0) ha;have hf:=(T7 hE n (a,0) ha).1;have hrt:=b07 hE hN n (a,0) ha;unfold T8;generalize A8 ts n (a,0)=r at *
 by_cases h0:r.2.2≠0
 ·rw[d3I h0];have h2:=c3y h0 h;rw[d11 ts h0] at h2;exact h2
 ·rw[d3G h0];replace h0:=d4Z.1 h0;unfold TyS at h;rw[h0] at h;exact c6r (c7E (hrt h0).1 (by have:=hf.sz;have:=hf.hi;omega)) (hrt h0).either h
section
section
variable {T:List (List D)} {L:Int}
theorem c90 {s:ST} (h0:F4 13 [] T s [vb false] s):F4 90 [vi .i64 L] T s [.ag (C0 (cT v8))] s:=by
 rw[a7O];refine y7.nils (cs:=[vi .u8 0,vs ⟨#[]⟩,vi .i64 0,.em]) ?_ ⟨.inl rfl,.inl rfl,.inl rfl,.inr ⟨rfl,_,rfl⟩,trivial⟩;obtain⟨_,_,_⟩:=s;refine so9 Tryz.func90 rfl ?_;intro _ _ _ _ _ _ _ _ _ _ _ _ _ _ _ _ _ _ _ _ _ _ _ _ _ _ _ _ _ _ _ _ _ _ _ _ _ _ _ _ _ vx;intros;rename_i hA;have p0:=h0;exact fin
theorem c91 {e q a p c a1:Int} {y:Nat->D} (hc:c≠0) (h0:F4 13 [] T (e,q,a) [vb true] (e,q,a)) (h1:RdN T L (C0 (c4 y)) a p c a1):F4 90 [vi .i64 L] T (e,q,a) [.ag (C0 (c4 y))] (c,p,a1):=by
 refine so9 Tryz.func90 rfl ?_;intro _ _ _ _ _ _ _ _ _ qk;intros;rename_i hA;obtain⟨e1,e2,e3,e4,e5,e6,e7,e8,e9⟩:=m6 hA;have q1:qk c 0=false:=by rw[e9];exact d3P hc
 iterate 2 (try cbv;repeat ((first|with_reducible apply j6 hA|rw[q1]|refine B8 hA [0,1] h0 ?_|refine B8 hA [1] h1 ?_);cbv))
 try simp (maxSteps:=4000000) only [nc] at *
 exact n7 hA [0,1] ⟨rfl,rfl,rfl,rfl,rfl,rfl,rfl,rfl⟩ ⟨rfl,rfl⟩
theorem d15 {q a p a1:Int} {y:Nat->D} (h0:F4 13 [] T (0,q,a) [vb true] (0,q,a)) (h1:RdN T L (C0 (c4 y)) a p 0 a1):F4 90 [vi .i64 L] T (0,q,a) [.ag (C0 (c4 y))] (0,q,a1):=by
 refine so9 Tryz.func90 rfl ?_;intro _ _ _ _ _ _ _ _ _ qk;intros;rename_i hA;obtain⟨e1,e2,e3,e4,e5,e6,e7,e8,e9⟩:=m6 hA;have q1:qk 0 0=true:=by rw[e9];rfl
 iterate 2 (try cbv;repeat ((first|with_reducible apply j6 hA|rw[q1]|refine B8 hA [0,1] h0 ?_|refine B8 hA [1] h1 ?_);cbv))
 try simp (maxSteps:=4000000) only [nc] at *
 exact n7 hA [0,1] ⟨rfl,rfl,rfl,rfl,rfl,rfl,rfl,rfl⟩ ⟨rfl,rfl⟩
end
def H3 (ts:List Tok) (n:Nat) (p:PE):Ty×PE:=if p.2=0 then ((T8 ts n p.1).1,(T8 ts n p.1).2.2.2,(T8 ts n p.1).2.2.1) else (v8,p)
theorem c3z (ts:List Tok) (n a:Nat):stP ts ((T8 ts n a).2.2.2,(T8 ts n a).2.2.1)=((T8 ts n a).2.2.1,(T8 ts n a).2.1,((T8 ts n a).2.2.2:Int)):=by
 unfold T8
 split
 ·rename_i h;exact b0i ts _ _ h
 ·rfl
theorem c30 {ts:List Tok} (hE:y5 ts) (hN:a0c ts) (hl:ts.length<=65537) (n:Nat) (L:Int) (hv:a27 n L) {p:PE} (hp:p.1<ts.length) :
  N2 90 [vi .i64 L] ts p [.ag (C0 (cT (H3 ts n p).1))] (H3 ts n p).2:=by
 have hok:=okP (by omega:ts.length<=1048576) hp;have hr:=c9z hE hN hl n L hv p.1 hp;have hst:=c3z ts n p.1;unfold H3;obtain⟨a,e⟩:=p
 by_cases h:e=0
 ·subst h;rw[d3I rfl];unfold N2 at hok ⊢;rw[c8P] at hok ⊢;simp only at hr hst ⊢;rw[hst];generalize T8 ts n a=r at *;obtain⟨t,q,c,a1⟩:=r;obtain⟨y,hy⟩:=b49 t;simp only at hr hst ⊢;rw[hy] at hr ⊢
  by_cases hc:c=0
  ·subst hc;have hq:q=0:=(congrArg (λs:ST=>s.2.1) hst).symm.trans rfl;subst hq;exact d15 hok hr
  ·exact c91 hc hok hr
 ·rw[d3G h];unfold N2 at hok ⊢;rw[d3T (show ((a,e):PE).2≠0 from h)] at hok;exact c90 hok
end
theorem y7.coer {f:Nat} {vs:List V} {os os1 ex:List O} {r:List V} (h:y7 f vs os (λres os2=>res=r/\os2=os1++ex)) (hn:os.length<=os1.length) (hl:b0Z os1.length (a51 (os1++ex) r)=true) (ho:a3q os1.length os1=true):y7 f vs os (λres os2=>res=a51 (os1++ex) r/\os2=os1):=by
 refine⟨h.1,λI w g args hr=>(h.2 I w g args hr).mono λe w' hx=>?_⟩;obtain⟨us,res,os2,I',g',e1,⟨rfl,rfl⟩,e3⟩:=hx;have h5:RelI I (Xof g os) ⟨w,g,os.length,[]⟩ I' g' ⟨a51 (os1++ex) res,os1++ex⟩ { tmps:=us.toArray,defers:=[] } w':=⟨e3.im,e3.lt,e3.fr,e3.kp,e3.lo,e3.st,e3.obj,e3.dis,e3.out,b2Q e3 e3.tmp,e3.dfr⟩;have ht:(os1++ex).take os1.length=os1:=by simp
 have h6:=h5.trim (n:=os1.length) hn (by simp) (a8G (λk hk=>d3I hk) h5.tmp hl) (by show a3q _ ((os1++ex).take os1.length)=true;rw[ht];exact ho);have h7:(⟨a51 (os1++ex) res,(os1++ex).take os1.length⟩:S)=⟨a51 (os1++ex) res,os1⟩:=by rw[ht]
 exact⟨us,_,os1,I',_,e1,⟨rfl,rfl⟩,h7 ▸ h6⟩
section
abbrev c7 (x:Nat->D):List D:=[x 0,x 1,x 2,x 3,x 4,x 5,x 6]
section
variable {T:List (List D)} {L:Int}
theorem c6s {s0 s1:ST} {pl:Int} {w:ByteArray} (h0:F4 25 [] T s0 [vi .i64 pl] s0) (h1:F4 26 [vs ⟨#[40]⟩] T s0 [vb false] s0) (h2:F4 28 [] T s0 [vs w] s1):F4 76 [vi .i64 L] T s0 [.ag [vs w,vb false,vi .u8 0,vs ⟨#[]⟩,vi .i64 0,.d (.sl 4 []),vi .i64 pl]] s1:=by
 refine y7.nils (cs:=[vs w,vb false,vi .u8 0,vs ⟨#[]⟩,vi .i64 0,.em,vi .i64 pl]) ?_ ⟨.inl rfl,.inl rfl,.inl rfl,.inl rfl,.inl rfl,.inr ⟨rfl,_,rfl⟩,.inl rfl,trivial⟩;obtain⟨_,_,_⟩:=s0;obtain⟨_,_,_⟩:=s1;refine so9 Tryz.func76 rfl ?_;intro _ _ _ _ _ _ _ _ _ _ _ _ _ _ _ _ _ _ _ _ _ _ _ _ _ _ _ _ _ _ _ _ _ _ _ _ _ _ _ _ _ vx;intros;rename_i hA;have p0:=h0;have p1:=h1;have p2:=h2;exact fin
theorem c92 {s0 s1 s2 s3 s4 s5:ST} {pl:Int} {w:ByteArray} {y:Nat->D} (hL1:0<=L) (hL2:L<=1048576) (h0:F4 25 [] T s0 [vi .i64 pl] s0) (h1:F4 26 [vs ⟨#[40]⟩] T s0 [vb true] s1) (h2:F4 28 [] T s1 [vs w] s2) (h3:F4 29 [vs ⟨#[58]⟩] T s2 [] s3) (h4:F4 90 [vi .i64 (L+1)] T s3 [.ag (C0 (c4 y))] s4) (h5:F4 29 [vs ⟨#[41]⟩] T s4 [] s5):F4 76 [vi .i64 L] T s0 [.ag [vs w,vb true,.d (y 0),.d (y 1),.d (y 2),.d (y 3),vi .i64 pl]] s5:=by
 obtain⟨_,_,_⟩:=s0;obtain⟨_,_,_⟩:=s1;obtain⟨_,_,_⟩:=s2;obtain⟨_,_,_⟩:=s3;obtain⟨_,_,_⟩:=s4;obtain⟨_,_,_⟩:=s5;obtain⟨L1,hL⟩:∃L1,L1=L+1:=⟨_,rfl⟩;rw[<-hL] at h4;refine so9 Tryz.func76 rfl ?_;intro qa qb _ _ _ _ _ _ _ _ _ _ _ _ _ _ _ _ _ _ _ _ _ _ _ _ _ _ _ _ _ _ _ _ _ _ _ _ _ _ _ vx;intros;rename_i hA;obtain⟨e1,e2,e3,e4,e5,e6,e7,e8,e9⟩:=m6 hA;have qL:qa .i64 (qb L 1)=L1:=by rw[e1,e2,IntWalk.i64_in _ (by omega)];exact hL.symm
 have q0:=qL;have p0:=h0;have p1:=h1;have p2:=h2;have p3:=h3;have p4:=h4;have p5:=h5;exact fin
def c93 (T:List (List D)) (L:Int) (inv:ST->List (List D)->Nat->Prop) (e q a:Int) (R:List (List D)) (m:Nat):Prop:=F4 13 [] T (e,q,a) [vb true] (e,q,a)/\IsN T a ⟨#[61,62]⟩ false/\∃(y:Nat->D) (s2:ST) (m2:Nat),F4 76 [vi .i64 L] T (e,q,a) [.ag (C0 (c7 y))] s2/\inv s2 (R++[c7 y]) m2/\m2<m
def d16 (T:List (List D)) (e q a:Int):Prop:=F4 13 [] T (e,q,a) [vb false] (e,q,a)\/F4 13 [] T (e,q,a) [vb true] (e,q,a)/\IsN T a ⟨#[61,62]⟩ true
theorem c0b {s0 s1 sf:ST} {Rf:List (List D)} {y:Nat->D} {m0:Nat} (inv:ST->List (List D)->Nat->Prop) (h0:F4 76 [vi .i64 L] T s0 [.ag (C0 (c7 y))] s1) (hi0:inv s1 [c7 y] m0)
  (hst:∀(e q a:Int) (R:List (List D)) (m:Nat),inv (e,q,a) R m->R.length<1048576/\(c93 T L inv e q a R m\/d16 T e q a/\F4 29 [vs ⟨#[61,62]⟩] T (e,q,a) [] sf/\R=Rf)) :
  y7 50 [.ptr 0 0,vi .i64 L] (eyT T s0) (λres os=>res=[.own 2]/\os=eyT T sf++[.row true 98 Rf]):=by
 obtain⟨_,_,_⟩:=s0;obtain⟨a1,b1,d1⟩:=s1;obtain⟨_,_,_⟩:=sf;refine so9 Tryz.func50 rfl ?_;intro _ _ _ _ _ _ _ _ _ _ _ _ _ _ _ _ _ _ _ _ _ _ _ _ _ ve;intros;rename_i hA;obtain⟨e1,e2,e3,e4,e5,e6,e7,e8,e9⟩:=m6 hA;obtain⟨r1,r2,r3,r4⟩:=B3 hA
 iterate 2 (try cbv;repeat ((first|with_reducible apply j6 hA|refine B8 hA [0,1] h0 ?_|refine E2 hA false ?_|refine a3c hA true ?_);cbv))
 try simp (maxSteps:=4000000) only [nc] at *
 refine n9 hA (γ:=ST×List (List D)×Nat) (λx=>[(5,.own 2),(9,.jk)]) (λx=>[(0,.box [.ptr 1 0,vi .u8 x.1.1,vi .i64 x.1.2.1]),(1,.box [.d (.sl 4 T),vi .i64 x.1.2.2]),(2,.row true 98 x.2.1)]) (λx=>inv x.1 x.2.1 x.2.2) (λx=>x.2.2) ((a1,b1,d1),[c7 y],m0) ?_ ?_ ?_
 ·exact hi0
 ·cbv
 ·intro x hinv;obtain⟨⟨e,q,a⟩,R,m⟩:=x;obtain⟨hlen,hs⟩:=hst e q a R m hinv
  rcases hs with⟨hok,his,y2,s2,m2,hp,hi2,hm2⟩|⟨he,hw,hR⟩
  ·obtain⟨a2,b2,d2⟩:=s2;have g3:ve R [c7 y2]=R++[c7 y2]:=by rw[r4]
   obtain⟨R2,hR2⟩:∃R2,R2=R++[c7 y2]:=⟨_,rfl⟩;rw[<-hR2] at g3 hi2
   iterate 2 (try cbv;repeat ((first|with_reducible apply j6 hA|rw[g3]|refine B8 hA [0,1] hok ?_|refine rdx hA [1] his ?_|refine B8 hA [0,1] hp ?_|refine E2 hA true ?_|(refine F3 hA (by simp only[d3O,d3Y];omega) ?_));cbv))
   try simp (maxSteps:=4000000) only [nc] at *
   refine⟨((a2,b2,d2),R2,m2),hi2,hm2,?_⟩;cbv
  ·subst hR
   rcases he with hok|⟨hok,his⟩
   ·iterate 2 (try cbv;repeat ((first|with_reducible apply j6 hA|refine B8 hA [0,1] hok ?_|refine B8 hA [0,1] hw ?_);cbv))
    try simp (maxSteps:=4000000) only [nc] at *
    exact n7 hA [0,1,2] (res':=[.own 2]) (os':=[_,_,.row true 98 R]) ⟨rfl,rfl,rfl,rfl,rfl,rfl,rfl,rfl⟩ ⟨rfl,rfl⟩
   ·iterate 2 (try cbv;repeat ((first|with_reducible apply j6 hA|refine B8 hA [0,1] hok ?_|refine rdx hA [1] his ?_|refine B8 hA [0,1] hw ?_);cbv))
    try simp (maxSteps:=4000000) only [nc] at *
    exact n7 hA [0,1,2] (res':=[.own 2]) (os':=[_,_,.row true 98 R]) ⟨rfl,rfl,rfl,rfl,rfl,rfl,rfl,rfl⟩ ⟨rfl,rfl⟩
end
end
abbrev Pm:=ByteArray×Bool×Ty×Int
def cPm (m:Pm):List D:=.sc (.string m.1)::.sc (.bool m.2.1)::(cT m.2.2.1++[.sc (.int .i64 m.2.2.2)])
theorem c31 (m:Pm):∃x,cPm m=c7 x:=by
 obtain⟨y,hy⟩:=b49 m.2.2.1;exact⟨λi=>match i with|0=>.sc (.string m.1)|1=>.sc (.bool m.2.1)|2=>y 0|3=>y 1|4=>y 2|5=>y 3|_=>.sc (.int .i64 m.2.2.2),by unfold cPm;rw[hy];rfl⟩
theorem b31 {n:Nat} {L:Int} (h:a27 n L):a27 (n - 1) (L+1):=by
 unfold a27 at h ⊢;omega
theorem a4f {n:Nat} {L:Int} (h:a27 n L) (h2:L<=1048575):0<=L/\L<=1048576:=by
 unfold a27 at h;omega
abbrev a0h:ByteArray:=⟨#[61,62]⟩
abbrev a0i:ByteArray:=⟨#[40]⟩
abbrev a0j:ByteArray:=⟨#[41]⟩
abbrev a2a:ByteArray:=⟨#[58]⟩
theorem a28 {ts:List Tok} (hE:y5 ts) (n:Nat) {p:PE} (hp:p.1<ts.length):(H3 ts n p).2.1<ts.length/\p.1<=(H3 ts n p).2.1/\((H3 ts n p).2.2=0->p.2=0):=by
 unfold H3
 split
 ·rename_i h;have hf:=T7 hE n (p.1,0) hp;have e:(T8 ts n p.1).2.2.2=(A8 ts n (p.1,0)).2.1:=by unfold T8;split <;> rfl
  exact⟨by show (T8 ts n p.1).2.2.2<_;rw[e];exact hf.1.hi,by show _<=(T8 ts n p.1).2.2.2;rw[e];exact hf.1.lo,λ_=>h⟩
 ·exact⟨hp,d3Q _,λh=>h⟩
def A6 (ts:List Tok) (n:Nat) (p:PE):Pm×PE :=
 if B1 ts a0i p=true then (((j7 ts (skP ts a0i p)).1,true,(H3 ts (n - 1) (l6 ts a2a (j7 ts (skP ts a0i p)).2)).1,(r9 ts p.1).at_),l6 ts a0j (H3 ts (n - 1) (l6 ts a2a (j7 ts (skP ts a0i p)).2)).2)
 else (((j7 ts p).1,false,v8,(r9 ts p.1).at_),(j7 ts p).2)
theorem b08 {ts:List Tok} {s:ByteArray} {p:PE} (hE:y5 ts) (hp:p.1<ts.length) (h:B1 ts s p=true):(skP ts s p).1<ts.length/\(skP ts s p).1=p.1+1/\p.2=0:=by
 unfold B1 at h;simp only[d3N,d4H] at h;have hg:=h.2;unfold Z5 at hg;simp only[d3N,d4H] at hg;unfold skP B1;rw[h.1,h.2];exact⟨hE _ hp (by rw[hg.1];decide),rfl,rfl⟩
theorem Y8 {ts:List Tok} (hE:y5 ts) (n:Nat) {p:PE} (hp:p.1<ts.length):(A6 ts n p).2.1<ts.length/\p.1<=(A6 ts n p).2.1/\((A6 ts n p).2.2=0->p.2=0/\p.1+1<=(A6 ts n p).2.1):=by
 unfold A6
 split
 ·rename_i h;obtain⟨a1,a2,a3⟩:=b08 hE hp h;obtain⟨b1,b2,b3⟩:=r8 hE a1;obtain⟨c1,c2,c3⟩:=l8 (s:=a2a) hE b1;obtain⟨d1,d2,d3⟩:=a28 hE (n - 1) c1;obtain⟨f1,f2,f3⟩:=l8 (s:=a0j) hE d1;exact⟨f1,by simp only;omega,λh0=>⟨a3,by simp only;omega⟩⟩
 ·obtain⟨b1,b2,b3⟩:=r8 hE hp;exact⟨b1,b2,λh0=>⟨(b3 h0).1,by have:=(b3 h0).2;simp only;omega⟩⟩
theorem b80 {ts:List Tok} (hE:y5 ts) (hN:a0c ts) (hl:ts.length<=65537) (n:Nat) (L:Int) (hv:a27 n L) (hL:L<=1048575) {p:PE} (hp:p.1<ts.length):N2 76 [vi .i64 L] ts p [.ag (C0 (cPm (A6 ts n p).1))] (A6 ts n p).2:=by
 have hl2:ts.length<=1048576:=by omega
 have hh:=a54 hl2 hp;have hs:=a1a hl2 hp a0i;unfold A6
 by_cases h:B1 ts a0i p=true
 ·rw[d3I h];rw[h] at hs;obtain⟨a1,a2,a3⟩:=b08 hE hp h;obtain⟨b1,b2,b3⟩:=r8 hE a1;obtain⟨c1,c2,c3⟩:=l8 (s:=a2a) hE b1;obtain⟨d1,d2,d3⟩:=a28 hE (n - 1) c1;have h2:=a1S hl2 a1;have h3:=P7 hl2 b1 a2a;have h4:=c30 hE hN hl (n - 1) (L+1) (b31 hv) c1;have h5:=P7 hl2 d1 a0j;obtain⟨y,hy⟩:=b49 (H3 ts (n - 1) (l6 ts a2a (j7 ts (skP ts a0i p)).2)).1;rw[hy] at h4
  have e:C0 (cPm ((j7 ts (skP ts a0i p)).1,true,(H3 ts (n - 1) (l6 ts a2a (j7 ts (skP ts a0i p)).2)).1,(r9 ts p.1).at_))=[vs (j7 ts (skP ts a0i p)).1,vb true,.d (y 0),.d (y 1),.d (y 2),.d (y 3),vi .i64 (r9 ts p.1).at_]:=by
   unfold cPm;simp only;rw[hy];rfl
  rw[e];exact c92 (a4f hv hL).1 (a4f hv hL).2 hh hs h2 h3 h4 h5
 ·rw[d3G h];replace h:B1 ts a0i p=false:=by simpa using h
  rw[h,show skP ts a0i p=p by unfold skP;rw[h];rfl] at hs;have h2:=a1S hl2 hp
  have e:C0 (cPm ((j7 ts p).1,false,v8,(r9 ts p.1).at_))=[vs (j7 ts p).1,vb false,vi .u8 0,vs ⟨#[]⟩,vi .i64 0,.d (.sl 4 []),vi .i64 (r9 ts p.1).at_]:=by
   unfold cPm v8;simp only;rw[cT,rT];rfl
  rw[e];exact c6s hh hs h2
def E4 (ts:List Tok) (n:Nat):Nat->List Pm×PE->List Pm×PE
 | 0,s=>s
 | k+1,s=>if s.2.2=0/\Z5 (r9 ts s.2.1) a0h=false then E4 ts n k (s.1++[(A6 ts n s.2).1],(A6 ts n s.2).2) else s
def G0 (ts:List Tok) (n:Nat) (p:PE):List Pm×PE:=((E4 ts n ts.length ([(A6 ts n p).1],(A6 ts n p).2)).1,l6 ts a0h (E4 ts n ts.length ([(A6 ts n p).1],(A6 ts n p).2)).2)
theorem b09 {ts:List Tok} {n:Nat} {s:List Pm×PE} (h:¬(s.2.2=0/\Z5 (r9 ts s.2.1) a0h=false)):∀k,E4 ts n k s=s
 | 0=>rfl
 | k+1=>by rw[E4,d3G h]
def c7G (ts:List Tok) (n:Nat) (rr:List Pm×PE) (s:ST) (R:List (List D)) (m:Nat):Prop:=∃(l:List Pm) (p:PE) (k:Nat),s=stP ts p/\R=l.map cPm/\p.1<ts.length/\l.length<=p.1+1/\(p.2=0->l.length<=p.1/\ts.length - p.1<=k)/\m=2 * (ts.length - p.1)+(if p.2=0 then 1 else 0)/\rr=E4 ts n k (l,p)
theorem c32 {ts:List Tok} (hE:y5 ts) (hN:a0c ts) (hl:ts.length<=65537) (n:Nat) (L:Int) (hv:a27 n L) (hL:L<=1048575) {p:PE} (hp:p.1<ts.length):N2 50 [vi .i64 L] ts p [.d (.sl 7 ((G0 ts n p).1.map cPm))] (G0 ts n p).2:=by
 have hl2:ts.length<=1048576:=by omega
 obtain⟨rr,hrr⟩:∃rr,rr=E4 ts n ts.length ([(A6 ts n p).1],(A6 ts n p).2):=⟨_,rfl⟩;have h0:=b80 hE hN hl n L hv hL hp;obtain⟨a1,a2,a3⟩:=Y8 hE n hp;obtain⟨y,hy⟩:=c31 (A6 ts n p).1;have hi0:c7G ts n rr (stP ts (A6 ts n p).2) [c7 y] (2 * (ts.length - (A6 ts n p).2.1)+(if (A6 ts n p).2.2=0 then 1 else 0)):=⟨[(A6 ts n p).1],(A6 ts n p).2,ts.length,rfl,by rw[d4a,hy];rfl,a1,by simp,λh=>⟨by have:=(a3 h).2;simp;omega,by omega⟩,rfl,hrr⟩;unfold G0;rw[<-hrr];unfold N2 at h0;rw[hy] at h0
 have key:=c0b (T:=P6 ts) (L:=L) (sf:=stP ts (l6 ts a0h rr.2)) (Rf:=rr.1.map cPm) (c7G ts n rr) h0 hi0 (λe q a R m hinv=>by
  obtain⟨l,p',k,hs,hR,hp',hlen,hz,hm,hr⟩:=hinv;refine⟨by rw[hR,d4g];omega,?_⟩;have hok:=okP hl2 hp';have ha:a=(p'.1:Int):=congrArg (λs:ST=>s.2.2) hs;have his:=(c7D hl2 (a:=p'.1) hp' a0h);rw[<-ha] at his;unfold N2 at hok;rw[<-hs] at hok
  by_cases hc:p'.2=0/\Z5 (r9 ts p'.1) a0h=false
  ·obtain⟨hz1,hz2⟩:=hz hc.1;obtain⟨b1,b2,b3⟩:=Y8 hE n hp';obtain⟨y2,hy2⟩:=c31 (A6 ts n p').1;have hpp:=b80 hE hN hl n L hv hL hp';unfold N2 at hpp;rw[hy2,<-hs] at hpp;rw[hc.1] at hok;rw[hc.2] at his
   match k,hz2,hr with
   | 0,hz2,_=>omega
   | k+1,hz2,hr =>
    rw[E4,d3I hc] at hr;refine .inl ⟨hok,his,y2,_,2 * (ts.length - (A6 ts n p').2.1)+(if (A6 ts n p').2.2=0 then 1 else 0),hpp,⟨_,_,k,rfl,by rw[hR,d45,d4a,hy2];rfl,b1,by simp;omega,λh=>⟨by have:=(b3 h).2;simp;omega,by have:=(b3 h).2;omega⟩,rfl,hr⟩,?_⟩;rw[hm,d3I hc.1]
    split
    ·rename_i h;have:=(b3 h).2;omega
    ·omega
  ·rw[b09 hc] at hr;have hw:=P7 hl2 hp' a0h;unfold N2 at hw;rw[<-hs] at hw;refine .inr ⟨?_,by rw[hr];exact hw,by rw[hr];exact hR⟩
   by_cases h0:p'.2=0
   ·rw[h0] at hok
    have h1:Z5 (r9 ts p'.1) a0h=true:=by
     cases hg:Z5 (r9 ts p'.1) a0h with
     | true=>rfl
     | false=>exact absurd ⟨h0,hg⟩ hc
    rw[h1] at his;exact .inr ⟨hok,his⟩
   ·rw[d3T h0] at hok
    exact .inl hok)
 exact y7.coer key (d3Q _) rfl rfl
section
section
variable {T:List (List D)} {L:Int}
theorem c6t {s0 s1 s2 s3 s4 s5 s6:ST} {x y z:Nat->D} {pl:Int} {w:ByteArray} (ho:OvN 45 w ⟨#[]⟩ 0 false pl [cE x,cE y] z) (hL1:0<=L) (hL2:L<=1048576) (h0:F4 26 [vs ⟨#[125]⟩] T s0 [vb false] s0) (h1:F4 28 [] T s0 [vs w] s1) (h2:F4 26 [vs ⟨#[58,61]⟩] T s1 [vb true] s2) (h3:F4 12 [vi .i64 (L+1)] T s2 [.ag (C0 (cE x))] s3) (h4:F4 29 [vs ⟨#[124]⟩] T s3 [] s4) (h5:F4 12 [vi .i64 (L+1)] T s4 [.ag (C0 (cE y))] s5) (h6:F4 29 [vs ⟨#[125]⟩] T s5 [] s6):F4 116 [vi .i64 L,vi .i64 pl] T s0 [.ag (C0 (cE z))] s6:=by
 obtain⟨_,_,_⟩:=s0;obtain⟨_,_,_⟩:=s1;obtain⟨_,_,_⟩:=s2;obtain⟨_,_,_⟩:=s3;obtain⟨_,_,_⟩:=s4;obtain⟨_,_,_⟩:=s5;obtain⟨_,_,_⟩:=s6;obtain⟨L1,hL⟩:∃L1,L1=L+1:=⟨_,rfl⟩;rw[<-hL] at h3 h5;refine so9 Tryz.func116 rfl ?_;intro qa qb;intros;rename_i hA;obtain⟨e1,e2,e3,e4,e5,e6,e7,e8,e9⟩:=m6 hA;obtain⟨c1,c2,c3,c4_,c5,c6,c7⟩:=G1 hA;have qL:qa .i64 (qb L 1)=L1:=by rw[e1,e2,IntWalk.i64_in _ (by omega)];exact hL.symm
 iterate 2 (try cbv;repeat ((first|with_reducible apply j6 hA|rw[qL]|refine B8 hA [0,1] h0 ?_|refine B8 hA [0,1] h1 ?_|refine B8 hA [0,1] h2 ?_|refine B8 hA [0,1] h3 ?_|refine B8 hA [0,1] h4 ?_|refine B8 hA [0,1] h5 ?_|refine B8 hA [0,1] h6 ?_|refine rdx hA [] ho ?_|refine a8K hA [0,1,2,4,5,6] (by kernel_rfl) ?_);cbv))
 try simp (maxSteps:=4000000) only [nc] at *
 repeat' (first
  | (with_reducible apply And.intro)
  | ((with_reducible apply j6 hA);cbv)
  | (refine A1 hA [0,1] h0 ⟨rfl,rfl,rfl,rfl,rfl,rfl,rfl⟩ ?_;rintro _ _ ⟨rfl,rfl⟩;cbv)
  | (refine A1 hA [0,1] h1 ⟨rfl,rfl,rfl,rfl,rfl,rfl,rfl⟩ ?_;rintro _ _ ⟨rfl,rfl⟩;cbv)
  | (refine A1 hA [0,1] h2 ⟨rfl,rfl,rfl,rfl,rfl,rfl,rfl⟩ ?_;rintro _ _ ⟨rfl,rfl⟩;cbv)
  | (refine A1 hA [0,1] h3 ⟨rfl,rfl,rfl,rfl,rfl,rfl,rfl⟩ ?_;rintro _ _ ⟨rfl,rfl⟩;cbv)
  | (refine A1 hA [0,1] h4 ⟨rfl,rfl,rfl,rfl,rfl,rfl,rfl⟩ ?_;rintro _ _ ⟨rfl,rfl⟩;cbv)
  | (refine A1 hA [0,1] h5 ⟨rfl,rfl,rfl,rfl,rfl,rfl,rfl⟩ ?_;rintro _ _ ⟨rfl,rfl⟩;cbv)
  | (refine A1 hA [0,1] h6 ⟨rfl,rfl,rfl,rfl,rfl,rfl,rfl⟩ ?_;rintro _ _ ⟨rfl,rfl⟩;cbv)
  | (refine a9V hA [] ho ⟨rfl,rfl,rfl,rfl,rfl,rfl,rfl⟩ rfl ?_;rintro _ rfl;cbv)
  )
 all_goals exact n7 hA [0,1] ⟨rfl,rfl,rfl,rfl,rfl,rfl,rfl,rfl⟩ ⟨rfl,rfl⟩
theorem c0d {s0 s1 s2 s3 s4:ST} {x y z:Nat->D} {pl:Int} (ho:OvA 51 ⟨#[]⟩ ⟨#[]⟩ 0 true y pl [cE x] z) (hL1:0<=L) (hL2:L<=1048576) (h0:F4 12 [vi .i64 (L+1)] T s0 [.ag (C0 (cE x))] s1) (h1:F4 26 [vs ⟨#[58]⟩] T s1 [vb true] s2) (h2:F4 90 [vi .i64 (L+1)] T s2 [.ag (C0 (c4 y))] s3) (h3:F4 29 [vs ⟨#[41]⟩] T s3 [] s4):F4 115 [vi .i64 L,vi .i64 pl] T s0 [.ag (C0 (cE z))] s4:=by
 obtain⟨_,_,_⟩:=s0;obtain⟨_,_,_⟩:=s1;obtain⟨_,_,_⟩:=s2;obtain⟨_,_,_⟩:=s3;obtain⟨_,_,_⟩:=s4;obtain⟨L1,hL⟩:∃L1,L1=L+1:=⟨_,rfl⟩;rw[<-hL] at h0 h2;refine so9 Tryz.func115 rfl ?_;intro qa qb;intros;rename_i hA;obtain⟨e1,e2,e3,e4,e5,e6,e7,e8,e9⟩:=m6 hA;obtain⟨c1,c2,c3,c4_,c5,c6,c7⟩:=G1 hA;have qL:qa .i64 (qb L 1)=L1:=by rw[e1,e2,IntWalk.i64_in _ (by omega)];exact hL.symm
 iterate 2 (try cbv;repeat ((first|with_reducible apply j6 hA|rw[qL]|refine B8 hA [0,1] h0 ?_|refine B8 hA [0,1] h1 ?_|refine B8 hA [0,1] h2 ?_|refine B8 hA [0,1] h3 ?_|refine rdx hA [] ho ?_|refine a8K hA [0,1,2,4,5] (by kernel_rfl) ?_);cbv))
 try simp (maxSteps:=4000000) only [nc] at *
 repeat' (first
  | (with_reducible apply And.intro)
  | ((with_reducible apply j6 hA);cbv)
  | (refine A1 hA [0,1] h0 ⟨rfl,rfl,rfl,rfl,rfl,rfl,rfl⟩ ?_;rintro _ _ ⟨rfl,rfl⟩;cbv)
  | (refine A1 hA [0,1] h1 ⟨rfl,rfl,rfl,rfl,rfl,rfl,rfl⟩ ?_;rintro _ _ ⟨rfl,rfl⟩;cbv)
  | (refine A1 hA [0,1] h2 ⟨rfl,rfl,rfl,rfl,rfl,rfl,rfl⟩ ?_;rintro _ _ ⟨rfl,rfl⟩;cbv)
  | (refine A1 hA [0,1] h3 ⟨rfl,rfl,rfl,rfl,rfl,rfl,rfl⟩ ?_;rintro _ _ ⟨rfl,rfl⟩;cbv)
  | (refine a9V hA [] ho ⟨rfl,rfl,rfl,rfl,rfl,rfl,rfl⟩ rfl ?_;rintro _ rfl;cbv)
  )
 all_goals exact n7 hA [0,1] ⟨rfl,rfl,rfl,rfl,rfl,rfl,rfl,rfl⟩ ⟨rfl,rfl⟩
end
end
def c33 (n:Nat) (l:List ResultVar) (Q:List V->List O->Prop) (m:Nat) (kl:List Nat):Vm.X->S->Prop
 | .exit _,_=>False
 | _,s=>C1 s.o m=.kl kl/\a5Q j5 s l (λvs=>j5.keep n Q vs ⟨s.t,K8 s.o m .dead⟩)
def b81 (os:List O) (I:Nat->Nat->Prop) (w:World) (g:Nat->Value) (Q:List V->List O->Prop) (e:Ending) (w':World):Prop:=∃us res os2 I' g',e=.returned (pkg us)/\Q res os2/\RelI I (Xof g os) ⟨w,g,os.length,[]⟩ I' g' ⟨res,os2⟩ { tmps:=us.toArray,defers:=[] } w'
theorem b0A {os:List O} {c2:Code} {n D:Nat} {fn:Func} {Q:List V->List O->Prop} {w:World} {g:Nat->Value} {I IN:Nat->Nat->Prop} {gN:Nat->Value} {t:List V} {oN:List O} {a:Act} {W:World} {kl:List Nat} (hc:y6 Tryz.prog c2=true) (hr:T3 fn.results.toList=true)
  (h:RelI I (Xof g os) ⟨w,g,os.length,[]⟩ IN gN ⟨t,oN⟩ a W) (hID:∀k,¬IN D k) (hD0:w.heap.size<=D) (hD:W.heap[D]?=some (.deferred (some [])))
  (hx:E9 j5 c2 ⟨t,B4 oN (.kl [])⟩ (λx s=>c33 os.length fn.results.toList Q (w8 oN) kl x s)) :
  c2.wpIn (FW none) n Tryz.prog (bodyPostM (FW none) n Tryz.prog fn (b81 os I w g Q)) { a with defers:={ target:=.collected D,args:=#[] }::a.defers } W:=by
 obtain⟨g',hg,hgn,h1⟩:=h.rebase h.tmp;have hDt:D<W.heap.size:=(d3Z.1 hD).1;have hXD:¬Xof g' (B4 oN (.kl [])) D:=λ⟨j,x,hj,hd,hb⟩=>a2z hD rfl (h1.obj j x hj) hd hb
 have h2:=h1.mark [{ target:=.collected D,args:=#[] }]
 have ea:({ ({ tmps:=a.tmps.toList.toArray,defers:=[] }:Act) with defers:=[{ target:=.collected D,args:=#[] }] }:Act)={ a with defers:={ target:=.collected D,args:=#[] }::a.defers }:=by
  have:=h.dfr.1;cases a;simp only at this;subst this;rfl
 rw[ea] at h2;refine N0 c2 _ _ _ _ _ hc ⟨IN,g',h2⟩ hx λe s2 a2 W2 hrel hk=>?_
 obtain⟨I2,g2,h3⟩:=hrel;have hD2:W2.heap[D]?=some (.deferred (some [])):=(h3.fr.block D hDt hXD).trans hD
 have hI2D:∀k,¬I2 D k:=λk hk=>by
  rcases (h3.lt D k hk).2 hDt with h4|h4
  ·exact hID k h4
  ·exact hXD h4
 have key:(C1 s2.o (w8 oN)=.kl kl/\a5Q j5 s2 fn.results.toList (λvs=>j5.keep os.length Q vs ⟨s2.t,K8 s2.o (w8 oN) .dead⟩))->LeavesInM (FW none) n Tryz.prog fn a2.tmps (b81 os I w g Q) a2.defers .returning W2:=λ⟨hkl,hres⟩=>by
  rw[h3.dfr.1];have h4:=h3.turnBoth (y':=.deferred none) hD2 rfl hD hI2D;have h5:=h.turned (y':=.deferred none) hD rfl hD0 hID;have h6:=h4.mark [];have hkl:=C7 hkl (by simp);rw[A0] at hkl;obtain⟨_,h7⟩:=h5.unbase hg hgn h6 hkl;obtain⟨us,vs,r1,r2,ks,res',os',hko,hQ⟩:=a2J h4 hr hres;refine⟨by simp,.inl ⟨_,_,rfl,run_takeDeferred hD2,?_⟩⟩;rw[J0,A0] at hko;refine⟨_,r1,us,res',os',I2,_,rfl,hQ,b7j (w0:=⟨w,g,os.length,[]⟩) h7 rfl ⟨hko.nd,hko.len,hko.head,hko.args,hko.objs,hko.low,hko.lowo,hko.nk⟩ r2⟩
 cases e with
 | normal=>exact key hk
 | exit i=>exact hk.elim
 | ret=>exact key hk
def b1j:List Code->Code->Code
 | [],d=>d
 | c::l,d=>.seq c (b1j l d)
theorem b82 {I0:Nat->Nat->Prop} {X:Nat->Prop} {w0:W0} {n bi:Nat} {cp r c2:Code} {Pre:S->Prop} {Q:Exit->Act->World->Prop} (hp:y6 Tryz.prog cp=true)
  (hmid:∀s a W,Rel I0 X w0 s a W->Pre s->r.wpIn (FW none) n Tryz.prog (Exit.inBlock bi (Exit.then (c2.wpIn (FW none) n Tryz.prog Q) Q)) a W):∀(cs:List Code) (s:S) (a:Act) (W:World),cs.all (y6 Tryz.prog)=true->Rel I0 X w0 s a W->E9 j5 (b1j cs cp) s (λx s=>x=.normal/\Pre s)->(b1j cs (.seq (.seq cp (.block bi r)) c2)).wpIn (FW none) n Tryz.prog Q a W
 | [],s,a,W,_,hrel,hx=>by
  refine wpIn_seq (wpIn_seq (N0 (ro:=none) cp _ _ _ _ _ hp hrel hx λe s3 a3 W3 hr3 hk3=>?_));obtain⟨he,hP⟩:=hk3;subst he;exact wpIn_block (hmid s3 a3 W3 hr3 hP)
 | c::l,s,a,W,hc,hrel,hx=>by
  simp only[d6y,d3N] at hc;refine wpIn_seq (N0 (ro:=none) c _ _ _ _ _ hc.1 hrel hx λe s1 a1 W1 hr1 hk1=>?_);cases e with
  | normal =>
   obtain⟨F1,hg1,hk1⟩:=hk1;obtain⟨z1,hf1,hr1'⟩:=hg1 _ _ _ _ _ hr1;exact b82 hp hmid l z1 a1 W1 hc.2 hr1' (hk1 z1 hf1)
  | exit i=>exact absurd hk1.1 (by simp)
  | ret=>exact absurd hk1.1 (by simp)
theorem a8q {f:Nat} {fn:Func} {cs:List Code} {cp c2 r:Code} {bi:Nat} {vs:List V} {os:List O} {Q:List V->List O->Prop} {Pre:S->Prop} (hf:Tryz.prog.funcs[f]?=some fn)
  (hb:fn.body=some (b1j cs (.seq (.seq cp (.block bi r)) c2))) (hn:(fn.name != "runtime.NumGoroutine")=true) (hcs:cs.all (y6 Tryz.prog)=true) (hp:y6 Tryz.prog cp=true)
  (hpre:E9 j5 (b1j cs cp) (a3a vs os (fn.ntmps - G7 vs)) (λx s=>x=.normal/\Pre s))
  (hmid:∀(I I':Nat->Nat->Prop) (g0 g:Nat->Value) (w W:World) (s:S) (a:Act),Pre s->RelI I (Xof g0 os) ⟨w,g0,os.length,[]⟩ I' g s a W ->
   r.wpIn (FW none) 3 Tryz.prog (Exit.inBlock bi (Exit.then (c2.wpIn (FW none) 3 Tryz.prog (bodyPostM (FW none) 3 Tryz.prog fn (b81 os I w g0 Q)))
    (bodyPostM (FW none) 3 Tryz.prog fn (b81 os I w g0 Q)))) a W):y7 f vs os Q:=by
 refine⟨by unfold a3p;rw[hf];simp only[hn,hb];rfl,?_⟩;intro I w g args hrel;have hv:o7 I w g args vs:=hrel.tmp;have hsz:args.toArray.size=G7 vs:=by rw[M9];simp[hv.1]
 refine callsIn_wide.1 (callsIn_of_wp_marks (n:=3) hf hb trivial ?_);rw[hsz]
 have hst:RelI I (Xof g os) ⟨w,g,os.length,[]⟩ I g (a3a vs os (fn.ntmps - G7 vs)) { tmps:=args.toArray++Array.replicate (fn.ntmps - G7 vs) undef,defers:=[] } w:=by
  refine⟨hrel.im,hrel.lt,hrel.fr,hrel.kp,hrel.lo,hrel.st,hrel.obj,hrel.dis,hrel.out,?_,rfl,hrel.dfr.2⟩;show o7 I w _ (args.toArray++Array.replicate (fn.ntmps - G7 vs) undef).toList (a4k vs (uns (fn.ntmps - G7 vs)));rw[a1z,d5t,a76];refine hv.append ?_;rw[d5x];refine⟨by simp,λi u c hu hc=>?_⟩;rw[d5g] at hu hc
  split at hu
  ·rename_i hi;rw[d3I hi] at hc;injection hu with hu;injection hc with hc;subst hu;subst hc;exact .tu [] [] rfl λi u c hu _=>by simp at hu
  ·cases hu
 exact b82 hp (λs a W ⟨I',g',h⟩ hP=>hmid I I' g g' w W s a hP h) cs _ _ _ hcs ⟨I,g,hst⟩ hpre
end Go.Proofs.YtdjnoafijjepcaaGreat.Vm
end
section
namespace Go.Proofs.YtdjnoafijjepcaaGreat.Vm
open Go.RowKit Go.Shelf Go.Proofs
attribute [local go_sem] Oper.semAt_some
set_option maxRecDepth 100000 in
set_option maxHeartbeats 4000000 in
theorem c34 (e:Nat->Nat->Value) (F:Fence) (n:Nat) (hf:F.fn 77) (hro:F.round=none) (hn:1<=n) (l Bs b off len cap:Nat) (hreach:len * 112<=140737488351232) (J:Nat->World->Prop) (Jx:Unit->World->Prop)
  (hY:∀(k:Nat) (W:World),k<len->J k W->YieldAt F (n - 1) Tryz.prog l #[.int .i64 ((len - 1 - k:Nat):Int),.agg #[e (len - 1 - k) 0,e (len - 1 - k) 1,e (len - 1 - k) 2,e (len - 1 - k) 3,e (len - 1 - k) 4,e (len - 1 - k) 5,e (len - 1 - k) 6]] W λr W' =>
   (r=.returned (.bool true)/\J (k+1) W'/\KpB Bs b off (len * 7) W W')\/(r=.returned (.bool false)/\Jx () W'))
  (W:World) (hBs:W.cell? ⟨Bs,0,none⟩=some (.slice (some ⟨b,off,none⟩) len cap)) (hc:∀j,j<len->∀i,i<7->W.cell? ⟨b,off+(j * 7+i),none⟩=some (e j i)) (h0:J 0 W) :
  CallsIn F n Tryz.prog 77 #[.func (.yield l) #[] #[],.pointer (some ⟨Bs,0,none⟩)] W λr W'=>(∃v,r=.returned v)/\(J len W'\/Jx () W'):=by
 refine callsIn_of_wp Tryz.func77 rfl hf ?_ hro;simp only[Tryz.ntmps77,d5d,d3O,d3Y,Nat.reduceAdd,Nat.reduceSub,d5o,d5p,d51,d5v,d44,d43]
 gi_wp2
 gi_loopw [3] (λi wr=>∃k r:Nat,k+r=len/\i=.int .i64 ((r:Int) - 1)/\J k wr/\KpB Bs b off (len * 7) W wr)
  (λi _=>(intOf i+1).toNat)
 case atStart=>exact⟨0,len,by omega,rfl,h0,KpB.refl W⟩
 case round =>
  obtain⟨k,r,hk,rfl,hJs,hnx⟩:=hrel;have hbx:=hnx.1 _ hBs;cases r with
  | succ q =>
   have eq:(((q+1:Nat):Int) - 1)=(q:Int):=by omega
   have hq:len - 1 - k=q:=by omega
   rw[eq];have hy0:=hY k wr (by omega) hJs;rw[hq] at hy0;obtain⟨fn,tmps,assign,body,hy,hR⟩:=hy0;have h2:∀i,i<7->wr.cell? ⟨b,off+q * 7+i,none⟩=some (e q i):=λi hi=>by rw[d48];exact hnx.2 _ (by omega) _ (hc q (by omega) i hi)
   have c0:=h2 0 (by omega);have c1:=h2 1 (by omega);have c2:=h2 2 (by omega);have c3:=h2 3 (by omega);have c4:=h2 4 (by omega);have c5:=h2 5 (by omega);have c6:=h2 6 (by omega);clear h2 hc hY;simp only[d4E] at c0;have hqn:(0:Int)<=(q:Int):=by omega
   have hql:(q:Int)<(len:Int):=by omega
   have hqlt:q<len:=by omega
   gi_wp2
   refine hR.mono ?_
   rintro r W3 (⟨rfl,hJ3,hk3⟩|⟨rfl,hJx3⟩)
   ·gi_wp2
    go_roundw
    case rel=>exact⟨k+1,q,by omega,by simp,hJ3,hnx.trans hk3⟩
    case measure=>simp[intOf]
   ·gi_wp2
    refine bodyPost_ret (results_none rfl _ _ _) rfl ?_;exact⟨⟨_,rfl⟩,.inr hJx3⟩
  | zero =>
   obtain rfl:k=len:=by omega
   clear hY
   gi_wp2
   go_end0
   exact⟨⟨_,rfl⟩,.inl hJs⟩
set_option maxRecDepth 100000 in
set_option maxHeartbeats 2000000 in
theorem c0e (A:Option Addr) (cap:Nat) (F:Fence) (n:Nat) (hf:F.fn 77) (hro:F.round=none) (l Bs:Nat) (J:World->Prop) (W:World) (hBs:W.cell? ⟨Bs,0,none⟩=some (.slice A 0 cap)) (h0:J W) :
  CallsIn F n Tryz.prog 77 #[.func (.yield l) #[] #[],.pointer (some ⟨Bs,0,none⟩)] W λe W'=>(∃v,e=.returned v)/\J W':=by
 refine callsIn_of_wp Tryz.func77 rfl hf ?_ hro;simp only[Tryz.ntmps77,d5d,d3O,d3Y,Nat.reduceAdd,Nat.reduceSub,d5o,d5p,d51,d5v,d44,d43]
 gi_wp2
 gi_loopw [3] (λi wr=>i=.int .i64 (-1)/\J wr) (λ_ _=>0)
 case atStart=>exact⟨rfl,h0⟩
 case round =>
  obtain⟨rfl,hJs⟩:=hrel
  gi_wp2
  go_end0
  exact⟨⟨_,rfl⟩,hJs⟩
theorem c0f {I:Nat->Nat->Prop} {w:World} {v:Value} {rows:List (List D)} {Bs:Nat} (hlt:∀b h,I b h->b<w.heap.size) (hv:AtD I w v (.sl 7 rows)) (hBl:Bs<w.heap.size) (hBs:w.cell? ⟨Bs,0,none⟩=some v) (hreach:rows.length * 112<=140737488351232) :
    ∃(b off:Nat) (us:List Value),us.length=rows.length * 7/\(rows≠[]->Up I b (off+rows.length * 7))/\F8 I w us rows.flatten/\(∀r∈rows,r.length=7) /\
      ∀(F:Fence) (n:Nat),F.fn 77->F.round=none->1<=n->b60 F n Tryz.prog 77 #[.pointer (some ⟨Bs,0,none⟩)] (λk=>#[.int .i64 ((rows.length - 1 - k:Nat):Int),.agg (((us.drop ((rows.length - 1 - k) * 7)).take 7).toArray)]) (KpB Bs b off (rows.length * 7)) rows.length w:=by
  obtain⟨A,cap,rfl,hcap,h⟩:=hv.slice
  rcases h with rfl|⟨b,off,us,rfl,hI,hr,hl,hc,hd⟩
  · exact⟨0,0,[],rfl,λh=>absurd rfl h,.nil I w,λr hr=>(by cases hr),λF n hf hro hn l J Jx W hW hY h0 =>
      (c0e A cap F n hf hro l Bs (J 0) W ((hW.cell (p:=⟨Bs,0,none⟩) hBl).trans hBs) h0).mono λe W' h=>⟨h.1,.inl h.2⟩⟩
  · refine⟨b,off,us,hl,λ_=>hI,hd,hr,λF n hf hro hn l J Jx W hW hY h0=>?_⟩
    have hbl:b<w.heap.size:=by obtain⟨k,h1,h2⟩:=hI;exact hlt _ _ h2
    refine c34 (λj i=>us.getD (j * 7+i) undef) F n hf hro hn l Bs b off rows.length cap hreach J Jx (λk W1 hk hj=>?_) W ((hW.cell (p:=⟨Bs,0,none⟩) hBl).trans hBs) (λj hj i hi=>?_) h0
    · have:=hY k W1 hk hj
      have hlen:(rows.length - 1 - k) * 7+7<=us.length:=by rw[hl,<-d4R];exact d4A _ (by omega)
      have e:((us.drop ((rows.length - 1 - k) * 7)).take 7)=[us.getD ((rows.length - 1 - k) * 7+0) undef,us.getD ((rows.length - 1 - k) * 7+1) undef,us.getD ((rows.length - 1 - k) * 7+2) undef,us.getD ((rows.length - 1 - k) * 7+3) undef,us.getD ((rows.length - 1 - k) * 7+4) undef,us.getD ((rows.length - 1 - k) * 7+5) undef,us.getD ((rows.length - 1 - k) * 7+6) undef]:=by
        apply d5e
        intro i;rw[d4y]
        split
        · rename_i hi
          rw[d4r];have h3:(rows.length - 1 - k) * 7+i<us.length:=by omega
          have hu:∀j,(rows.length - 1 - k) * 7+j<us.length->us[(rows.length - 1 - k) * 7+j]?=some (us.getD ((rows.length - 1 - k) * 7+j) undef):=λj hj=>by rw[d3W,d3H hj];rfl
          rw[hu i h3]
          match i,hi with
          | 0,_=>rfl
           | 1,_=>rfl
           | 2,_=>rfl
           | 3,_=>rfl
           | 4,_=>rfl
           | 5,_=>rfl
           | 6,_=>rfl
          
        · rename_i hi
          rw[d49 (by simp;omega)]
      dsimp only at this;rw[e] at this;exact this
    · refine(hW.cell (p:=⟨b,off+(j * 7+i),none⟩) hbl).trans ?_
      have h3:j * 7+i<us.length:=by
        have h4:j * 7+7<=rows.length * 7:=by rw[<-d4R];exact d4A _ (by omega)
        omega
      have:=hc (j * 7+i) _ (d3H h3);rw[this,d3W,d3H h3];rfl
set_option maxRecDepth 100000 in
set_option maxHeartbeats 4000000 in
theorem c35 (e:Nat->Nat->Value) (F:Fence) (n:Nat) (hf:F.fn 136) (hro:F.round=none) (hn:1<=n) (l Bs b off len cap:Nat) (hreach:len * 208<=140737488351232) (J:Nat->World->Prop) (Jx:Unit->World->Prop)
  (hY:∀(k:Nat) (W:World),k<len->J k W->YieldAt F (n - 1) Tryz.prog l #[.int .i64 ((len - 1 - k:Nat):Int),.agg #[e (len - 1 - k) 0,e (len - 1 - k) 1,e (len - 1 - k) 2,e (len - 1 - k) 3,e (len - 1 - k) 4,e (len - 1 - k) 5,e (len - 1 - k) 6,e (len - 1 - k) 7,e (len - 1 - k) 8,e (len - 1 - k) 9,e (len - 1 - k) 10,e (len - 1 - k) 11,e (len - 1 - k) 12]] W λr W' =>
   (r=.returned (.bool true)/\J (k+1) W'/\KpB Bs b off (len * 13) W W')\/(r=.returned (.bool false)/\Jx () W'))
  (W:World) (hBs:W.cell? ⟨Bs,0,none⟩=some (.slice (some ⟨b,off,none⟩) len cap)) (hc:∀j,j<len->∀i,i<13->W.cell? ⟨b,off+(j * 13+i),none⟩=some (e j i)) (h0:J 0 W) :
  CallsIn F n Tryz.prog 136 #[.func (.yield l) #[] #[],.pointer (some ⟨Bs,0,none⟩)] W λr W'=>(∃v,r=.returned v)/\(J len W'\/Jx () W'):=by
 refine callsIn_of_wp Tryz.func136 rfl hf ?_ hro;simp only[Tryz.ntmps136,d5d,d3O,d3Y,Nat.reduceAdd,Nat.reduceSub,d5o,d5p,d51,d5v,d44,d43]
 gi_wp2
 gi_loopw [3] (λi wr=>∃k r:Nat,k+r=len/\i=.int .i64 ((r:Int) - 1)/\J k wr/\KpB Bs b off (len * 13) W wr)
  (λi _=>(intOf i+1).toNat)
 case atStart=>exact⟨0,len,by omega,rfl,h0,KpB.refl W⟩
 case round =>
  obtain⟨k,r,hk,rfl,hJs,hnx⟩:=hrel;have hbx:=hnx.1 _ hBs;cases r with
  | succ q =>
   have eq:(((q+1:Nat):Int) - 1)=(q:Int):=by omega
   have hq:len - 1 - k=q:=by omega
   rw[eq];have hy0:=hY k wr (by omega) hJs;rw[hq] at hy0;obtain⟨fn,tmps,assign,body,hy,hR⟩:=hy0;have h2:∀i,i<13->wr.cell? ⟨b,off+q * 13+i,none⟩=some (e q i):=λi hi=>by rw[d48];exact hnx.2 _ (by omega) _ (hc q (by omega) i hi)
   have c0:=h2 0 (by omega);have c1:=h2 1 (by omega);have c2:=h2 2 (by omega);have c3:=h2 3 (by omega);have c4:=h2 4 (by omega);have c5:=h2 5 (by omega);have c6:=h2 6 (by omega);have c7:=h2 7 (by omega);have c8:=h2 8 (by omega);have c9:=h2 9 (by omega);have c10:=h2 10 (by omega);have c11:=h2 11 (by omega);have c12:=h2 12 (by omega);clear h2 hc hY;simp only[d4E] at c0;have hqn:(0:Int)<=(q:Int):=by omega
   have hql:(q:Int)<(len:Int):=by omega
   have hqlt:q<len:=by omega
   gi_wp2
   refine hR.mono ?_
   rintro r W3 (⟨rfl,hJ3,hk3⟩|⟨rfl,hJx3⟩)
   ·gi_wp2
    go_roundw
    case rel=>exact⟨k+1,q,by omega,by simp,hJ3,hnx.trans hk3⟩
    case measure=>simp[intOf]
   ·gi_wp2
    refine bodyPost_ret (results_none rfl _ _ _) rfl ?_;exact⟨⟨_,rfl⟩,.inr hJx3⟩
  | zero =>
   obtain rfl:k=len:=by omega
   clear hY
   gi_wp2
   go_end0
   exact⟨⟨_,rfl⟩,.inl hJs⟩
set_option maxRecDepth 100000 in
set_option maxHeartbeats 2000000 in
theorem c0g (A:Option Addr) (cap:Nat) (F:Fence) (n:Nat) (hf:F.fn 136) (hro:F.round=none) (l Bs:Nat) (J:World->Prop) (W:World) (hBs:W.cell? ⟨Bs,0,none⟩=some (.slice A 0 cap)) (h0:J W) :
  CallsIn F n Tryz.prog 136 #[.func (.yield l) #[] #[],.pointer (some ⟨Bs,0,none⟩)] W λe W'=>(∃v,e=.returned v)/\J W':=by
 refine callsIn_of_wp Tryz.func136 rfl hf ?_ hro;simp only[Tryz.ntmps136,d5d,d3O,d3Y,Nat.reduceAdd,Nat.reduceSub,d5o,d5p,d51,d5v,d44,d43]
 gi_wp2
 gi_loopw [3] (λi wr=>i=.int .i64 (-1)/\J wr) (λ_ _=>0)
 case atStart=>exact⟨rfl,h0⟩
 case round =>
  obtain⟨rfl,hJs⟩:=hrel
  gi_wp2
  go_end0
  exact⟨⟨_,rfl⟩,hJs⟩
theorem c0h {I:Nat->Nat->Prop} {w:World} {v:Value} {rows:List (List D)} {Bs:Nat} (hlt:∀b h,I b h->b<w.heap.size) (hv:AtD I w v (.sl 13 rows)) (hBl:Bs<w.heap.size) (hBs:w.cell? ⟨Bs,0,none⟩=some v) (hreach:rows.length * 208<=140737488351232) :
    ∃(b off:Nat) (us:List Value),us.length=rows.length * 13/\(rows≠[]->Up I b (off+rows.length * 13))/\F8 I w us rows.flatten/\(∀r∈rows,r.length=13) /\
      ∀(F:Fence) (n:Nat),F.fn 136->F.round=none->1<=n->b60 F n Tryz.prog 136 #[.pointer (some ⟨Bs,0,none⟩)] (λk=>#[.int .i64 ((rows.length - 1 - k:Nat):Int),.agg (((us.drop ((rows.length - 1 - k) * 13)).take 13).toArray)]) (KpB Bs b off (rows.length * 13)) rows.length w:=by
  obtain⟨A,cap,rfl,hcap,h⟩:=hv.slice
  rcases h with rfl|⟨b,off,us,rfl,hI,hr,hl,hc,hd⟩
  · exact⟨0,0,[],rfl,λh=>absurd rfl h,.nil I w,λr hr=>(by cases hr),λF n hf hro hn l J Jx W hW hY h0 =>
      (c0g A cap F n hf hro l Bs (J 0) W ((hW.cell (p:=⟨Bs,0,none⟩) hBl).trans hBs) h0).mono λe W' h=>⟨h.1,.inl h.2⟩⟩
  · refine⟨b,off,us,hl,λ_=>hI,hd,hr,λF n hf hro hn l J Jx W hW hY h0=>?_⟩
    have hbl:b<w.heap.size:=by obtain⟨k,h1,h2⟩:=hI;exact hlt _ _ h2
    refine c35 (λj i=>us.getD (j * 13+i) undef) F n hf hro hn l Bs b off rows.length cap hreach J Jx (λk W1 hk hj=>?_) W ((hW.cell (p:=⟨Bs,0,none⟩) hBl).trans hBs) (λj hj i hi=>?_) h0
    · have:=hY k W1 hk hj
      have hlen:(rows.length - 1 - k) * 13+13<=us.length:=by rw[hl,<-d4R];exact d4A _ (by omega)
      have e:((us.drop ((rows.length - 1 - k) * 13)).take 13)=[us.getD ((rows.length - 1 - k) * 13+0) undef,us.getD ((rows.length - 1 - k) * 13+1) undef,us.getD ((rows.length - 1 - k) * 13+2) undef,us.getD ((rows.length - 1 - k) * 13+3) undef,us.getD ((rows.length - 1 - k) * 13+4) undef,us.getD ((rows.length - 1 - k) * 13+5) undef,us.getD ((rows.length - 1 - k) * 13+6) undef,us.getD ((rows.length - 1 - k) * 13+7) undef,us.getD ((rows.length - 1 - k) * 13+8) undef,us.getD ((rows.length - 1 - k) * 13+9) undef,us.getD ((rows.length - 1 - k) * 13+10) undef,us.getD ((rows.length - 1 - k) * 13+11) undef,us.getD ((rows.length - 1 - k) * 13+12) undef]:=by
        apply d5e
        intro i;rw[d4y]
        split
        · rename_i hi
          rw[d4r];have h3:(rows.length - 1 - k) * 13+i<us.length:=by omega
          have hu:∀j,(rows.length - 1 - k) * 13+j<us.length->us[(rows.length - 1 - k) * 13+j]?=some (us.getD ((rows.length - 1 - k) * 13+j) undef):=λj hj=>by rw[d3W,d3H hj];rfl
          rw[hu i h3]
          match i,hi with
          | 0,_=>rfl
           | 1,_=>rfl
           | 2,_=>rfl
           | 3,_=>rfl
           | 4,_=>rfl
           | 5,_=>rfl
           | 6,_=>rfl
           | 7,_=>rfl
           | 8,_=>rfl
           | 9,_=>rfl
           | 10,_=>rfl
           | 11,_=>rfl
           | 12,_=>rfl
          
        · rename_i hi
          rw[d49 (by simp;omega)]
      dsimp only at this;rw[e] at this;exact this
    · refine(hW.cell (p:=⟨b,off+(j * 13+i),none⟩) hbl).trans ?_
      have h3:j * 13+i<us.length:=by
        have h4:j * 13+13<=rows.length * 13:=by rw[<-d4R];exact d4A _ (by omega)
        omega
      have:=hc (j * 13+i) _ (d3H h3);rw[this,d3W,d3H h3];rfl
end Go.Proofs.YtdjnoafijjepcaaGreat.Vm
end
section
namespace Go.Proofs.YtdjnoafijjepcaaGreat.Vm
open Go.RowKit
set_option maxRecDepth 100000
set_option maxHeartbeats 4000000
section
def c36 (f sz:Nat):Prop:=∀ {I:Nat->Nat->Prop} {w:World} {v:Value} {rows:List (List D)} {Bs:Nat},(∀b h,I b h->b<w.heap.size)->AtD I w v (.sl sz rows)->Bs<w.heap.size->w.cell? ⟨Bs,0,none⟩=some v->rows.length * (sz * 16)<=140737488351232 ->
  ∃(b off:Nat) (us:List Value),us.length=rows.length * sz/\(rows≠[]->Up I b (off+rows.length * sz))/\F8 I w us rows.flatten/\(∀r∈rows,r.length=sz) /\
   ∀(F:Fence) (n:Nat),F.fn f->F.round=none->1<=n->b60 F n Tryz.prog f #[.pointer (some ⟨Bs,0,none⟩)] (λk=>#[.int .i64 ((rows.length - 1 - k:Nat):Int),.agg (((us.drop ((rows.length - 1 - k) * sz)).take sz).toArray)]) (KpB Bs b off (rows.length * sz)) rows.length w
theorem b83 {sz:Nat} {r:List D}:∀ {rows:List (List D)} {k:Nat},(∀r∈rows,r.length=sz)->rows[k]?=some r->∀i,i<sz->rows.flatten[k * sz+i]?=r[i]?
 | [],k,_,h,_,_=>by simp at h
 | x::l,0,hr,h,i,hi=>by
  have hx:=hr x (d3L ..);simp only[d5U,Option.some.injEq] at h;subst h;rw[d4D,d6r,d4L,d4b (by omega)]
 | x::l,k+1,hr,h,i,hi=>by
  have hx:=hr x (d3L ..);rw[d4T] at h;have e:(k+1) * sz+i=sz+(k * sz+i):=by rw[d4R];omega
  rw[d4D,e,d3V (by omega),hx,Nat.add_sub_cancel_left];exact b83 (λr hm=>hr r (d3M _ hm)) h i hi
theorem c0i {W:World} {b:Nat} {us:Array Value} {t:TypeId} {m:Nat×Nat} {i:Nat} (h:W.heap[b]?=some (.cells us t m)):W.cell? ⟨b,i,none⟩=us[i]?:=by
 show (match W.heap[b]? with|some (.cells c _ _)=>c[i]?|_=>none)=_;rw[h]
section
variable {I0:Nat->Nat->Prop} {X:Nat->Prop} {w0:W0} {I:Nat->Nat->Prop} {g:Nat->Value} {a:Act} {w:World}
theorem b84 {f sz:Nat} (hS:c36 f sz) (eg:∀args w,(callFunc f args).run Tryz.prog w=.ok (.enter f args) w) {asg bdy:Code} {n p1 p2 gs kb:Nat} {rows:List (List D)} {t0 t:List V} {o0:List O} {st:Nat->List O} {Q:Exit->Act->World->Prop} {ks1 ks2:List Nat} (hA:y6 Tryz.prog asg=true) (hB:y6 Tryz.prog bdy=true)
  (h0:RelI I0 X w0 I g ⟨t0,o0⟩ a w) (hn:2<=n) (hgs:y8 t0 gs=.cl f [kb]) (hob:o0[kb]?=some (.box [.d (.sl sz rows)])) (hlen:rows.length * (sz * 16)<=140737488351232)
  (ht0:H5 t0 gs .jk=t) (hst:o0.set kb .dead=st 0) (ht:E5 ks2 t=t)
  (hx:∀k,k<rows.length->b61 ks1 ks2 asg bdy (H5 (H5 t p1 (vi .i64 ((rows.length - 1 - k:Nat):Int))) p2 (.ag (C0 (rows.getD (rows.length - 1 - k) [])))) (st k) (st (k+1)))
  (hQ:∀(D:Nat) (W:World) (I1:Nat->Nat->Prop) (g1:Nat->Value),w0.w.heap.size<=D->(∀k,¬I1 D k)->RelI I0 X w0 I1 g1 ⟨t,st rows.length⟩ a W->W.heap[D]?=some (.deferred (some []))->Q .normal { a with defers:={ target:=.collected D,args:=#[] }::a.defers } W) :
  (Code.rangeFunc (.tmp gs) #[p1,p2] asg bdy).wpIn (FW none) n Tryz.prog Q a w:=by
 have hcl0:=h0.get (.tmp gs);have h:RelI I0 X w0 I g ⟨t,o0⟩ a w:=by rw[<-ht0];exact h0.reread (i:=gs) (x:=.jk) λv _=>.jk v
 obtain⟨b,us,ty,h1,h2,h3,h4⟩:=h.frzBox hob;obtain⟨v,us',rfl,hv,hnn⟩:=h3.uncons;obtain rfl:=hnn.unnil;have hvD:AtD I w v (.sl sz rows):=by cases hv with|d h=>exact h
 have hBs:w.cell? ⟨b,0,none⟩=some v:=c0i h2;have hbl:b<w.heap.size:=(d3Z.1 h2).1;obtain⟨bb,off,vs,hl,hup,hds,hr5,hseq⟩:=hS (λb k hb=>(h.lt b k hb).1) hvD hbl hBs hlen
 have hcl:a.eval (.tmp gs)=.func (.func f) #[] #[.pointer (some ⟨b,0,none⟩)]:=by
  have h5:AtV I w g (a.eval (.tmp gs)) (.cl f [kb]):=by
   have e:(⟨t0,o0⟩:S).get (.tmp gs)=.cl f [kb]:=by
    exact hgs
   rw[<-e];exact hcl0
  generalize a.eval (.tmp gs)=ax at h5 ⊢;cases h5 with
  | cl f us ks hl hh =>
   match us,hl with
   | [u],_=>rw[(hh 0 u kb rfl rfl).1,h1]
 have hst0:RelI I0 X w0 (λb' n=>I b' n\/(b'=b/\n<=1)) g ⟨t,st 0⟩ a w:=by
  rw[<-hst];exact h4
 refine b4R (ks1:=ks1) (ks2:=ks2) (t:=t) (p1:=p1) (p2:=p2) (gf:=f) (N:=rows.length) (lb:=#[.pointer (some ⟨b,0,none⟩)])
  (u1:=λk=>.int .i64 ((rows.length - 1 - k:Nat):Int)) (u2:=λk=>.agg (((vs.drop ((rows.length - 1 - k) * sz)).take sz).toArray)) (Kp:=KpB b bb off (rows.length * sz)) (st:=st)
  (tk:=λk=>H5 (H5 t p1 (vi .i64 ((rows.length - 1 - k:Nat):Int))) p2 (.ag (C0 (rows.getD (rows.length - 1 - k) []))))
  hA hB hst0 (by omega) hcl eg (hseq (FW none) (n - 1) trivial rfl (by omega)) KpB.trans (λW l o o' _ hl ho _=>KpB.turn W l o o' hl ho) ?_ ?_ ht hx ?_
 ·intro W1 W2 hk;refine⟨λv hv=>?_,λi hi v hv=>?_⟩
  ·rw[hk b 1 (.inr ⟨rfl,d3Q _⟩) 0 (by decide)];exact hv
  ·obtain⟨n,hn1,hn2⟩:=hup (λe=>by rw[e] at hi;simp at hi);rw[hk bb n (.inl hn2) (off+i) (by omega)];exact hv
 ·intro k W1 I1 g1 hk hI1 hk1 hvs;have hlt:rows.length - 1 - k<rows.length:=by omega
  have e1:∀(ts:Array Value) (i:Nat) (u:Value),(ts.setIfInBounds i u).toList=ts.toList.set i u:=λts i u=>by simp
  rw[e1,e1,a0l,a0l];refine(hvs.set (.d (.sc _ rfl)) p1).set (Z6 ?_) p2;refine F8.toV g1 ?_;have h5:=(hds.drop ((rows.length - 1 - k) * sz)).take sz
  have e2:(rows.flatten.drop ((rows.length - 1 - k) * sz)).take sz=rows.getD (rows.length - 1 - k) []:=by
   have hg:rows[rows.length - 1 - k]?=some (rows.getD (rows.length - 1 - k) []):=by rw[d3W,d3H hlt];rfl
   apply d5e
   intro i;rw[d4y];have h6:(rows.getD (rows.length - 1 - k) []).length=sz:=hr5 _ (d3U hg)
   split
   ·rename_i hi;rw[d4r,b83 hr5 hg i hi]
   ·rename_i hi;rw[d49 (by omega)]
  rw[e2] at h5;exact h5.mono (λb j hb=>hI1 b j (.inl hb)) (λb j hb=>hk1 b j (.inl hb))
 ·rintro D W1 hD ⟨I1,g1,q1,q2,q3,q4⟩ hd
  exact hQ D W1 I1 g1 (by rw[hD];exact h.fr.size) (λk=>by rw[hD];exact(q2 k).2) q3 hd
end
end
section
@[reducible] noncomputable def fnB:Code:=Tryz.f27.body.getD .skip
@[reducible] noncomputable def fnC:List Code:=[P9 fnB,P9 (A7 fnB),P9 (A7 (A7 fnB)),P9 (A7 (A7 (A7 fnB))),P9 (A7 (A7 (A7 (A7 fnB))))]
@[reducible] noncomputable def fnP:Code:=P9 (A7 (A7 (A7 (A7 (A7 fnB)))))
@[reducible] noncomputable def fnE:Code:=A7 (A7 (A7 (A7 (A7 (A7 fnB)))))
theorem d17:Tryz.f27.body=some (b1j fnC (.seq (.seq (P9 fnP) (.block 0 (.rangeFunc (.tmp 26) #[27,28] (a20 (A7 fnP)) (a21 (A7 fnP))))) fnE)):=by kernel_rfl
theorem d18:(Tryz.f27.name != "runtime.NumGoroutine")=true:=by kernel_rfl
theorem d19:fnC.all (y6 Tryz.prog)=true:=by kernel_rfl
theorem d1A:y6 Tryz.prog (P9 fnP)=true:=by kernel_rfl
theorem d1B:y6 Tryz.prog fnE=true:=by kernel_rfl
theorem d1C:T3 Tryz.f27.results.toList=true:=by kernel_rfl
theorem d1D:y6 Tryz.prog (a20 (A7 fnP))=true:=by kernel_rfl
theorem d1E:y6 Tryz.prog (a21 (A7 fnP))=true:=by kernel_rfl
def fnT (L pl L1:Int) (r:Bool) (u v c:V) (rows:List (List D)) (x:Nat->D):List V:=[.ptr 0 0,vi .i64 L,vi .i64 pl,vb r,.tu [],.tu [],.ptr 2 0,.ptr 3 0,.ptr 4 0,.ptr 5 0,.d (.sl 7 rows),.ptr 6 0,.tu [],.tu [],.tu [],vb r,u,v,.ptr 0 0,vi .i64 L,.d (.sl 7 rows),.ptr 0 0,vi .i64 L,vi .i64 L1,.ag (C0 (cE x)),.d (.sl 7 rows),c,.tu [],.tu [],.tu [],.tu [],.tu [],.tu [],.tu [],.tu [],.tu [],.tu [],.tu [],.tu [],.tu [],.tu [],.tu [],.tu [],.tu [],.tu [],.tu [],.tu [],.tu [],.tu [],.tu [],.tu []]
def fnO (T:List (List D)) (s:ST) (pl:Int) (r:Bool) (w:ByteArray) (x:Nat->D) (b:O):List O:=[.box [.ptr 1 0,vi .u8 s.1,vi .i64 s.2.1],.box [.d (.sl 4 T),vi .i64 s.2.2],.box [vi .i64 pl],.box [vb r],.box [vi .u8 0,vs ⟨#[]⟩,vs ⟨#[]⟩,vi .i64 0,vb false,vi .u8 0,vs ⟨#[]⟩,vi .i64 0,.em,.em,.em],.box [vs w],.box (C0 (cE x)),.dead,b]
section
variable {T:List (List D)} {L pl L1:Int}
theorem c6u {s0 s2 s3:ST} {x:Nat->D} {rows:List (List D)} (hL1:0<=L) (hL2:L<=1048576) (hL:L1=L+1) (h2:F4 50 [vi .i64 L] T s0 [.d (.sl 7 rows)] s2) (h3:F4 12 [vi .i64 (L+1)] T s2 [.ag (C0 (cE x))] s3) (P:S->Prop) (hP:P ⟨fnT L pl L1 false (.tu []) (.tu []) (.cl 77 [8]) rows x,fnO T s3 pl false ⟨#[]⟩ x (.box [.d (.sl 7 rows)])⟩):∀qa qb qc qd qe qg qh qi qj qk ql qm qo qp qq qt qu qv qw qx qy qz va vc vd ve vf vg vh vj vk vl vm vn vo vq vr vt vu vv vw vx vy,Ar.mk qa qb qc qd qe qg qh qi qj qk ql qm qo qp qq qt qu qv qw qx qy qz va vc vd ve vf vg vh vj vk vl vm vn vo vq vr vt vu vv vw vx vy=j5->E9 (Ar.mk qa qb qc qd qe qg qh qi qj qk ql qm qo qp qq qt qu qv qw qx qy qz va vc vd ve vf vg vh vj vk vl vm vn vo vq vr vt vu vv vw vx vy) (b1j fnC (P9 fnP)) (a3a [.ptr 0 0,vi .i64 L,vi .i64 pl,vb false] (eyT T s0) (Tryz.f27.ntmps - G7 [V.ptr 0 0,vi .i64 L,vi .i64 pl,vb false])) (λx s=>x=.normal/\P s):=by
 intro qa qb qc qd qe qg qh qi qj qk ql qm qo qp qq qt qu qv qw qx qy qz va vc vd ve vf vg vh vj vk vl vm vn vo vq vr vt vu vv vw vx vy hA;obtain⟨_,_,_⟩:=s0;obtain⟨_,_,_⟩:=s2;obtain⟨_,_,_⟩:=s3;rw[<-hL] at h3;obtain⟨e1,e2,e3,e4,e5,e6,e7,e8,e9⟩:=m6 hA;have qL:qa .i64 (qb L 1)=L1:=by rw[e1,e2,IntWalk.i64_in _ (by omega)];exact hL.symm
 iterate 2 (try cbv;repeat ((first|with_reducible apply j6 hA|rw[qL]|refine B8 hA [0,1] h2 ?_|refine B8 hA [0,1] h3 ?_|refine a9T hA Tryz.func51 rfl (by kernel_rfl) (by kernel_rfl) (by kernel_rfl) ?_);cbv))
 try simp (maxSteps:=4000000) only [nc] at *
 exact hP
theorem c6v {s0 s1 s2 s3:ST} {w:ByteArray} {x:Nat->D} {rows:List (List D)} (hL1:0<=L) (hL2:L<=1048576) (hL:L1=L+1) (h1:F4 28 [] T s0 [vs w] s1) (h2:F4 50 [vi .i64 L] T s1 [.d (.sl 7 rows)] s2) (h3:F4 12 [vi .i64 (L+1)] T s2 [.ag (C0 (cE x))] s3) (P:S->Prop) (hP:P ⟨fnT L pl L1 true (.ptr 0 0) (vs w) (.cl 77 [8]) rows x,fnO T s3 pl true w x (.box [.d (.sl 7 rows)])⟩):∀qa qb qc qd qe qg qh qi qj qk ql qm qo qp qq qt qu qv qw qx qy qz va vc vd ve vf vg vh vj vk vl vm vn vo vq vr vt vu vv vw vx vy,Ar.mk qa qb qc qd qe qg qh qi qj qk ql qm qo qp qq qt qu qv qw qx qy qz va vc vd ve vf vg vh vj vk vl vm vn vo vq vr vt vu vv vw vx vy=j5->E9 (Ar.mk qa qb qc qd qe qg qh qi qj qk ql qm qo qp qq qt qu qv qw qx qy qz va vc vd ve vf vg vh vj vk vl vm vn vo vq vr vt vu vv vw vx vy) (b1j fnC (P9 fnP)) (a3a [.ptr 0 0,vi .i64 L,vi .i64 pl,vb true] (eyT T s0) (Tryz.f27.ntmps - G7 [V.ptr 0 0,vi .i64 L,vi .i64 pl,vb true])) (λx s=>x=.normal/\P s):=by
 intro qa qb qc qd qe qg qh qi qj qk ql qm qo qp qq qt qu qv qw qx qy qz va vc vd ve vf vg vh vj vk vl vm vn vo vq vr vt vu vv vw vx vy hA;obtain⟨_,_,_⟩:=s0;obtain⟨_,_,_⟩:=s1;obtain⟨_,_,_⟩:=s2;obtain⟨_,_,_⟩:=s3;rw[<-hL] at h3;obtain⟨e1,e2,e3,e4,e5,e6,e7,e8,e9⟩:=m6 hA;have qL:qa .i64 (qb L 1)=L1:=by rw[e1,e2,IntWalk.i64_in _ (by omega)];exact hL.symm
 iterate 2 (try cbv;repeat ((first|with_reducible apply j6 hA|rw[qL]|refine B8 hA [0,1] h1 ?_|refine B8 hA [0,1] h2 ?_|refine B8 hA [0,1] h3 ?_|refine a9T hA Tryz.func51 rfl (by kernel_rfl) (by kernel_rfl) (by kernel_rfl) ?_);cbv))
 try simp (maxSteps:=4000000) only [nc] at *
 exact hP
theorem d1F {s:ST} {rows:List (List D)} {u v:V} {w nm:ByteArray} {an:Bool} {x0 x z y:Nat->D} {at_ i:Int} {r:Bool} (hi:i≠0) (ho:OvA 35 ⟨#[]⟩ nm 0 an y at_ [cE x] z):∀qa qb qc qd qe qg qh qi qj qk ql qm qo qp qq qt qu qv qw qx qy qz va vc vd ve vf vg vh vj vk vl vm vn vo vq vr vt vu vv vw vx vy,Ar.mk qa qb qc qd qe qg qh qi qj qk ql qm qo qp qq qt qu qv qw qx qy qz va vc vd ve vf vg vh vj vk vl vm vn vo vq vr vt vu vv vw vx vy=j5->E9 (Ar.mk qa qb qc qd qe qg qh qi qj qk ql qm qo qp qq qt qu qv qw qx qy qz va vc vd ve vf vg vh vj vk vl vm vn vo vq vr vt vu vv vw vx vy) (a20 (A7 fnP)) ⟨H5 (H5 (fnT L pl L1 r u v .jk rows x0) 27 (vi .i64 i)) 28 (.ag (C0 [.sc (.string nm),.sc (.bool an),y 0,y 1,y 2,y 3,.sc (.int .i64 at_)])),B4 (fnO T s pl r w x .dead) (.kl [])⟩
  (λe s1=>e=.normal/\a1W (fnO T s pl r w x .dead) s1.o=true/\E9 (Ar.mk qa qb qc qd qe qg qh qi qj qk ql qm qo qp qq qt qu qv qw qx qy qz va vc vd ve vf vg vh vj vk vl vm vn vo vq vr vt vu vv vw vx vy) (a21 (A7 fnP)) ⟨s1.t,B4 s1.o (.kl [])⟩ (λe s2=>e=.normal/\b0x [] [] 9 (fnO T s pl r w x .dead) (fnO T s pl r w z .dead) (w8 s1.o) s2)):=by
 intro qa qb qc qd qe qg qh qi qj qk ql qm qo qp qq qt qu qv qw qx qy qz va vc vd ve vf vg vh vj vk vl vm vn vo vq vr vt vu vv vw vx vy hA;obtain⟨_,_,_⟩:=s;obtain⟨e1,e2,e3,e4,e5,e6,e7,e8,e9⟩:=m6 hA;have q1:qk i 0=false:=by rw[e9];exact d3P hi
 have o0:=ho;exact fin
theorem d1G {s:ST} {rows:List (List D)} {u v:V} {w nm:ByteArray} {an:Bool} {x0 x z y:Nat->D} {at_  : Int} (ho:OvA 35 ⟨#[]⟩ nm 0 an y pl [cE x] z):∀qa qb qc qd qe qg qh qi qj qk ql qm qo qp qq qt qu qv qw qx qy qz va vc vd ve vf vg vh vj vk vl vm vn vo vq vr vt vu vv vw vx vy,Ar.mk qa qb qc qd qe qg qh qi qj qk ql qm qo qp qq qt qu qv qw qx qy qz va vc vd ve vf vg vh vj vk vl vm vn vo vq vr vt vu vv vw vx vy=j5->E9 (Ar.mk qa qb qc qd qe qg qh qi qj qk ql qm qo qp qq qt qu qv qw qx qy qz va vc vd ve vf vg vh vj vk vl vm vn vo vq vr vt vu vv vw vx vy) (a20 (A7 fnP)) ⟨H5 (H5 (fnT L pl L1 false u v .jk rows x0) 27 (vi .i64 0)) 28 (.ag (C0 [.sc (.string nm),.sc (.bool an),y 0,y 1,y 2,y 3,.sc (.int .i64 at_)])),B4 (fnO T s pl false w x .dead) (.kl [])⟩
  (λe s1=>e=.normal/\a1W (fnO T s pl false w x .dead) s1.o=true/\E9 (Ar.mk qa qb qc qd qe qg qh qi qj qk ql qm qo qp qq qt qu qv qw qx qy qz va vc vd ve vf vg vh vj vk vl vm vn vo vq vr vt vu vv vw vx vy) (a21 (A7 fnP)) ⟨s1.t,B4 s1.o (.kl [])⟩ (λe s2=>e=.normal/\b0x [] [] 9 (fnO T s pl false w x .dead) (fnO T s pl false w z .dead) (w8 s1.o) s2)):=by
 intro qa qb qc qd qe qg qh qi qj qk ql qm qo qp qq qt qu qv qw qx qy qz va vc vd ve vf vg vh vj vk vl vm vn vo vq vr vt vu vv vw vx vy hA;obtain⟨_,_,_⟩:=s;obtain⟨e1,e2,e3,e4,e5,e6,e7,e8,e9⟩:=m6 hA;have q1:qk 0 0=true:=by rw[e9];rfl
 have o0:=ho;exact fin
theorem d1H {s:ST} {rows:List (List D)} {u v:V} {w nm:ByteArray} {an:Bool} {x0 x z y:Nat->D} {at_  : Int} (ho:OvA 36 w nm 0 an y pl [cE x] z):∀qa qb qc qd qe qg qh qi qj qk ql qm qo qp qq qt qu qv qw qx qy qz va vc vd ve vf vg vh vj vk vl vm vn vo vq vr vt vu vv vw vx vy,Ar.mk qa qb qc qd qe qg qh qi qj qk ql qm qo qp qq qt qu qv qw qx qy qz va vc vd ve vf vg vh vj vk vl vm vn vo vq vr vt vu vv vw vx vy=j5->E9 (Ar.mk qa qb qc qd qe qg qh qi qj qk ql qm qo qp qq qt qu qv qw qx qy qz va vc vd ve vf vg vh vj vk vl vm vn vo vq vr vt vu vv vw vx vy) (a20 (A7 fnP)) ⟨H5 (H5 (fnT L pl L1 true u v .jk rows x0) 27 (vi .i64 0)) 28 (.ag (C0 [.sc (.string nm),.sc (.bool an),y 0,y 1,y 2,y 3,.sc (.int .i64 at_)])),B4 (fnO T s pl true w x .dead) (.kl [])⟩
  (λe s1=>e=.normal/\a1W (fnO T s pl true w x .dead) s1.o=true/\E9 (Ar.mk qa qb qc qd qe qg qh qi qj qk ql qm qo qp qq qt qu qv qw qx qy qz va vc vd ve vf vg vh vj vk vl vm vn vo vq vr vt vu vv vw vx vy) (a21 (A7 fnP)) ⟨s1.t,B4 s1.o (.kl [])⟩ (λe s2=>e=.normal/\b0x [] [] 9 (fnO T s pl true w x .dead) (fnO T s pl true w z .dead) (w8 s1.o) s2)):=by
 intro qa qb qc qd qe qg qh qi qj qk ql qm qo qp qq qt qu qv qw qx qy qz va vc vd ve vf vg vh vj vk vl vm vn vo vq vr vt vu vv vw vx vy hA;obtain⟨_,_,_⟩:=s;obtain⟨e1,e2,e3,e4,e5,e6,e7,e8,e9⟩:=m6 hA;have q1:qk 0 0=true:=by rw[e9];rfl
 iterate 2 (try cbv;repeat ((first|with_reducible apply j6 hA|rw[q1]|refine rdx hA [] ho ?_|refine E2 hA true ?_|refine a8K hA [] (by kernel_rfl) ?_);cbv))
 try simp (maxSteps:=4000000) only [nc] at *
 repeat' (first
  | (with_reducible apply And.intro)
  | ((with_reducible apply j6 hA);cbv)
  | (refine a9V hA [] ho ⟨rfl,rfl,rfl,rfl,rfl,rfl,rfl⟩ rfl ?_;rintro _ rfl;cbv)
  | (refine E2 hA true ?_;cbv)
  )
theorem c96 {s:ST} {rows:List (List D)} {u v:V} {r:Bool} {w:ByteArray} {x0 z:Nat->D}:∀qa qb qc qd qe qg qh qi qj qk ql qm qo qp qq qt qu qv qw qx qy qz va vc vd ve vf vg vh vj vk vl vm vn vo vq vr vt vu vv vw vx vy,Ar.mk qa qb qc qd qe qg qh qi qj qk ql qm qo qp qq qt qu qv qw qx qy qz va vc vd ve vf vg vh vj vk vl vm vn vo vq vr vt vu vv vw vx vy=j5->E9 (Ar.mk qa qb qc qd qe qg qh qi qj qk ql qm qo qp qq qt qu qv qw qx qy qz va vc vd ve vf vg vh vj vk vl vm vn vo vq vr vt vu vv vw vx vy) fnE ⟨fnT L pl L1 r u v .jk rows x0,B4 (fnO T s pl r w z .dead) (.kl [])⟩
  (λx s2=>c33 2 Tryz.f27.results.toList (λres os=>res=[.ag (C0 (cE z))]/\os=eyT T s) 9 [] x s2):=by
 intro _ _ _ _ _ _ _ _ _ _ _ _ _ _ _ _ _ _ _ _ _ _ _ _ _ _ _ _ _ _ _ _ _ _ _ _ _ _ _ _ _ vx _ hA;obtain⟨_,_,_⟩:=s
 try cbv;refine gr ?_;try simp only[nc] at *
 exact⟨[0,1],[.ag (C0 (cE z))],_,⟨rfl,rfl,rfl,rfl,rfl,rfl,rfl,rfl⟩,rfl,rfl⟩
theorem c6w:c36 77 7:=λh1 h2 h3 h4 h5=>c0f h1 h2 h3 h4 h5
theorem b5g {s0 s1 s2 s3:ST} {r:Bool} {w:ByteArray} {rows:List (List D)} (acc:Nat->Nat->D) (hN:rows.length<=1048576) (hL1:0<=L) (hL2:L<=1048576)
  (hst:∀k,k<rows.length->∃(nm:ByteArray) (an:Bool) (y:Nat->D) (at_:Int),rows[rows.length - 1 - k]?=some [.sc (.string nm),.sc (.bool an),y 0,y 1,y 2,y 3,.sc (.int .i64 at_)] /\
   OvA (if rows.length - 1 - k=0/\r=true then 36 else 35) (if rows.length - 1 - k=0/\r=true then w else ⟨#[]⟩) nm 0 an y (if rows.length - 1 - k=0 then pl else at_) [cE (acc k)] (acc (k+1)))
  (h1:r=false/\w=⟨#[]⟩/\s1=s0\/r=true/\F4 28 [] T s0 [vs w] s1) (h2:F4 50 [vi .i64 L] T s1 [.d (.sl 7 rows)] s2) (h3:F4 12 [vi .i64 (L+1)] T s2 [.ag (C0 (cE (acc 0)))] s3) :
  F4 27 [vi .i64 L,vi .i64 pl,vb r] T s0 [.ag (C0 (cE (acc rows.length)))] s3:=by
 refine a8q (Pre:=λs=>∃u v,s=⟨fnT L pl (L+1) r u v (.cl 77 [8]) rows (acc 0),fnO T s3 pl r w (acc 0) (.box [.d (.sl 7 rows)])⟩) Tryz.func27 d17 d18 d19 d1A ?_ ?_
 ·rcases h1 with⟨rfl,rfl,rfl⟩|⟨rfl,h1⟩
  ·exact c6u hL1 hL2 rfl h2 h3 _ ⟨_,_,rfl⟩ _ _ _ _ _ _ _ _ _ _ _ _ _ _ _ _ _ _ _ _ _ _ _ _ _ _ _ _ _ _ _ _ _ _ _ _ _ _ _ _ _ _ _ rfl
  ·exact c6v hL1 hL2 rfl h1 h2 h3 _ ⟨_,_,rfl⟩ _ _ _ _ _ _ _ _ _ _ _ _ _ _ _ _ _ _ _ _ _ _ _ _ _ _ _ _ _ _ _ _ _ _ _ _ _ _ _ _ _ _ _ rfl
 ·intro I I' g0 g w1 W s a hP h;obtain⟨u,v,rfl⟩:=hP;refine b84 (ks1:=[]) (ks2:=[]) (st:=λk=>fnO T s3 pl r w (acc k) .dead) (rows:=rows) (kb:=8) (gs:=26) c6w (enters_of Tryz.func77 (by kernel_rfl) rfl) d1D d1E h (by decide) rfl rfl (by omega) rfl rfl rfl ?_ ?_
  ·intro k hk;obtain⟨nm,an,y,at_,hr,ho⟩:=hst k hk;have hg:rows.getD (rows.length - 1 - k) []=[.sc (.string nm),.sc (.bool an),y 0,y 1,y 2,y 3,.sc (.int .i64 at_)]:=by rw[d3W,hr];rfl
   rw[hg]
   by_cases hz:rows.length - 1 - k=0
   ·rw[hz] at ho ⊢;cases r with
    | false =>
     rw[d3G (by simp),d3G (by simp),d3I rfl] at ho;exact d1G ho _ _ _ _ _ _ _ _ _ _ _ _ _ _ _ _ _ _ _ _ _ _ _ _ _ _ _ _ _ _ _ _ _ _ _ _ _ _ _ _ _ _ _ rfl
    | true =>
     rw[d3I (by simp),d3I (by simp),d3I rfl] at ho;exact d1H ho _ _ _ _ _ _ _ _ _ _ _ _ _ _ _ _ _ _ _ _ _ _ _ _ _ _ _ _ _ _ _ _ _ _ _ _ _ _ _ _ _ _ _ rfl
   ·rw[d3G (λh=>hz h.1),d3G (λh=>hz h.1),d3G hz] at ho;exact d1F (by omega) ho _ _ _ _ _ _ _ _ _ _ _ _ _ _ _ _ _ _ _ _ _ _ _ _ _ _ _ _ _ _ _ _ _ _ _ _ _ _ _ _ _ _ _ rfl
  ·intro D W1 I1 g1 hD0 hID q3 hd;refine b0A (kl:=[]) d1B d1C q3 hID hD0 hd ?_;exact c96 _ _ _ _ _ _ _ _ _ _ _ _ _ _ _ _ _ _ _ _ _ _ _ _ _ _ _ _ _ _ _ _ _ _ _ _ _ _ _ _ _ _ _ rfl
end
end
section
@[reducible] noncomputable def fdB:Code:=Tryz.f128.body.getD .skip
@[reducible] noncomputable def fdC:List Code:=[P9 fdB,P9 (A7 fdB),P9 (A7 (A7 fdB)),P9 (A7 (A7 (A7 fdB))),P9 (A7 (A7 (A7 (A7 fdB)))),P9 (A7 (A7 (A7 (A7 (A7 fdB))))),P9 (A7 (A7 (A7 (A7 (A7 (A7 fdB))))))]
@[reducible] noncomputable def fdP:Code:=P9 (A7 (A7 (A7 (A7 (A7 (A7 (A7 fdB)))))))
@[reducible] noncomputable def fdE:Code:=A7 (A7 (A7 (A7 (A7 (A7 (A7 (A7 fdB)))))))
theorem d1I:Tryz.f128.body=some (b1j fdC (.seq (.seq (P9 fdP) (.block 2 (.rangeFunc (.tmp 56) #[57,58] (a20 (A7 fdP)) (a21 (A7 fdP))))) fdE)):=by kernel_rfl
theorem d1J:(Tryz.f128.name != "runtime.NumGoroutine")=true:=by kernel_rfl
theorem d1K:fdC.all (y6 Tryz.prog)=true:=by kernel_rfl
theorem d1L:y6 Tryz.prog (P9 fdP)=true:=by kernel_rfl
theorem d1M:y6 Tryz.prog fdE=true:=by kernel_rfl
theorem d1N:T3 Tryz.f128.results.toList=true:=by kernel_rfl
theorem d1O:y6 Tryz.prog (a20 (A7 fdP))=true:=by kernel_rfl
theorem d1P:y6 Tryz.prog (a21 (A7 fdP))=true:=by kernel_rfl
abbrev c13 (w:ByteArray) (p:Int) (x:Nat->D):List D:=.sc (.string w)::.sc (.int .i64 p)::cE x
abbrev E0:ByteArray:=⟨#[61]⟩
abbrev P4:ByteArray:=⟨#[44]⟩
abbrev M7:ByteArray:=⟨#[124]⟩
abbrev Z3:ByteArray:=⟨#[125]⟩
def d1Q (T:List (List D)) (L:Int) (inv:ST->List (List D)->Nat->Prop) (e q a:Int) (R:List (List D)) (m:Nat):Prop:=∃(s3 s4 s5 s6:ST) (p3:Int) (w3:ByteArray) (y:Nat->D) (m2:Nat),F4 26 [vs P4] T (e,q,a) [vb true] s3/\F4 25 [] T s3 [vi .i64 p3] s3/\F4 28 [] T s3 [vs w3] s4/\F4 29 [vs E0] T s4 [] s5/\F4 12 [vi .i64 (L+1)] T s5 [.ag (C0 (cE y))] s6/\inv s6 (R++[c13 w3 p3 y]) m2/\m2<m
def c7H (T:List (List D)) (L:Int) (sf:ST) (z:Nat->D) (e q a:Int):Prop:=∃(s7:ST) (p:Int) (z0:Nat->D),F4 26 [vs P4] T (e,q,a) [vb false] (e,q,a)/\F4 25 [] T (e,q,a) [vi .i64 p] (e,q,a)/\LfN 41 ⟨#[]⟩ 0 p z0/\(F4 26 [vs M7] T (e,q,a) [vb false] (e,q,a)/\s7=(e,q,a)/\z=z0\/∃s6,F4 26 [vs M7] T (e,q,a) [vb true] s6/\F4 12 [vi .i64 (L+1)] T s6 [.ag (C0 (cE z))] s7)/\F4 29 [vs Z3] T s7 [] sf
def fdT (c:V) (u:Nat->V):List V:=[u 0,u 1,u 2,u 3,u 4,u 5,u 6,u 7,.ptr 2 0,u 9,u 10,.ptr 4 0,u 12,u 13,u 14,u 15,u 16,u 17,u 18,u 19,u 20,u 21,u 22,u 23,u 24,u 25,u 26,u 27,u 28,u 29,u 30,u 31,u 32,u 33,u 34,u 35,u 36,u 37,u 38,u 39,u 40,u 41,u 42,u 43,u 44,u 45,u 46,u 47,u 48,u 49,u 50,u 51,u 52,u 53,u 54,u 55,c,u 57,u 58,u 59,u 60,u 61,u 62,u 63,u 64,u 65,u 66,u 67,u 68,u 69]
def fdO (T:List (List D)) (s:ST) (rows:List (List D)) (x:Nat->D) (b:O):List O:=[.box [.ptr 1 0,vi .u8 s.1,vi .i64 s.2.1],.box [.d (.sl 4 T),vi .i64 s.2.2],.box [vi .u8 0,vs ⟨#[]⟩,vs ⟨#[]⟩,vi .i64 0,vb false,vi .u8 0,vs ⟨#[]⟩,vi .i64 0,.em,.em,.em],.row true 160 rows,.box (C0 (cE x)),.dead,b]
section
variable {T:List (List D)} {L pl:Int}
theorem c97 {s0 s1 s2 sf:ST} {w:ByteArray} {x z:Nat->D} {Rf:List (List D)} {m0:Nat} (hL1:0<=L) (hL2:L<=1048576) (inv:ST->List (List D)->Nat->Prop) (h0:F4 29 [vs E0] T s0 [] s1) (h1:F4 12 [vi .i64 (L+1)] T s1 [.ag (C0 (cE x))] s2) (hi0:inv s2 [c13 w pl x] m0)
  (hst:∀(e q a:Int) (R:List (List D)) (m:Nat),inv (e,q,a) R m->R.length<1048576/\(d1Q T L inv e q a R m\/c7H T L sf z e q a/\R=Rf)) (P:S->Prop) (hP:∀tt,tt=fdT (.cl 136 [6]) (y8 tt)->P ⟨tt,fdO T sf Rf z (.box [.d (.sl 13 Rf)])⟩) :
  ∀qa qb qc qd qe qg qh qi qj qk ql qm qo qp qq qt qu qv qw qx qy qz va vc vd ve vf vg vh vj vk vl vm vn vo vq vr vt vu vv vw vx vy,Ar.mk qa qb qc qd qe qg qh qi qj qk ql qm qo qp qq qt qu qv qw qx qy qz va vc vd ve vf vg vh vj vk vl vm vn vo vq vr vt vu vv vw vx vy=j5->E9 (Ar.mk qa qb qc qd qe qg qh qi qj qk ql qm qo qp qq qt qu qv qw qx qy qz va vc vd ve vf vg vh vj vk vl vm vn vo vq vr vt vu vv vw vx vy) (b1j fdC (P9 fdP)) (a3a [.ptr 0 0,vi .i64 L,vi .i64 pl,vs w] (eyT T s0) (Tryz.f128.ntmps - G7 [V.ptr 0 0,vi .i64 L,vi .i64 pl,vs w])) (λx s=>x=.normal/\P s):=by
 intro qa qb qc qd qe qg qh qi qj qk ql qm qo qp qq qt qu qv qw qx qy qz va vc vd ve vf vg vh vj vk vl vm vn vo vq vr vt vu vv vw vx vy hA;obtain⟨_,_,_⟩:=s0;obtain⟨_,_,_⟩:=s1;obtain⟨a2,b2,d2⟩:=s2;obtain⟨_,_,_⟩:=sf;obtain⟨L1,hL⟩:∃L1,L1=L+1:=⟨_,rfl⟩;rw[<-hL] at h1;obtain⟨e1,e2,e3,e4,e5,e6,e7,e8,e9⟩:=m6 hA;obtain⟨r1,r2,r3,r4⟩:=B3 hA;have qL:qa .i64 (qb L 1)=L1:=by rw[e1,e2,IntWalk.i64_in _ (by omega)];exact hL.symm
 iterate 2 (try cbv;repeat ((first|with_reducible apply j6 hA|rw[qL]|refine B8 hA [0,1] h0 ?_|refine B8 hA [0,1] h1 ?_|refine E2 hA false ?_|refine a3c hA true ?_);cbv))
 try simp (maxSteps:=4000000) only [nc] at *
 refine n9 hA (γ:=ST×List (List D)×Nat) (λx=>[(9,.own 3),(10,.jk),(23,.jk)]) (λx=>[(0,.box [.ptr 1 0,vi .u8 x.1.1,vi .i64 x.1.2.1]),(1,.box [.d (.sl 4 T),vi .i64 x.1.2.2]),(3,.row true 160 x.2.1)]) (λx=>inv x.1 x.2.1 x.2.2) (λx=>x.2.2) ((a2,b2,d2),[c13 w pl x],m0) ?_ ?_ ?_
 ·exact hi0
 ·cbv
 ·intro x hinv;obtain⟨⟨e,q,a⟩,R,m⟩:=x;obtain⟨hlen,hs⟩:=hst e q a R m hinv
  rcases hs with⟨s3,s4,s5,s6,p3,w3,y,m2,k1,k2,k3,k4,k5,hi2,hm2⟩|⟨⟨s7,p,z0,k1,k2,k3,k4,k5⟩,hR⟩
  ·obtain⟨_,_,_⟩:=s3;obtain⟨_,_,_⟩:=s4;obtain⟨_,_,_⟩:=s5;obtain⟨a6,b6,d6⟩:=s6;rw[<-hL] at k5;have g3:ve R [c13 w3 p3 y]=R++[c13 w3 p3 y]:=by rw[r4]
   obtain⟨R2,hR2⟩:∃R2,R2=R++[c13 w3 p3 y]:=⟨_,rfl⟩;rw[<-hR2] at g3 hi2
   iterate 2 (try cbv;repeat ((first|with_reducible apply j6 hA|rw[g3]|rw[qL]|refine B8 hA [0,1] k1 ?_|refine B8 hA [0,1] k2 ?_|refine B8 hA [0,1] k3 ?_|refine B8 hA [0,1] k4 ?_|refine B8 hA [0,1] k5 ?_|refine E2 hA true ?_|(refine F3 hA (by simp only[d3O,d3Y];omega) ?_));cbv))
   try simp (maxSteps:=4000000) only [nc] at *
   refine⟨((a6,b6,d6),R2,m2),hi2,hm2,?_⟩;cbv
  ·subst hR;obtain⟨_,_,_⟩:=s7
   rcases k4 with⟨k4,hs7,rfl⟩|⟨s6,k4,k6⟩
   ·injection hs7 with f1 f2;injection f2 with f2 f3;subst f1 f2 f3
    iterate 2 (try cbv;repeat ((first|refine a3z hA 9 3 (.sl 13 R) rfl rfl ?_|with_reducible apply j6 hA|refine B8 hA [0,1] k1 ?_|refine B8 hA [0,1] k2 ?_|refine B8 hA [0,1] k4 ?_|refine B8 hA [0,1] k5 ?_|refine rdx hA [] k3 ?_|refine a9T hA Tryz.func134 rfl (by kernel_rfl) (by kernel_rfl) (by kernel_rfl) ?_);cbv))
    try simp (maxSteps:=4000000) only [nc] at *
    exact hP _ rfl
   ·obtain⟨_,_,_⟩:=s6;rw[<-hL] at k6
    iterate 2 (try cbv;repeat ((first|refine a3z hA 9 3 (.sl 13 R) rfl rfl ?_|with_reducible apply j6 hA|rw[qL]|refine B8 hA [0,1] k1 ?_|refine B8 hA [0,1] k2 ?_|refine B8 hA [0,1] k4 ?_|refine B8 hA [0,1] k6 ?_|refine B8 hA [0,1] k5 ?_|refine rdx hA [] k3 ?_|refine a9T hA Tryz.func134 rfl (by kernel_rfl) (by kernel_rfl) (by kernel_rfl) ?_);cbv))
    try simp (maxSteps:=4000000) only [nc] at *
    exact hP _ rfl
theorem c38 {s:ST} {rows:List (List D)} {u:Nat->V} {nm:ByteArray} {x z y:Nat->D} {at_ i:Int} (ho:OvN 42 nm ⟨#[]⟩ 0 false at_ [cE y,cE x] z):∀qa qb qc qd qe qg qh qi qj qk ql qm qo qp qq qt qu qv qw qx qy qz va vc vd ve vf vg vh vj vk vl vm vn vo vq vr vt vu vv vw vx vy,Ar.mk qa qb qc qd qe qg qh qi qj qk ql qm qo qp qq qt qu qv qw qx qy qz va vc vd ve vf vg vh vj vk vl vm vn vo vq vr vt vu vv vw vx vy=j5->E9 (Ar.mk qa qb qc qd qe qg qh qi qj qk ql qm qo qp qq qt qu qv qw qx qy qz va vc vd ve vf vg vh vj vk vl vm vn vo vq vr vt vu vv vw vx vy) (a20 (A7 fdP)) ⟨H5 (H5 (fdT .jk u) 57 (vi .i64 i)) 58 (.ag (C0 (c13 nm at_ y))),B4 (fdO T s rows x .dead) (.kl [])⟩
  (λe s1=>e=.normal/\a1W (fdO T s rows x .dead) s1.o=true/\E9 (Ar.mk qa qb qc qd qe qg qh qi qj qk ql qm qo qp qq qt qu qv qw qx qy qz va vc vd ve vf vg vh vj vk vl vm vn vo vq vr vt vu vv vw vx vy) (a21 (A7 fdP)) ⟨s1.t,B4 s1.o (.kl [])⟩ (λe s2=>e=.normal/\b0x [] [] 7 (fdO T s rows x .dead) (fdO T s rows z .dead) (w8 s1.o) s2)):=by
 intro _ _ _ _ _ _ _ _ _ _ _ _ _ _ _ _ _ _ _ _ _ _ _ _ _ _ _ _ _ _ _ _ _ _ _ _ _ _ _ _ _ vx _ hA;obtain⟨_,_,_⟩:=s;have o0:=ho;exact fin
theorem c98 {s:ST} {rows:List (List D)} {u:Nat->V} {z:Nat->D}:∀qa qb qc qd qe qg qh qi qj qk ql qm qo qp qq qt qu qv qw qx qy qz va vc vd ve vf vg vh vj vk vl vm vn vo vq vr vt vu vv vw vx vy,Ar.mk qa qb qc qd qe qg qh qi qj qk ql qm qo qp qq qt qu qv qw qx qy qz va vc vd ve vf vg vh vj vk vl vm vn vo vq vr vt vu vv vw vx vy=j5->E9 (Ar.mk qa qb qc qd qe qg qh qi qj qk ql qm qo qp qq qt qu qv qw qx qy qz va vc vd ve vf vg vh vj vk vl vm vn vo vq vr vt vu vv vw vx vy) fdE ⟨fdT .jk u,B4 (fdO T s rows z .dead) (.kl [])⟩
  (λx s2=>c33 2 Tryz.f128.results.toList (λres os=>res=[.ag (C0 (cE z))]/\os=eyT T s) 7 [] x s2):=by
 intro _ _ _ _ _ _ _ _ _ _ _ _ _ _ _ _ _ _ _ _ _ _ _ _ _ _ _ _ _ _ _ _ _ _ _ _ _ _ _ _ _ vx _ hA;obtain⟨_,_,_⟩:=s
 try cbv;refine gr ?_;try simp only[nc] at *
 exact⟨[0,1],[.ag (C0 (cE z))],_,⟨rfl,rfl,rfl,rfl,rfl,rfl,rfl,rfl⟩,rfl,rfl⟩
theorem c6z:c36 136 13:=λh1 h2 h3 h4 h5=>c0h h1 h2 h3 h4 h5
theorem c0j {s0 s1 s2 sf:ST} {w:ByteArray} {x:Nat->D} {Rf:List (List D)} {m0:Nat} (acc:Nat->Nat->D) (hN:Rf.length<=1048576) (hL1:0<=L) (hL2:L<=1048576) (inv:ST->List (List D)->Nat->Prop) (h0:F4 29 [vs E0] T s0 [] s1) (h1:F4 12 [vi .i64 (L+1)] T s1 [.ag (C0 (cE x))] s2) (hi0:inv s2 [c13 w pl x] m0)
  (hst:∀(e q a:Int) (R:List (List D)) (m:Nat),inv (e,q,a) R m->R.length<1048576/\(d1Q T L inv e q a R m\/c7H T L sf (acc 0) e q a/\R=Rf))
  (hR:∀k,k<Rf.length->∃(nm:ByteArray) (at_:Int) (y:Nat->D),Rf[Rf.length - 1 - k]?=some (c13 nm at_ y)/\OvN 42 nm ⟨#[]⟩ 0 false at_ [cE y,cE (acc k)] (acc (k+1))) :
  F4 128 [vi .i64 L,vi .i64 pl,vs w] T s0 [.ag (C0 (cE (acc Rf.length)))] sf:=by
 refine a8q (Pre:=λs=>∃tt,tt=fdT (.cl 136 [6]) (y8 tt)/\s=⟨tt,fdO T sf Rf (acc 0) (.box [.d (.sl 13 Rf)])⟩) Tryz.func128 d1I d1J d1K d1L ?_ ?_
 ·exact c97 hL1 hL2 inv h0 h1 hi0 hst _ (λtt h=>⟨tt,h,rfl⟩) _ _ _ _ _ _ _ _ _ _ _ _ _ _ _ _ _ _ _ _ _ _ _ _ _ _ _ _ _ _ _ _ _ _ _ _ _ _ _ _ _ _ _ rfl
 ·intro I I' g0 g w1 W s a hP h;obtain⟨tt,htt,rfl⟩:=hP;obtain⟨u,hu⟩:∃u,u=y8 tt:=⟨_,rfl⟩;rw[<-hu] at htt;subst htt;refine b84 (ks1:=[]) (ks2:=[]) (st:=λk=>fdO T sf Rf (acc k) .dead) (rows:=Rf) (kb:=6) (gs:=56) (t:=fdT .jk u) c6z (enters_of Tryz.func136 (by kernel_rfl) rfl) d1O d1P h (by decide) rfl rfl (by omega) rfl rfl rfl ?_ ?_
  ·intro k hk;obtain⟨nm,at_,y,hr,ho⟩:=hR k hk;have hg:Rf.getD (Rf.length - 1 - k) []=c13 nm at_ y:=by rw[d3W,hr];rfl
   rw[hg];exact c38 ho _ _ _ _ _ _ _ _ _ _ _ _ _ _ _ _ _ _ _ _ _ _ _ _ _ _ _ _ _ _ _ _ _ _ _ _ _ _ _ _ _ _ _ rfl
  ·intro D W1 I1 g1 hD0 hID q3 hd;refine b0A (kl:=[]) d1M d1N q3 hID hD0 hd ?_;exact c98 _ _ _ _ _ _ _ _ _ _ _ _ _ _ _ _ _ _ _ _ _ _ _ _ _ _ _ _ _ _ _ _ _ _ _ _ _ _ _ _ _ _ _ rfl
end
end
def fnW (pl:Int) (r:Bool) (w:ByteArray) (x:PL):Bool->List Pm->PL
 | _,[]=>x
 | f,m::l=>C9 (if f=true/\r=true then 36 else 35) (if f=true/\r=true then w else ⟨#[]⟩) m.1 0 m.2.1 m.2.2.1 (if f=true then pl else m.2.2.2) [fnW pl r w x false l]
theorem a8R {pl:Int} {r:Bool} {w:ByteArray} {x:PL}:∀(f:Bool) (l:List Pm),(fnW pl r w x f l).2.length=l.length+x.2.length
 | _,[]=>by rw[fnW,d3Y,d4L]
 | f,m::l=>by
  rw[fnW];unfold C9;simp only[d4m,d4t,d4d,d3O];rw[a8R false l];omega
def b0B (pl:Int) (r:Bool) (w:ByteArray) (x:PL) (l:List Pm) (k:Nat):PL:=fnW pl r w x (decide (k=l.length)) (l.drop (l.length - k))
theorem c0k {pl:Int} {r:Bool} {w:ByteArray} {x:PL} {l:List Pm} {k:Nat} {m:Pm} (hk:k<l.length) (hm:l[l.length - 1 - k]?=some m):b0B pl r w x l (k+1)=C9 (if l.length - 1 - k=0/\r=true then 36 else 35) (if l.length - 1 - k=0/\r=true then w else ⟨#[]⟩) m.1 0 m.2.1 m.2.2.1 (if l.length - 1 - k=0 then pl else m.2.2.2) [b0B pl r w x l k]:=by
 have h1:l.length - (k+1)<l.length:=by omega
 have e1:l.length - 1 - k=l.length - (k+1):=by omega
 rw[e1,d3H h1] at hm
 have hd:l.drop (l.length - (k+1))=m::l.drop (l.length - k):=by
  rw[d4c h1,Option.some.inj hm,show l.length - (k+1)+1=l.length - k by omega]
 have ef:decide (k=l.length)=false:=d3P (by omega);unfold b0B;rw[hd,fnW,ef]
 by_cases hz:l.length - 1 - k=0
 ·rw[show decide (k+1=l.length)=true from d3S (by omega),hz]
  simp
 ·rw[show decide (k+1=l.length)=false from d3P (by omega)]
  simp[hz]
def G4 (ts:List Tok) (n:Nat) (ex:PF) (pl:Int) (r:Bool) (p:PE):PL×PE :=
 (fnW pl r (if r=true then (j7 ts p).1 else ⟨#[]⟩) (ex (G0 ts n (if r=true then (j7 ts p).2 else p)).2).1 true (G0 ts n (if r=true then (j7 ts p).2 else p)).1,(ex (G0 ts n (if r=true then (j7 ts p).2 else p)).2).2)
theorem b0C {ts:List Tok} (hE:y5 ts) (n:Nat) (p0:Nat):∀(k:Nat) (s:List Pm×PE),s.2.1<ts.length->p0<=s.2.1->s.1.length+p0<=s.2.1+1->(s.2.2=0->s.1.length+p0<=s.2.1)->(E4 ts n k s).2.1<ts.length/\p0<=(E4 ts n k s).2.1/\(E4 ts n k s).1.length+p0<=(E4 ts n k s).2.1+1/\((E4 ts n k s).2.2=0->s.2.2=0/\(E4 ts n k s).1.length+p0<=(E4 ts n k s).2.1)
 | 0,s,h1,h2,h3,h4=>⟨h1,h2,h3,λh=>⟨h,h4 h⟩⟩
 | k+1,s,h1,h2,h3,h4=>by
  rw[E4]
  split
  ·rename_i hc;obtain⟨a1,a2,a3⟩:=Y8 hE n h1;have h5:=h4 hc.1;obtain⟨b1,b2,b3,b4⟩:=b0C hE n p0 k (s.1++[(A6 ts n s.2).1],(A6 ts n s.2).2) a1 (by show p0<=(A6 ts n s.2).2.1;omega) (by simp only[d3K,d3O,d3Y];omega) (λh=>by have:=(a3 h).2;simp only[d3K,d3O,d3Y];omega);exact⟨b1,b2,b3,λh=>⟨hc.1,(b4 h).2⟩⟩
  ·exact⟨h1,h2,h3,λh=>⟨h,h4 h⟩⟩
theorem a0G {ts:List Tok} (hE:y5 ts) (n:Nat) {p:PE} (hp:p.1<ts.length):(G0 ts n p).2.1<ts.length/\p.1<=(G0 ts n p).2.1/\(G0 ts n p).1.length+p.1<=(G0 ts n p).2.1+1/\((G0 ts n p).2.2=0->p.2=0/\(G0 ts n p).1.length+p.1+1<=(G0 ts n p).2.1):=by
 obtain⟨a1,a2,a3⟩:=Y8 hE n hp;obtain⟨b1,b2,b3,b4⟩:=b0C hE n p.1 ts.length ([(A6 ts n p).1],(A6 ts n p).2) a1 a2 (by simp only[d3O,d3Y];omega) (λh=>by have:=(a3 h).2;simp only[d3O,d3Y];omega);unfold G0;generalize E4 ts n ts.length ([(A6 ts n p).1],(A6 ts n p).2)=rr at *;obtain⟨c1,c2,c3⟩:=l8 (s:=a0h) hE b1;refine⟨c1,by simp only;omega,by simp only;omega,λh=>?_⟩;obtain⟨d1,d2⟩:=c3 h;obtain⟨f1,f2⟩:=b4 d1;exact⟨(a3 f1).1,by simp only;omega⟩
theorem b2o {ts:List Tok} (hE:y5 ts) (n:Nat) {ex:PF} (hf:E3 ts ex) (he:∀p:PE,p.2≠0->ex p=(zPL,p)) (pl:Int) (r:Bool) {p:PE} (hp:p.1<ts.length):FitP ts p (G4 ts n ex pl r p):=by
 have hq:(if r=true then (j7 ts p).2 else p).1<ts.length/\p.1<=(if r=true then (j7 ts p).2 else p).1/\((if r=true then (j7 ts p).2 else p).2=0->p.2=0):=by
  cases r with
  | true =>
   obtain⟨b1,b2,b3⟩:=r8 hE hp;exact⟨b1,b2,λh=>(b3 h).1⟩
  | false=>exact⟨hp,d3Q _,λh=>h⟩
 unfold G4;generalize (if r=true then (j7 ts p).2 else p)=q at *;obtain⟨q1,q2,q3⟩:=hq;obtain⟨a1,a2,a3,a4⟩:=a0G hE n q1;generalize G0 ts n q=ps at *;have hb:=hf ps.2 a1;have hl:=hb.lo;have hs:=hb.sz;refine⟨by simp only;omega,hb.hi,?_,λh=>?_⟩
 ·simp only;rw[a8R]
  by_cases h0:ps.2.2=0
  ·have:=(a4 h0).2;omega
  ·rw[he _ h0];show ps.1.length+0+2 * p.1<=2 * ps.2.1+2;omega
 ·obtain⟨h0,h2⟩:=hb.ok h;obtain⟨h3,h4⟩:=a4 h0;refine⟨q3 h3,?_⟩;simp only;rw[a8R];omega
theorem b0D {ts:List Tok} (hE:y5 ts) (hN:a0c ts) (hl:ts.length<=65537) (n:Nat) (L:Int) (hv:a27 n L) (hL:L<=1048575) {ex:PF} (hf:E3 ts ex) (hx:∀p:PE,p.1<ts.length->N2 12 [vi .i64 (L+1)] ts p [.ag (C0 (cP (ex p).1))] (ex p).2) (pl:Int) (r:Bool) {p:PE} (hp:p.1<ts.length) :
  N2 27 [vi .i64 L,vi .i64 pl,vb r] ts p [.ag (C0 (cP (G4 ts n ex pl r p).1))] (G4 ts n ex pl r p).2:=by
 have hl2:ts.length<=1048576:=by omega
 obtain⟨q,hq⟩:∃q,q=(if r=true then (j7 ts p).2 else p):=⟨_,rfl⟩;obtain⟨w,hw⟩:∃w,w=(if r=true then (j7 ts p).1 else ⟨#[]⟩):=⟨_,rfl⟩
 have hq1:q.1<ts.length:=by
  rw[hq];cases r with
  | true=>exact(r8 hE hp).1
  | false=>exact hp
 have hw1:r=false/\w=⟨#[]⟩/\stP ts q=stP ts p\/r=true/\F4 28 [] (P6 ts) (stP ts p) [vs w] (stP ts q):=by
  cases r with
  | true=>exact .inr ⟨rfl,by rw[hw,hq];exact a1S hl2 hp⟩
  | false=>exact .inl ⟨rfl,by rw[hw];rfl,by rw[hq];rfl⟩
 unfold G4;rw[<-hq,<-hw];obtain⟨a1,a2,a3,a4⟩:=a0G hE n hq1;have hps:=c32 hE hN hl n L hv hL hq1;generalize G0 ts n q=ps at *;have hex:=hx ps.2 a1;have hb:=hf ps.2 a1;have hbs:=hb.sz;have hbh:=hb.hi;obtain⟨acc,hacc⟩:∃acc:Nat->Nat->D,∀k,cP (b0B pl r w (ex ps.2).1 ps.1 k)=cE (acc k):=⟨λk=>(F5 _).choose,λk=>(F5 _).choose_spec⟩
 have h0:b0B pl r w (ex ps.2).1 ps.1 0=(ex ps.2).1:=by
  unfold b0B;rw[d4w (by omega),fnW]
 have hlast:fnW pl r w (ex ps.2).1 true ps.1=b0B pl r w (ex ps.2).1 ps.1 ps.1.length:=by
  unfold b0B;rw[d4V,d5b,d3S rfl]
 unfold N2 at hex hps ⊢;rw[hlast,hacc];rw[<-h0,hacc] at hex;have hlen:(ps.1.map cPm).length=ps.1.length:=d4g ..
 have key:=b5g (T:=P6 ts) (L:=L) (pl:=pl) (s1:=stP ts q) (s3:=stP ts (ex ps.2).2) (r:=r) (w:=w) (rows:=ps.1.map cPm) acc (by rw[hlen];omega) (a4f hv hL).1 (a4f hv hL).2 (λk hk=>by
  rw[hlen] at hk ⊢;obtain⟨m,hm⟩:∃m,ps.1[ps.1.length - 1 - k]?=some m:=⟨_,d3H (by omega)⟩;obtain⟨y,hy⟩:=b49 m.2.2.1;refine⟨m.1,m.2.1,y,m.2.2.2,by rw[d4p,hm];unfold cPm;rw[d5c,hy];rfl,?_⟩
  have ho:=c3h (if ps.1.length - 1 - k=0/\r=true then 36 else 35) (if ps.1.length - 1 - k=0/\r=true then w else ⟨#[]⟩) m.1 0 m.2.1 m.2.2.1 y hy (if ps.1.length - 1 - k=0 then pl else m.2.2.2) [b0B pl r w (ex ps.2).1 ps.1 k] (by simp) (by
   simp only[d4m,d4t,d4d];unfold b0B;rw[a8R,d4l]
   omega)
  rw[<-c0k hk hm,hacc,show rP [b0B pl r w (ex ps.2).1 ps.1 k]=[cE (acc k)] by unfold rP;rw[d4a,d47,hacc]] at ho
  exact ho) hw1 hps hex
 rw[hlen] at key;exact key
abbrev Fd:=ByteArray×Int×PL
def cFd (f:Fd):List D:=.sc (.string f.1)::.sc (.int .i64 f.2.1)::cP f.2.2
def fdW (x:PL):List Fd->PL
 | []=>x
 | f::l=>C9 42 f.1 ⟨#[]⟩ 0 false v8 f.2.1 [f.2.2,fdW x l]
def fdN:List Fd->Nat
 | []=>0
 | f::l=>1+f.2.2.2.length+fdN l
theorem b5h (f:Fd):∀l:List Fd,fdN (l++[f])=fdN l+(1+f.2.2.2.length)
 | []=>by simp[fdN]
 | x::l=>by rw[d43,fdN,fdN,b5h f l];omega
theorem b5i:∀(l:List Fd) (n:Nat),fdN (l.drop n)<=fdN l
 | [],n=>by simp
 | x::l,0=>d3Q _
 | x::l,n+1=>by
  rw[List.drop_succ_cons,fdN];have:=b5i l n;omega
theorem a5j {x:PL}:∀l:List Fd,(fdW x l).2.length=fdN l+x.2.length
 | []=>by rw[fdW,fdN,d4L]
 | f::l=>by
  rw[fdW,fdN];unfold C9;simp only[d4m,d4t,d4d,d3O,d3K];rw[a5j l];omega
def C2 (ts:List Tok) (ex:PF):Nat->List Fd×PE->List Fd×PE
 | 0,s=>s
 | k+1,s=>if B1 ts P4 s.2=true then C2 ts ex k (s.1++[((j7 ts (s.2.1+1,0)).1,(r9 ts (s.2.1+1)).at_,(ex (l6 ts E0 (j7 ts (s.2.1+1,0)).2)).1)],(ex (l6 ts E0 (j7 ts (s.2.1+1,0)).2)).2) else s
theorem b6E {ts:List Tok} {ex:PF} {s:List Fd×PE} (h:B1 ts P4 s.2=false):∀k,C2 ts ex k s=s
 | 0=>rfl
 | k+1=>by rw[C2,d3G (by rw[h];decide)]
def H9 (ts:List Tok) (ex:PF) (p:PE):PL×PE:=if B1 ts M7 p=true then ex (p.1+1,0) else (a1L 41 ⟨#[]⟩ 0 (r9 ts p.1).at_,p)
abbrev a6e (ts:List Tok) (ex:PF) (pl:Int) (w:ByteArray) (p:PE):List Fd×PE:=C2 ts ex ts.length ([(w,pl,(ex (l6 ts E0 p)).1)],(ex (l6 ts E0 p)).2)
def T9 (ts:List Tok) (ex:PF) (pl:Int) (w:ByteArray) (p:PE):PL×PE:=(fdW (H9 ts ex (a6e ts ex pl w p).2).1 (a6e ts ex pl w p).1,l6 ts Z3 (H9 ts ex (a6e ts ex pl w p).2).2)
def SzF (ts:List Tok) (p0:Nat) (s:List Fd×PE):Prop:=s.2.1<ts.length/\p0<=s.2.1/\fdN s.1+2 * p0<=2 * s.2.1+1/\(s.2.2=0->fdN s.1+2 * p0+2<=2 * s.2.1)
theorem o9 {ts:List Tok} {s:ByteArray} {p:PE} (hE:y5 ts) (hp:p.1<ts.length) (h:B1 ts s p=true):p.1+1<ts.length/\p.2=0:=by
 have h1:=b08 hE hp h;exact⟨by have:=h1.1;have:=h1.2.1;omega,h1.2.2⟩
theorem b86 {ts:List Tok} (hE:y5 ts) {ex:PF} (hf:E3 ts ex) (he:∀p:PE,p.2≠0->ex p=(zPL,p)) {p0:Nat} {s:List Fd×PE} (hs:SzF ts p0 s) (h:B1 ts P4 s.2=true):SzF ts p0 (s.1++[((j7 ts (s.2.1+1,0)).1,(r9 ts (s.2.1+1)).at_,(ex (l6 ts E0 (j7 ts (s.2.1+1,0)).2)).1)],(ex (l6 ts E0 (j7 ts (s.2.1+1,0)).2)).2)/\s.2.1+1<=(ex (l6 ts E0 (j7 ts (s.2.1+1,0)).2)).2.1:=by
 obtain⟨h1,h2,h3,h4⟩:=hs;obtain⟨k1,k2⟩:=o9 hE h1 h;have h4:=h4 k2;obtain⟨b1,b2,b3⟩:=r8 hE (p:=(s.2.1+1,0)) k1;obtain⟨c1,c2,c3⟩:=l8 (s:=E0) hE b1;generalize (j7 ts (s.2.1+1,0)).1=w at *;generalize (j7 ts (s.2.1+1,0)).2=q at *;generalize l6 ts E0 q=r at *;have hb:=hf r c1;have l1:=hb.lo;have l2:=hb.sz;have l3:=hb.hi;have l4:=hb.ok;simp only at b2 b3;unfold SzF;rw[b5h];simp only;refine⟨⟨l3,by omega,?_,λh0=>?_⟩,by omega⟩
 ·by_cases h0:r.2=0
  ·have:=c3 h0;have:=b3 this.1;omega
  ·rw[he r h0];show fdN s.1+(1+0)+2 * p0<=2 * r.1+1;omega
 ·have:=l4 h0;have:=c3 this.1;omega
theorem a6f {ts:List Tok} (hE:y5 ts) {ex:PF} (hf:E3 ts ex) (he:∀p:PE,p.2≠0->ex p=(zPL,p)) (p0:Nat):∀(k:Nat) (s:List Fd×PE),SzF ts p0 s->SzF ts p0 (C2 ts ex k s)/\((C2 ts ex k s).2.2=0->s.2.2=0)
 | 0,s,hs=>⟨hs,λh=>h⟩
 | k+1,s,hs=>by
  rw[C2]
  split
  ·rename_i h;exact⟨(a6f hE hf he p0 k _ (b86 hE hf he hs h).1).1,λ_=>(o9 hE hs.1 h).2⟩
  ·exact⟨hs,λh=>h⟩
theorem c39 {ts:List Tok} (hE:y5 ts) {ex:PF} (hf:E3 ts ex) (he:∀p:PE,p.2≠0->ex p=(zPL,p)) (pl:Int) (w:ByteArray) {p:PE} (hp:p.1<ts.length):SzF ts p.1 ([(w,pl,(ex (l6 ts E0 p)).1)],(ex (l6 ts E0 p)).2)/\((ex (l6 ts E0 p)).2.2=0->p.2=0):=by
 obtain⟨c1,c2,c3⟩:=l8 (s:=E0) hE hp;generalize l6 ts E0 p=r at *;have hb:=hf r c1;have l1:=hb.lo;have l2:=hb.sz;have l3:=hb.hi;have l4:=hb.ok;unfold SzF;rw[fdN,fdN];simp only;refine⟨⟨l3,by omega,?_,λh0=>?_⟩,λh0=>(c3 (l4 h0).1).1⟩
 ·by_cases h0:r.2=0
  ·have:=c3 h0;omega
  ·rw[he r h0];show 1+0+0+2 * p.1<=2 * r.1+1;omega
 ·have:=l4 h0;have:=c3 this.1;omega
theorem b5j {ts:List Tok} (hE:y5 ts) {ex:PF} (hf:E3 ts ex) (he:∀p:PE,p.2≠0->ex p=(zPL,p)) (pl:Int) (w:ByteArray) {p:PE} (hp:p.1<ts.length):FitP ts p (T9 ts ex pl w p):=by
 obtain⟨a1,a2⟩:=c39 hE hf he pl w hp;have hB:=a6f hE hf he p.1 ts.length _ a1;obtain⟨s,hs⟩:∃s,s=C2 ts ex ts.length ([(w,pl,(ex (l6 ts E0 p)).1)],(ex (l6 ts E0 p)).2):=⟨_,rfl⟩;have e:T9 ts ex pl w p=(fdW (H9 ts ex s.2).1 s.1,l6 ts Z3 (H9 ts ex s.2).2):=by rw[hs];rfl
 rw[<-hs] at hB;rw[e];obtain⟨⟨b1,b2,b3,b4⟩,b5⟩:=hB;unfold H9
 split
 ·rename_i h;obtain⟨k1,k2⟩:=o9 hE b1 h;have hb:=hf (s.2.1+1,0) k1;have l1:=hb.lo;have l2:=hb.sz;have l3:=hb.hi;have l4:=hb.ok;simp only at l1 l2 l4;obtain⟨c1,c2,c3⟩:=l8 (s:=Z3) hE l3;have b4:=b4 k2;refine⟨by simp only;omega,c1,by simp only;rw[a5j];omega,λh0=>⟨a2 (b5 k2),?_⟩⟩;simp only at h0 ⊢;rw[a5j];obtain⟨d1,d2⟩:=c3 h0;have:=(l4 d1).2;omega
 ·obtain⟨c1,c2,c3⟩:=l8 (s:=Z3) hE b1;refine⟨by simp only;omega,c1,by simp only;rw[a5j];show fdN s.1+1+2 * p.1<=_;omega,λh0=>?_⟩;simp only at h0 ⊢;obtain⟨d1,d2⟩:=c3 h0;have:=b4 d1;rw[a5j];exact⟨a2 (b5 d1),by show fdN s.1+1+2 * p.1+1<=_;omega⟩
def c7K (ts:List Tok) (ex:PF) (p0:Nat) (rr:List Fd×PE) (s:ST) (R:List (List D)) (m:Nat):Prop:=∃(l:List Fd) (p:PE) (k:Nat),s=stP ts p/\R=l.map cFd/\SzF ts p0 (l,p)/\l.length<=p.1+1/\(p.2=0->ts.length - p.1<=k)/\m=ts.length - p.1/\rr=C2 ts ex k (l,p)
theorem b87:∀l:List Fd,l.length<=fdN l
 | []=>d3Q _
 | f::l=>by rw[fdN,d3O];have:=b87 l;omega
abbrev b0E (x:PL) (l:List Fd) (k:Nat):PL:=fdW x (l.drop (l.length - k))
theorem b2p {x:PL} {l:List Fd} {k:Nat} {f:Fd} (hk:k<l.length) (hf:l[l.length - 1 - k]?=some f):b0E x l (k+1)=C9 42 f.1 ⟨#[]⟩ 0 false v8 f.2.1 [f.2.2,b0E x l k]:=by
 have h1:l.length - (k+1)<l.length:=by omega
 have e1:l.length - 1 - k=l.length - (k+1):=by omega
 rw[e1,d3H h1] at hf
 have hd:l.drop (l.length - (k+1))=f::l.drop (l.length - k):=by
  rw[d4c h1,Option.some.inj hf,show l.length - (k+1)+1=l.length - k by omega]
 unfold b0E;rw[hd,fdW]
theorem c3A {ts:List Tok} (hE:y5 ts) (hl:ts.length<=65537) {L:Int} (hL1:0<=L) (hL2:L<=1048576) {ex:PF} (hf:E3 ts ex) (he:∀p:PE,p.2≠0->ex p=(zPL,p)) (hx:∀p:PE,p.1<ts.length->N2 12 [vi .i64 (L+1)] ts p [.ag (C0 (cP (ex p).1))] (ex p).2) (pl:Int) (w:ByteArray) {p:PE} (hp:p.1<ts.length) :
  N2 128 [vi .i64 L,vi .i64 pl,vs w] ts p [.ag (C0 (cP (T9 ts ex pl w p).1))] (T9 ts ex pl w p).2:=by
 have hl2:ts.length<=1048576:=by omega
 obtain⟨a1,a2⟩:=c39 hE hf he pl w hp;have hB:=(a6f hE hf he p.1 ts.length _ a1).1;obtain⟨s,hs⟩:∃s,s=C2 ts ex ts.length ([(w,pl,(ex (l6 ts E0 p)).1)],(ex (l6 ts E0 p)).2):=⟨_,rfl⟩;have e:T9 ts ex pl w p=(fdW (H9 ts ex s.2).1 s.1,l6 ts Z3 (H9 ts ex s.2).2):=by rw[hs];rfl
 rw[<-hs] at hB;rw[e];obtain⟨b1,b2,b3,b4⟩:=hB;have h0:=P7 hl2 hp E0;obtain⟨c1,_,_⟩:=l8 (s:=E0) hE hp;have h1:=hx _ c1;obtain⟨x,hxx⟩:=F5 (ex (l6 ts E0 p)).1;obtain⟨acc,hacc⟩:∃acc:Nat->Nat->D,∀k,cP (b0E (H9 ts ex s.2).1 s.1 k)=cE (acc k):=⟨λk=>(F5 _).choose,λk=>(F5 _).choose_spec⟩
 have hz0:b0E (H9 ts ex s.2).1 s.1 0=(H9 ts ex s.2).1:=by
  unfold b0E;rw[d4w (by omega),fdW]
 have hlast:fdW (H9 ts ex s.2).1 s.1=b0E (H9 ts ex s.2).1 s.1 s.1.length:=by
  unfold b0E;rw[d4V,d5b]
 have hbl:(H9 ts ex s.2).1.2.length<=2 * ts.length+2:=by
  unfold H9
  split
  ·rename_i h;have hb:=hf (s.2.1+1,0) (o9 hE b1 h).1;have i1:=hb.sz;have i2:=hb.hi;omega
  ·show 1<=_;omega
 have hi0:c7K ts ex p.1 s (stP ts (ex (l6 ts E0 p)).2) [c13 w pl x] (ts.length - (ex (l6 ts E0 p)).2.1):=⟨[(w,pl,(ex (l6 ts E0 p)).1)],(ex (l6 ts E0 p)).2,ts.length,rfl,by rw[d4a,d47];unfold cFd;rw[hxx],a1,by simp,λ_=>by omega,rfl,hs⟩;unfold N2 at h0 h1 ⊢;rw[hlast,hacc];rw[hxx] at h1;have hlen:(s.1.map cFd).length=s.1.length:=d4g ..;have hsl:=b87 s.1
 have key:=c0j (T:=P6 ts) (L:=L) (pl:=pl) (sf:=stP ts (l6 ts Z3 (H9 ts ex s.2).2)) (Rf:=s.1.map cFd) acc (by rw[hlen];omega) hL1 hL2 (c7K ts ex p.1 s) h0 h1 hi0 (λe1 q1 a1' R m hinv=>by
  obtain⟨l,p',k,hst,hR,hsz,hlen2,hk,hm,hr⟩:=hinv;have hp':p'.1<ts.length:=hsz.1;refine⟨by rw[hR,d4g];omega,?_⟩;have hsk:=a1a hl2 hp' P4;unfold N2 at hsk;rw[<-hst] at hsk
  by_cases hc:B1 ts P4 p'=true
  ·obtain⟨k1,k2⟩:=o9 hE hp' hc;rw[hc,show skP ts P4 p'=(p'.1+1,0) by unfold skP;rw[d3I hc]] at hsk;obtain⟨d1,d2⟩:=b86 hE hf he hsz hc;have k3:=a54 hl2 (p:=(p'.1+1,0)) k1;have k4:=a1S hl2 (p:=(p'.1+1,0)) k1;obtain⟨f1,_,_⟩:=r8 hE (p:=(p'.1+1,0)) k1;have k5:=P7 hl2 f1 E0;obtain⟨g1,_,_⟩:=l8 (s:=E0) hE f1;have k6:=hx _ g1;obtain⟨y,hy⟩:=F5 (ex (l6 ts E0 (j7 ts (p'.1+1,0)).2)).1;unfold N2 at k3 k4 k5 k6;rw[hy] at k6;have hkk:=hk k2
   match k,hkk,hr with
   | 0,hkk,_=>omega
   | k+1,hkk,hr =>
    rw[C2,d3I hc] at hr;refine .inl ⟨_,_,_,_,_,_,y,ts.length - (ex (l6 ts E0 (j7 ts (p'.1+1,0)).2)).2.1,hsk,k3,k4,k5,k6,⟨_,_,k,rfl,?_,d1,?_,λ_=>?_,rfl,hr⟩,?_⟩
    ·rw[hR,d45,d4a,d47];unfold cFd;rw[hy]
    ·simp only[d3K,d3O,d3Y];simp only at d2;omega
    ·simp only at d2;omega
    ·simp only at d2;omega
  ·replace hc:B1 ts P4 p'=false:=by simpa using hc
   rw[hc,show skP ts P4 p'=p' by unfold skP;rw[hc];rfl,<-hst] at hsk;have hr2:s=(l,p'):=by rw[hr];exact b6E hc k
   have hs2:s.2=p':=by rw[hr2]
   have k3:=a54 hl2 hp';obtain⟨z0,hz⟩:=F5 (a1L 41 ⟨#[]⟩ 0 (r9 ts p'.1).at_);have k4:=b69 41 ⟨#[]⟩ 0 (r9 ts p'.1).at_;rw[hz] at k4;have k5:=a1a hl2 hp' M7;unfold N2 at k3 k5;rw[<-hst] at k3 k5;have ha0:=hacc 0;rw[hz0,hs2] at ha0;refine .inr ⟨?_,by rw[hR,hr2]⟩;rw[hs2];unfold H9 at ha0 ⊢
   by_cases hb:B1 ts M7 p'=true
   ·obtain⟨k1,k2⟩:=o9 hE hp' hb;rw[d3I hb] at ha0 ⊢;rw[hb,show skP ts M7 p'=(p'.1+1,0) by unfold skP;rw[d3I hb]] at k5;have k6:=hx (p'.1+1,0) k1;unfold N2 at k6;rw[ha0] at k6;have k7:=P7 hl2 (hf (p'.1+1,0) k1).hi Z3;exact⟨_,_,z0,hsk,k3,k4,.inr ⟨_,k5,k6⟩,k7⟩
   ·replace hb:B1 ts M7 p'=false:=by simpa using hb
    rw[d3G (by rw[hb];decide)] at ha0 ⊢;rw[hb,show skP ts M7 p'=p' by unfold skP;rw[hb];rfl,<-hst] at k5;have k7:=P7 hl2 hp' Z3;unfold N2 at k7;rw[<-hst] at k7;rw[ha0] at hz
    exact⟨_,_,acc 0,hsk,k3,by rw[<-hz] at k4;exact k4,.inl ⟨k5,rfl,rfl⟩,k7⟩) (λk hk=>by
  rw[hlen] at hk ⊢;obtain⟨f,hfd⟩:∃f,s.1[s.1.length - 1 - k]?=some f:=⟨_,d3H (by omega)⟩;obtain⟨y,hy⟩:=F5 f.2.2;refine⟨f.1,f.2.1,y,by rw[d4p,hfd];unfold cFd;rw[d5c,hy],?_⟩
  have ho:=a23 42 f.1 ⟨#[]⟩ 0 false f.2.1 [f.2.2,b0E (H9 ts ex s.2).1 s.1 k] (by simp) (by
   have e1:=b2p (x:=(H9 ts ex s.2).1) hk hfd;have e2:(b0E (H9 ts ex s.2).1 s.1 (k+1)).2.length=_:=a5j _;rw[e1] at e2;unfold C9 at e2;simp only[d3O] at e2;have:=b5i s.1 (s.1.length - (k+1))
   omega)
  rw[<-b2p hk hfd,hacc,show rP [f.2.2,b0E (H9 ts ex s.2).1 s.1 k]=[cE y,cE (acc k)] by unfold rP;rw[d4a,d4a,d47,hacc,hy]] at ho
  exact ho)
 rw[hlen] at key;exact key
section
abbrev cO (o:Int) (x:Nat->D):List D:=[.sc (.int .u8 o),x 1,x 2,x 3,x 4,x 5,x 6,x 7,x 8,x 9,x 10]
abbrev a2E:ByteArray:=⟨#[111,102]⟩
abbrev a1d:ByteArray:=⟨#[101,110,100]⟩
abbrev a6V:ByteArray:=⟨#[59]⟩
abbrev c99 (pl:Int) (z:Nat->D) (R:List (List D)):Prop:=OvN 48 ⟨#[]⟩ ⟨#[]⟩ 0 false pl R z
def d3h (T:List (List D)) (L pl:Int) (sf:ST) (z:Nat->D) (inv:ST->List (List D)->Bool->Nat->Prop) (e q a:Int) (R:List (List D)) (b:Bool) (m:Nat):Prop:=F4 13 [] T (e,q,a) [vb true] (e,q,a)/\IsN T a a1d false/\∃(s3 s4:ST) (o:Int) (y:Nat->D),(b=true/\s3=(e,q,a)\/b=false/\F4 29 [vs a6V] T (e,q,a) [] s3)/\F4 129 [vi .i64 L] T s3 [.ag (C0 (cO o y))] s4 /\
 ((o≠50/\∃m2,inv s4 (R++[cO o y]) false m2/\m2<m)\/(o=50/\F4 29 [vs a1d] T s4 [] sf/\c99 pl z (R++[cO o y])))
def d1S (T:List (List D)) (pl:Int) (sf:ST) (z:Nat->D) (e q a:Int) (R:List (List D)):Prop:=(F4 13 [] T (e,q,a) [vb false] (e,q,a)\/F4 13 [] T (e,q,a) [vb true] (e,q,a)/\IsN T a a1d true)/\F4 29 [vs a1d] T (e,q,a) [] sf/\c99 pl z R
section
variable {T:List (List D)} {L pl:Int}
theorem c0l {s0 s1 s2 sf:ST} {x z:Nat->D} {m0:Nat} (hL1:0<=L) (hL2:L<=1048576) (inv:ST->List (List D)->Bool->Nat->Prop) (h0:F4 12 [vi .i64 (L+1)] T s0 [.ag (C0 (cE x))] s1) (h1:F4 29 [vs a2E] T s1 [] s2) (hi0:inv s2 [cE x] true m0)
  (hst:∀(e q a:Int) (R:List (List D)) (b:Bool) (m:Nat),inv (e,q,a) R b m->R.length<1048576/\(d3h T L pl sf z inv e q a R b m\/d1S T pl sf z e q a R)) :
  F4 117 [vi .i64 L,vi .i64 pl] T s0 [.ag (C0 (cE z))] sf:=by
 obtain⟨_,_,_⟩:=s0;obtain⟨_,_,_⟩:=s1;obtain⟨a2,b2,d2⟩:=s2;obtain⟨_,_,_⟩:=sf;obtain⟨L1,hL⟩:∃L1,L1=L+1:=⟨_,rfl⟩;rw[<-hL] at h0;refine so9 Tryz.func117 rfl ?_;intro qa qb _ _ _ _ _ _ _ qk _ _ _ _ _ _ _ _ _ _ _ _ _ _ _ ve;intros;rename_i hA;obtain⟨e1,e2,e3,e4,e5,e6,e7,e8,e9⟩:=m6 hA;obtain⟨r1,r2,r3,r4⟩:=B3 hA;have qL:qa .i64 (qb L 1)=L1:=by rw[e1,e2,IntWalk.i64_in _ (by omega)];exact hL.symm
 have q50:qk 50 50=true:=by rw[e9];rfl
 iterate 2 (try cbv;repeat ((first|with_reducible apply j6 hA|rw[qL]|refine B8 hA [0,1] h0 ?_|refine B8 hA [0,1] h1 ?_|refine E2 hA false ?_|refine a3c hA true ?_);cbv))
 try simp (maxSteps:=4000000) only [nc] at *
 refine n9 hA (γ:=ST×List (List D)×Bool×Nat) (λx=>[(7,.own 3),(8,vb x.2.2.1),(9,.jk),(14,.jk)]) (λx=>[(0,.box [.ptr 1 0,vi .u8 x.1.1,vi .i64 x.1.2.1]),(1,.box [.d (.sl 4 T),vi .i64 x.1.2.2]),(3,.row true 49 x.2.1)]) (λx=>inv x.1 x.2.1 x.2.2.1 x.2.2.2) (λx=>x.2.2.2) ((a2,b2,d2),[cE x],true,m0) ?_ ?_ ?_
 ·exact hi0
 ·cbv
 ·intro x hinv;obtain⟨⟨e,q,a⟩,R,b,m⟩:=x;obtain⟨hlen,hs⟩:=hst e q a R b m hinv
  rcases hs with⟨hok,his,s3,s4,o,y2,hw,hp,hrest⟩|⟨he,hw,ho⟩
  ·obtain⟨_,_,_⟩:=s3;obtain⟨a4,b4,d4⟩:=s4;have g3:ve R [cO o y2]=R++[cO o y2]:=by rw[r4]
   obtain⟨R2,hR2⟩:∃R2,R2=R++[cO o y2]:=⟨_,rfl⟩;rw[<-hR2] at g3 hrest
   rcases hrest with⟨hne,m2,hi2,hm2⟩|⟨rfl,hwe,ho⟩
   ·have qn:qk o 50=false:=by rw[e9];exact d3P hne
    rcases hw with⟨rfl,hse⟩|⟨rfl,hw⟩
    ·injection hse with f1 f2;injection f2 with f2 f3;subst f1 f2 f3
     iterate 2 (try cbv;repeat ((first|with_reducible apply j6 hA|rw[g3]|rw[qn]|refine B8 hA [0,1] hok ?_|refine rdx hA [1] his ?_|refine B8 hA [0,1] hp ?_|refine E2 hA true ?_|(refine F3 hA (by simp only[d3O,d3Y];omega) ?_));cbv))
     try simp (maxSteps:=4000000) only [nc] at *
     refine⟨((a4,b4,d4),R2,false,m2),hi2,hm2,?_⟩;cbv
    ·iterate 2 (try cbv;repeat ((first|with_reducible apply j6 hA|rw[g3]|rw[qn]|refine B8 hA [0,1] hok ?_|refine rdx hA [1] his ?_|refine B8 hA [0,1] hw ?_|refine B8 hA [0,1] hp ?_|refine E2 hA true ?_|(refine F3 hA (by simp only[d3O,d3Y];omega) ?_));cbv))
     try simp (maxSteps:=4000000) only [nc] at *
     refine⟨((a4,b4,d4),R2,false,m2),hi2,hm2,?_⟩;cbv
   ·rcases hw with⟨rfl,hse⟩|⟨rfl,hw⟩
    ·injection hse with f1 f2;injection f2 with f2 f3;subst f1 f2 f3
     iterate 2 (try cbv;repeat ((first|refine a3z hA 7 3 (.sl 11 R2) rfl rfl ?_|with_reducible apply j6 hA|rw[g3]|rw[q50]|refine B8 hA [0,1] hok ?_|refine rdx hA [1] his ?_|refine B8 hA [0,1] hp ?_|refine B8 hA [0,1] hwe ?_|refine E2 hA true ?_|(refine F3 hA (by simp only[d3O,d3Y];omega) ?_)|refine rdx hA [] ho ?_);cbv))
     try simp (maxSteps:=4000000) only [nc] at *
     exact n7 hA [0,1] ⟨rfl,rfl,rfl,rfl,rfl,rfl,rfl,rfl⟩ ⟨rfl,rfl⟩
    ·iterate 2 (try cbv;repeat ((first|refine a3z hA 7 3 (.sl 11 R2) rfl rfl ?_|with_reducible apply j6 hA|rw[g3]|rw[q50]|refine B8 hA [0,1] hok ?_|refine rdx hA [1] his ?_|refine B8 hA [0,1] hw ?_|refine B8 hA [0,1] hp ?_|refine B8 hA [0,1] hwe ?_|refine E2 hA true ?_|(refine F3 hA (by simp only[d3O,d3Y];omega) ?_)|refine rdx hA [] ho ?_);cbv))
     try simp (maxSteps:=4000000) only [nc] at *
     exact n7 hA [0,1] ⟨rfl,rfl,rfl,rfl,rfl,rfl,rfl,rfl⟩ ⟨rfl,rfl⟩
  ·rcases he with hok|⟨hok,his⟩
   ·iterate 2 (try cbv;repeat ((first|refine a3z hA 7 3 (.sl 11 R) rfl rfl ?_|with_reducible apply j6 hA|refine B8 hA [0,1] hok ?_|refine B8 hA [0,1] hw ?_|refine rdx hA [] ho ?_);cbv))
    try simp (maxSteps:=4000000) only [nc] at *
    exact n7 hA [0,1] ⟨rfl,rfl,rfl,rfl,rfl,rfl,rfl,rfl⟩ ⟨rfl,rfl⟩
   ·iterate 2 (try cbv;repeat ((first|refine a3z hA 7 3 (.sl 11 R) rfl rfl ?_|with_reducible apply j6 hA|refine B8 hA [0,1] hok ?_|refine rdx hA [1] his ?_|refine B8 hA [0,1] hw ?_|refine rdx hA [] ho ?_);cbv))
    try simp (maxSteps:=4000000) only [nc] at *
    exact n7 hA [0,1] ⟨rfl,rfl,rfl,rfl,rfl,rfl,rfl,rfl⟩ ⟨rfl,rfl⟩
end
end
abbrev N5:ByteArray:=⟨#[101,108,115,101]⟩
def U0 (ts:List Tok) (ex:PF) (p:PE):PL×PE :=
 if B1 ts N5 p=true then (A9 50 ⟨#[]⟩ (j7 ts (p.1+1,0)).1 (r9 ts p.1).at_ [(ex (l6 ts a0h (j7 ts (p.1+1,0)).2)).1],(ex (l6 ts a0h (j7 ts (p.1+1,0)).2)).2)
 else (A9 49 (j7 ts p).1 (j7 ts (j7 ts p).2).1 (r9 ts p.1).at_ [(ex (l6 ts a0h (j7 ts (j7 ts p).2).2)).1],(ex (l6 ts a0h (j7 ts (j7 ts p).2).2)).2)
theorem c3C {ts:List Tok} (hE:y5 ts) {ex:PF} (hf:E3 ts ex) (he:∀p:PE,p.2≠0->ex p=(zPL,p)) {p:PE} (hp:p.1<ts.length):FitP ts p (U0 ts ex p):=by
 have key:∀(q:PE) (op:Int) (nm ar:ByteArray) (a:Int),q.1<ts.length->p.1<=q.1->(q.2=0->p.2=0/\p.1+1<=q.1)->FitP ts p (A9 op nm ar a [(ex q).1],(ex q).2):=λq op nm ar a h1 h2 h3=>by
  have hb:=hf q h1;have l1:=hb.lo;have l2:=hb.sz;have l4:=hb.ok;unfold A9 C9;refine⟨by simp only;omega,hb.hi,?_,λh0=>?_⟩
  ·simp only[d4m,d4t,d4d,d3O]
   by_cases h0:q.2=0
   ·have:=(h3 h0).2;omega
   ·rw[he q h0];show 0+1+2 * p.1<=2 * q.1+2;omega
  ·obtain⟨d1,d2⟩:=l4 h0;obtain⟨d3,d4⟩:=h3 d1;simp only[d4m,d4t,d4d,d3O];exact⟨d3,by omega⟩
 unfold U0
 split
 ·rename_i h;obtain⟨k1,k2⟩:=o9 hE hp h;obtain⟨b1,b2,b3⟩:=r8 hE (p:=(p.1+1,0)) k1;obtain⟨c1,c2,c3⟩:=l8 (s:=a0h) hE b1;simp only at b2 b3;exact key _ _ _ _ _ c1 (by omega) λh0=>⟨k2,by omega⟩
 ·obtain⟨a1,a2,a3⟩:=r8 hE hp;obtain⟨b1,b2,b3⟩:=r8 hE a1;obtain⟨c1,c2,c3⟩:=l8 (s:=a0h) hE b1;exact key _ _ _ _ _ c1 (by omega) λh0=>⟨(a3 (b3 (c3 h0).1).1).1,by have:=(c3 h0).2;omega⟩
theorem d1T {ts:List Tok} (hE:y5 ts) (hl:ts.length<=65537) {L:Int} (hL1:0<=L) (hL2:L<=1048576) {ex:PF} (hf:E3 ts ex) (hx:∀p:PE,p.1<ts.length->N2 12 [vi .i64 (L+1)] ts p [.ag (C0 (cP (ex p).1))] (ex p).2) {p:PE} (hp:p.1<ts.length) :
  N2 129 [vi .i64 L] ts p [.ag (C0 (cP (U0 ts ex p).1))] (U0 ts ex p).2:=by
 have hl2:ts.length<=1048576:=by omega
 have h0:=a54 hl2 hp;have h1:=a1a hl2 hp N5
 have hov:∀(op:Int) (nm ar:ByteArray) (a:Int) (q:PE),q.1<ts.length->∃(x z:Nat->D),cP (ex q).1=cE x/\cP (A9 op nm ar a [(ex q).1])=cE z/\OvN op nm ar 0 false a [cE x] z:=λop nm ar a q hq=>by
  obtain⟨x,hx1⟩:=F5 (ex q).1;obtain⟨z,hz⟩:=F5 (A9 op nm ar a [(ex q).1]);have hb:=hf q hq;have i1:=hb.sz;have i2:=hb.hi;have ho:=a23 op nm ar 0 false a [(ex q).1] (by simp) (by simp only[d4m,d4t,d4d];omega);rw[show rP [(ex q).1]=[cE x] by unfold rP;rw[d4a,d47,hx1]] at ho;rw[show cP (C9 op nm ar 0 false v8 a [(ex q).1])=cE z from hz] at ho;exact⟨x,z,hx1,hz,ho⟩
 unfold U0
 by_cases h:B1 ts N5 p=true
 ·rw[d3I h];obtain⟨k1,k2⟩:=o9 hE hp h;rw[h,show skP ts N5 p=(p.1+1,0) by unfold skP;rw[d3I h]] at h1;obtain⟨b1,_,_⟩:=r8 hE (p:=(p.1+1,0)) k1;obtain⟨c1,_,_⟩:=l8 (s:=a0h) hE b1;have h2:=a1S hl2 (p:=(p.1+1,0)) k1;have h3:=P7 hl2 b1 a0h;have h4:=hx _ c1;obtain⟨x,z,e1,e2,ho⟩:=hov 50 ⟨#[]⟩ (j7 ts (p.1+1,0)).1 (r9 ts p.1).at_ _ c1;rw[e1] at h4;simp only;rw[e2];exact c2Z ho hL1 hL2 h0 h1 h2 h3 h4
 ·rw[d3G h];replace h:B1 ts N5 p=false:=by simpa using h
  rw[h,show skP ts N5 p=p by unfold skP;rw[h];rfl] at h1;obtain⟨a1,_,_⟩:=r8 hE hp;obtain⟨b1,_,_⟩:=r8 hE a1;obtain⟨c1,_,_⟩:=l8 (s:=a0h) hE b1;have h2:=a1S hl2 hp;have h3:=a1S hl2 a1;have h4:=P7 hl2 b1 a0h;have h5:=hx _ c1;obtain⟨x,z,e1,e2,ho⟩:=hov 49 (j7 ts p).1 (j7 ts (j7 ts p).2).1 (r9 ts p.1).at_ _ c1;rw[e1] at h5;simp only;rw[e2];exact c3a ho hL1 hL2 h0 h1 h2 h3 h4 h5
theorem c60 (ts:List Tok) (ex:PF) (q:PE):∃y,cP (U0 ts ex q).1=cO (if B1 ts N5 q=true then 50 else 49) y:=by
 have key:∀(op:Int) (nm ar:ByteArray) (a:Int) (ks:List PL),∃y,cP (A9 op nm ar a ks)=cO op y:=λop nm ar a ks=>by
  obtain⟨x,hx⟩:=F5 (A9 op nm ar a ks)
  have h0:(cP (A9 op nm ar a ks)).head?=some (.sc (.int .u8 op)):=by
   unfold cP A9 C9;rw[cM];rfl
  rw[hx] at h0;have h0:x 0=.sc (.int .u8 op):=Option.some.inj h0;exact⟨x,by rw[hx];show x 0::_=_;rw[h0]⟩
 unfold U0
 split
 ·exact key _ _ _ _ _
 ·exact key _ _ _ _ _
def chQ (ts:List Tok) (f:Bool) (p:PE):PE:=if f=true then p else l6 ts a6V p
def chL (ts:List Tok) (ex:PF):Nat->Bool->List PL×PE->List PL×PE
 | 0,_,s=>s
 | k+1,f,s=>if s.2.2=0/\Z5 (r9 ts s.2.1) a1d=false then
   if B1 ts N5 (chQ ts f s.2)=true then (s.1++[(U0 ts ex (chQ ts f s.2)).1],(U0 ts ex (chQ ts f s.2)).2)
   else chL ts ex k false (s.1++[(U0 ts ex (chQ ts f s.2)).1],(U0 ts ex (chQ ts f s.2)).2)
  else s
theorem c9A {ts:List Tok} {ex:PF} {f:Bool} {s:List PL×PE} (h:¬(s.2.2=0/\Z5 (r9 ts s.2.1) a1d=false)):∀k,chL ts ex k f s=s
 | 0=>rfl
 | k+1=>by rw[chL,d3G h]
def Q8 (ts:List Tok) (ex:PF) (pl:Int) (p:PE):PL×PE:=(A9 48 ⟨#[]⟩ ⟨#[]⟩ pl (chL ts ex ts.length true ([(ex p).1],l6 ts a2E (ex p).2)).1,l6 ts a1d (chL ts ex ts.length true ([(ex p).1],l6 ts a2E (ex p).2)).2)
abbrev chN (l:List PL):Nat:=(l.flatMap λp=>p.2).length
theorem b5k (l:List PL) (x:PL):chN (l++[x])=chN l+x.2.length:=by
 unfold chN;rw[d4Q,d3K]
 simp
structure SzC (ts:List Tok) (p0:Nat) (s:List PL×PE):Prop where
 hi:s.2.1<ts.length
 lo:p0<=s.2.1
 sz:chN s.1+2 * p0<=2 * s.2.1+2
 ln:s.1.length<=s.2.1+1
 ok:s.2.2=0->chN s.1+2 * p0+3<=2 * s.2.1/\s.1.length<=s.2.1
theorem b88 {ts:List Tok} (hE:y5 ts) {ex:PF} (hf:E3 ts ex) (he:∀p:PE,p.2≠0->ex p=(zPL,p)) {p0:Nat} {f:Bool} {s:List PL×PE} (hs:SzC ts p0 s) (h0:s.2.2=0):(chQ ts f s.2).1<ts.length/\SzC ts p0 (s.1++[(U0 ts ex (chQ ts f s.2)).1],(U0 ts ex (chQ ts f s.2)).2)/\s.2.1<=(U0 ts ex (chQ ts f s.2)).2.1/\((U0 ts ex (chQ ts f s.2)).2.2=0->s.2.1+1<=(U0 ts ex (chQ ts f s.2)).2.1):=by
 have hq:(chQ ts f s.2).1<ts.length/\s.2.1<=(chQ ts f s.2).1:=by
  unfold chQ;cases f with
  | true=>exact⟨hs.hi,d3Q _⟩
  | false =>
   obtain⟨c1,c2,c3⟩:=l8 (s:=a6V) hE hs.hi;exact⟨c1,c2⟩
 generalize chQ ts f s.2=q at *;have ha:=c3C hE hf he hq.1;obtain⟨o1,o2⟩:=hs.ok h0;have l1:=ha.lo;have l2:=ha.sz;have l4:=ha.ok;have s1:=hs.lo;refine⟨hq.1,⟨ha.hi,by simp only;omega,by simp only;rw[b5k];omega,by simp only[d3K,d3O,d3Y];omega,λh=>?_⟩,by omega,λh=>by have:=(l4 h).2;omega⟩;have:=(l4 h).2;simp only;rw[b5k];simp only[d3K,d3O,d3Y];omega
theorem b32 {ts:List Tok} (hE:y5 ts) {ex:PF} (hf:E3 ts ex) (he:∀p:PE,p.2≠0->ex p=(zPL,p)) (p0:Nat):∀(k:Nat) (f:Bool) (s:List PL×PE),SzC ts p0 s->SzC ts p0 (chL ts ex k f s)/\((chL ts ex k f s).2.2=0->s.2.2=0)
 | 0,f,s,hs=>⟨hs,λh=>h⟩
 | k+1,f,s,hs=>by
  rw[chL]
  split
  ·rename_i h;have hst:=(b88 (f:=f) hE hf he hs h.1).2.1
   split
   ·exact⟨hst,λ_=>h.1⟩
   ·exact⟨(b32 hE hf he p0 k false _ hst).1,λ_=>h.1⟩
  ·exact⟨hs,λh=>h⟩
theorem b6F {ts:List Tok} (hE:y5 ts) {ex:PF} (hf:E3 ts ex) {p:PE} (hp:p.1<ts.length):SzC ts p.1 ([(ex p).1],l6 ts a2E (ex p).2)/\((l6 ts a2E (ex p).2).2=0->p.2=0):=by
 have hb:=hf p hp;obtain⟨c1,c2,c3⟩:=l8 (s:=a2E) hE hb.hi;have l1:=hb.lo;have l2:=hb.sz;have l4:=hb.ok;refine⟨⟨c1,by simp only;omega,?_,by simp,λh=>?_⟩,λh=>(l4 (c3 h).1).1⟩
 ·simp only[chN,d4m,d4t,d4d];omega
 ·obtain⟨d1,d2⟩:=c3 h;have:=(l4 d1).2;simp only[chN,d4m,d4t,d4d,d3O,d3Y];omega
theorem c62 {ts:List Tok} (hE:y5 ts) {ex:PF} (hf:E3 ts ex) (he:∀p:PE,p.2≠0->ex p=(zPL,p)) (pl:Int) {a:Nat} (hp:a+1<ts.length):FitP ts (a,0) (Q8 ts ex pl (a+1,0)):=by
 obtain⟨a1,a2⟩:=b6F hE hf (p:=(a+1,0)) hp;have hB:=(b32 hE hf he (a+1) ts.length true _ a1).1;unfold Q8;generalize chL ts ex ts.length true ([(ex (a+1,0)).1],l6 ts a2E (ex (a+1,0)).2)=s at *;obtain⟨c1,c2,c3⟩:=l8 (s:=a1d) hE hB.hi;have l1:=hB.lo;have l2:=hB.sz;have l4:=hB.ok;have e:(A9 48 ⟨#[]⟩ ⟨#[]⟩ pl s.1).2.length=chN s.1+1:=rfl;refine⟨by simp only;omega,c1,by simp only;omega,λh=>⟨rfl,?_⟩⟩;obtain⟨d1,d2⟩:=c3 h;have:=(l4 d1).1;simp only;omega
def c7L (ts:List Tok) (ex:PF) (p0:Nat) (rr:List PL×PE) (s:ST) (R:List (List D)) (b:Bool) (m:Nat):Prop:=∃(l:List PL) (p:PE) (k:Nat),s=stP ts p/\R=rP l/\SzC ts p0 (l,p)/\(p.2=0->ts.length - p.1<=k)/\m=2 * (ts.length - p.1)+(if p.2=0 then 1 else 0)/\rr=chL ts ex k b (l,p)
theorem c63 (l:List PL) (x:PL):rP (l++[x])=rP l++[cP x]:=by unfold rP;rw[d45];rfl
theorem c3D {ts:List Tok} (hE:y5 ts) (hl:ts.length<=65537) {L:Int} (hL1:0<=L) (hL2:L<=1048576) {ex:PF} (hf:E3 ts ex) (he:∀p:PE,p.2≠0->ex p=(zPL,p)) (hx:∀p:PE,p.1<ts.length->N2 12 [vi .i64 (L+1)] ts p [.ag (C0 (cP (ex p).1))] (ex p).2) (pl:Int) {p:PE} (hp:p.1<ts.length) :
  N2 117 [vi .i64 L,vi .i64 pl] ts p [.ag (C0 (cP (Q8 ts ex pl p).1))] (Q8 ts ex pl p).2:=by
 have hl2:ts.length<=1048576:=by omega
 obtain⟨a1,a2⟩:=b6F hE hf hp;have hB:=(b32 hE hf he p.1 ts.length true _ a1).1;obtain⟨rr,hrr⟩:∃rr,rr=chL ts ex ts.length true ([(ex p).1],l6 ts a2E (ex p).2):=⟨_,rfl⟩;unfold Q8;rw[<-hrr] at hB ⊢;obtain⟨z,hz⟩:=F5 (A9 48 ⟨#[]⟩ ⟨#[]⟩ pl rr.1);obtain⟨x,hxx⟩:=F5 (ex p).1;have hb:=hf p hp;have h0:=hx p hp;have h1:=P7 hl2 hb.hi a2E;have j1:=hB.hi;have j2:=hB.sz;have j3:=hB.ln
 have hov:c99 pl z (rP rr.1):=by
  have h48:chN rr.1<=1048576:=by omega
  have ho:=a23 48 ⟨#[]⟩ ⟨#[]⟩ 0 false pl rr.1 (by omega) h48;rw[show cP (C9 48 ⟨#[]⟩ ⟨#[]⟩ 0 false v8 pl rr.1)=cE z from hz] at ho;exact ho
 have hi0:c7L ts ex p.1 rr (stP ts (l6 ts a2E (ex p).2)) [cE x] true (2 * (ts.length - (l6 ts a2E (ex p).2).1)+(if (l6 ts a2E (ex p).2).2=0 then 1 else 0)):=⟨[(ex p).1],_,ts.length,rfl,by unfold rP;rw[d4a,d47,hxx],a1,λ_=>by omega,rfl,hrr⟩;unfold N2 at h0 h1 ⊢;simp only;rw[hz];rw[hxx] at h0;refine c0l hL1 hL2 (c7L ts ex p.1 rr) h0 h1 hi0 λe1 q1 b1 R f m hinv=>?_
 obtain⟨l,p',k,hst,hR,hsz,hk,hm,hr⟩:=hinv;have hp':p'.1<ts.length:=hsz.hi;have hln:l.length<=p'.1+1:=hsz.ln;refine⟨by rw[hR,c24];omega,?_⟩;have hok:=okP hl2 hp';have ha:b1=(p'.1:Int):=congrArg (λs:ST=>s.2.2) hst;have his:=c7D hl2 (a:=p'.1) hp' a1d;rw[<-ha] at his;unfold N2 at hok;rw[<-hst] at hok
 by_cases hc:p'.2=0/\Z5 (r9 ts p'.1) a1d=false
 ·rw[hc.1] at hok;rw[hc.2] at his;obtain⟨c1,c2,c3,c4⟩:=b88 (f:=f) (s:=(l,p')) hE hf he hsz hc.1;obtain⟨y,hy⟩:=c60 ts ex (chQ ts f p');have harm:=d1T hE hl hL1 hL2 hf hx c1;have hkk:=hk hc.1
  have hq:f=true/\stP ts (chQ ts f p')=(e1,q1,b1)\/f=false/\F4 29 [vs a6V] (P6 ts) (e1,q1,b1) [] (stP ts (chQ ts f p')):=by
   cases f with
   | true=>exact .inl ⟨rfl,hst.symm⟩
   | false =>
    have hw:=P7 hl2 hp' a6V;unfold N2 at hw;rw[<-hst] at hw;exact .inr ⟨rfl,hw⟩
  unfold N2 at harm;simp only at c2 c3 c4 harm;rw[hy] at harm;have hR2:R++[cO (if B1 ts N5 (chQ ts f p')=true then 50 else 49) y]=rP (l++[(U0 ts ex (chQ ts f p')).1]):=by rw[c63,hR,hy]
  match k,hkk,hr with
  | 0,hkk,_=>omega
  | k+1,hkk,hr =>
   rw[chL,d3I hc] at hr;simp only at hr;refine .inl ⟨hok,his,_,_,_,y,hq,harm,?_⟩;rw[hR2]
   by_cases hel:B1 ts N5 (chQ ts f p')=true
   ·rw[d3I hel] at hr ⊢;have hw:=P7 hl2 (p:=(U0 ts ex (chQ ts f p')).2) c2.hi a1d;refine .inr ⟨rfl,?_,by rw[hr] at hov;exact hov⟩;rw[hr];exact hw
   ·rw[d3G hel] at hr ⊢;refine .inl ⟨by decide,2 * (ts.length - (U0 ts ex (chQ ts f p')).2.1)+(if (U0 ts ex (chQ ts f p')).2.2=0 then 1 else 0),⟨_,_,k,rfl,rfl,c2,λh=>by have:=c4 h;omega,rfl,hr⟩,?_⟩;rw[hm,d3I hc.1]
    split
    ·rename_i h;have:=c4 h;omega
    ·omega
 ·rw[c9A hc] at hr;have hw:=P7 hl2 hp' a1d;unfold N2 at hw;rw[<-hst] at hw;refine .inr ⟨?_,by rw[hr];exact hw,by rw[hr] at hov;rw[hR];exact hov⟩
  by_cases h0:p'.2=0
  ·rw[h0] at hok
   have h1:Z5 (r9 ts p'.1) a1d=true:=by
    cases hg:Z5 (r9 ts p'.1) a1d with
    | true=>rfl
    | false=>exact absurd ⟨h0,hg⟩ hc
   rw[h1] at his;exact .inr ⟨hok,his⟩
  ·rw[d3T h0] at hok;exact .inl hok
theorem a6W {ts:List Tok} {s:ByteArray} {p:PE} (h:B1 ts s p=true):skP ts s p=(p.1+1,0):=by unfold skP;rw[d3I h]
theorem a6X {ts:List Tok} {s:ByteArray} {p:PE} (h:B1 ts s p=false):skP ts s p=p:=by unfold skP;rw[h];rfl
def U3 (ts:List Tok) (n:Nat) (ex:PF) (pl:Int) (p:PE):PL×PE :=
 if B1 ts a2a (ex p).2=true then (C9 51 ⟨#[]⟩ ⟨#[]⟩ 0 true (H3 ts (n - 1) ((ex p).2.1+1,0)).1 pl [(ex p).1],l6 ts a0j (H3 ts (n - 1) ((ex p).2.1+1,0)).2) else ((ex p).1,l6 ts a0j (ex p).2)
theorem c64 {ts:List Tok} (hE:y5 ts) (n:Nat) {ex:PF} (hf:E3 ts ex) (pl:Int) {a:Nat} (hp:a+1<ts.length):FitP ts (a,0) (U3 ts n ex pl (a+1,0)):=by
 have hb:=hf (a+1,0) hp;have l1:=hb.lo;have l2:=hb.sz;have l3:=hb.hi;have l4:=hb.ok;simp only at l1 l2 l4;unfold U3
 split
 ·rename_i h;obtain⟨k1,k2⟩:=o9 hE l3 h;have:=(l4 k2).2;obtain⟨d1,d2,d3⟩:=a28 hE (n - 1) (p:=((ex (a+1,0)).2.1+1,0)) k1;obtain⟨c1,c2,c3⟩:=l8 (s:=a0j) hE d1;simp only at d2;have e:(C9 51 ⟨#[]⟩ ⟨#[]⟩ 0 true (H3 ts (n - 1) ((ex (a+1,0)).2.1+1,0)).1 pl [(ex (a+1,0)).1]).2.length=(ex (a+1,0)).1.2.length+1:=by simp[C9]
  exact⟨by simp only;omega,c1,by simp only;omega,λh=>⟨rfl,by simp only;omega⟩⟩
 ·obtain⟨c1,c2,c3⟩:=l8 (s:=a0j) hE l3;refine⟨by simp only;omega,c1,by simp only;omega,λh=>⟨rfl,?_⟩⟩;obtain⟨d1,d2⟩:=c3 h;have:=(l4 d1).2;simp only;omega
theorem c65 {ts:List Tok} (hE:y5 ts) (hN:a0c ts) (hl:ts.length<=65537) (n:Nat) (L:Int) (hv:a27 n L) (hL:L<=1048575) {ex:PF} (hf:E3 ts ex) (hx:∀p:PE,p.1<ts.length->N2 12 [vi .i64 (L+1)] ts p [.ag (C0 (cP (ex p).1))] (ex p).2) (pl:Int) {p:PE} (hp:p.1<ts.length) :
  N2 115 [vi .i64 L,vi .i64 pl] ts p [.ag (C0 (cP (U3 ts n ex pl p).1))] (U3 ts n ex pl p).2:=by
 have hl2:ts.length<=1048576:=by omega
 have hb:=hf p hp;have i1:=hb.sz;have i2:=hb.hi;have h0:=hx p hp;have h1:=a1a hl2 hb.hi a2a;obtain⟨x,hxx⟩:=F5 (ex p).1;rw[hxx] at h0;unfold U3
 by_cases h:B1 ts a2a (ex p).2=true
 ·rw[d3I h];obtain⟨k1,k2⟩:=o9 hE hb.hi h;rw[h,a6W h] at h1;have h2:=c30 hE hN hl (n - 1) (L+1) (b31 hv) (p:=((ex p).2.1+1,0)) k1;obtain⟨d1,_,_⟩:=a28 hE (n - 1) (p:=((ex p).2.1+1,0)) k1;have h3:=P7 hl2 d1 a0j;generalize H3 ts (n - 1) ((ex p).2.1+1,0)=kw at *;obtain⟨y,hy⟩:=b49 kw.1;obtain⟨z,hz⟩:=F5 (C9 51 ⟨#[]⟩ ⟨#[]⟩ 0 true kw.1 pl [(ex p).1]);have ho:=c3h 51 ⟨#[]⟩ ⟨#[]⟩ 0 true kw.1 y hy pl [(ex p).1] (by simp) (by simp only[d4m,d4t,d4d];omega);rw[hz,show rP [(ex p).1]=[cE x] by unfold rP;rw[d4a,d47,hxx]] at ho;rw[hy] at h2;simp only;rw[hz];exact c0d ho (a4f hv hL).1 (a4f hv hL).2 h0 h1 h2 h3
 ·rw[d3G h];replace h:B1 ts a2a (ex p).2=false:=by simpa using h
  rw[h,a6X h] at h1;simp only;rw[hxx];exact c3b (a4f hv hL).1 (a4f hv hL).2 h0 h1 (P7 hl2 hb.hi a0j)
abbrev b5l:ByteArray:=⟨#[58,61]⟩
def P5 (ts:List Tok) (ex:PF) (pl:Int) (p:PE):PL×PE :=
 if B1 ts Z3 p=true then (a1L 41 ⟨#[]⟩ 0 pl,(p.1+1,0))
 else if B1 ts b5l (j7 ts p).2=true then
  (A9 45 (j7 ts p).1 ⟨#[]⟩ pl [(ex ((j7 ts p).2.1+1,0)).1,(ex (l6 ts M7 (ex ((j7 ts p).2.1+1,0)).2)).1],l6 ts Z3 (ex (l6 ts M7 (ex ((j7 ts p).2.1+1,0)).2)).2)
 else T9 ts ex pl (j7 ts p).1 (j7 ts p).2
theorem c3E {ts:List Tok} (hE:y5 ts) (hl:ts.length<=65537) {L:Int} (hL1:0<=L) (hL2:L<=1048576) {ex:PF} (hf:E3 ts ex) (he:∀p:PE,p.2≠0->ex p=(zPL,p)) (hx:∀p:PE,p.1<ts.length->N2 12 [vi .i64 (L+1)] ts p [.ag (C0 (cP (ex p).1))] (ex p).2) (pl:Int) {p:PE} (hp:p.1<ts.length) :
  N2 116 [vi .i64 L,vi .i64 pl] ts p [.ag (C0 (cP (P5 ts ex pl p).1))] (P5 ts ex pl p).2:=by
 have hl2:ts.length<=1048576:=by omega
 have h0:=a1a hl2 hp Z3;unfold P5
 by_cases h:B1 ts Z3 p=true
 ·rw[d3I h];rw[h,a6W h] at h0;obtain⟨z,hz⟩:=F5 (a1L 41 ⟨#[]⟩ 0 pl);have ho:=b69 41 ⟨#[]⟩ 0 pl;rw[hz] at ho;simp only;rw[hz];exact c6g ho h0
 ·rw[d3G h];replace h:B1 ts Z3 p=false:=by simpa using h
  rw[h,a6X h] at h0;have h1:=a1S hl2 hp;obtain⟨b1,_,_⟩:=r8 hE hp;have h2:=a1a hl2 b1 b5l
  by_cases h3:B1 ts b5l (j7 ts p).2=true
  ·rw[d3I h3];obtain⟨k1,k2⟩:=o9 hE b1 h3;rw[h3,a6W h3] at h2;have h4:=hx ((j7 ts p).2.1+1,0) k1;have hb:=hf ((j7 ts p).2.1+1,0) k1;have h5:=P7 hl2 hb.hi M7;obtain⟨c1,_,_⟩:=l8 (s:=M7) hE hb.hi;have h6:=hx _ c1;have hb2:=hf _ c1;have h7:=P7 hl2 hb2.hi Z3;obtain⟨x,hxx⟩:=F5 (ex ((j7 ts p).2.1+1,0)).1;obtain⟨y,hyy⟩:=F5 (ex (l6 ts M7 (ex ((j7 ts p).2.1+1,0)).2)).1;obtain⟨z,hz⟩:=F5 (A9 45 (j7 ts p).1 ⟨#[]⟩ pl [(ex ((j7 ts p).2.1+1,0)).1,(ex (l6 ts M7 (ex ((j7 ts p).2.1+1,0)).2)).1]);have i1:=hb.sz;have i2:=hb.hi;have i3:=hb2.sz;have i4:=hb2.hi;have ho:=a23 45 (j7 ts p).1 ⟨#[]⟩ 0 false pl [(ex ((j7 ts p).2.1+1,0)).1,(ex (l6 ts M7 (ex ((j7 ts p).2.1+1,0)).2)).1] (by simp) (by simp only[d4m,d4t,d4d,d3K];omega);rw[show cP (C9 45 (j7 ts p).1 ⟨#[]⟩ 0 false v8 pl [(ex ((j7 ts p).2.1+1,0)).1,(ex (l6 ts M7 (ex ((j7 ts p).2.1+1,0)).2)).1])=cE z from hz,show rP [(ex ((j7 ts p).2.1+1,0)).1,(ex (l6 ts M7 (ex ((j7 ts p).2.1+1,0)).2)).1]=[cE x,cE y] by unfold rP;rw[d4a,d4a,d47,hxx,hyy]] at ho;rw[hxx] at h4;rw[hyy] at h6;simp only;rw[hz];exact c6t ho hL1 hL2 h0 h1 h2 h4 h5 h6 h7
  ·rw[d3G h3];replace h3:B1 ts b5l (j7 ts p).2=false:=by simpa using h3
   rw[h3,a6X h3] at h2;have h4:=c3A hE hl hL1 hL2 hf he hx pl (j7 ts p).1 b1;obtain⟨x,hxx⟩:=F5 (T9 ts ex pl (j7 ts p).1 (j7 ts p).2).1;rw[hxx] at h4 ⊢;exact c6h h0 h1 h2 h4
theorem c3F {ts:List Tok} (hE:y5 ts) {ex:PF} (hf:E3 ts ex) (he:∀p:PE,p.2≠0->ex p=(zPL,p)) (pl:Int) {a:Nat} (hp:a+1<ts.length):FitP ts (a,0) (P5 ts ex pl (a+1,0)):=by
 unfold P5
 split
 ·rename_i h;obtain⟨k1,k2⟩:=o9 hE (p:=(a+1,0)) hp h;exact⟨by show a<=a+1+1;omega,k1,by show 1+2 * a<=2 * (a+1+1)+2;omega,λ_=>⟨rfl,by show 1+2 * a+1<=2 * (a+1+1);omega⟩⟩
 ·obtain⟨b1,b2,b3⟩:=r8 hE (p:=(a+1,0)) hp;simp only at b2 b3
  split
  ·rename_i h;obtain⟨k1,k2⟩:=o9 hE b1 h;have b3:=(b3 k2).2;generalize (j7 ts (a+1,0)).2=w at *;have hb:=hf (w.1+1,0) k1;generalize ex (w.1+1,0)=e1 at *;obtain⟨c1,c2,c3⟩:=l8 (s:=M7) hE hb.hi;have hb2:=hf _ c1;have he2:=he (l6 ts M7 e1.2);generalize l6 ts M7 e1.2=r at *;obtain⟨d1,d2,d3⟩:=l8 (s:=Z3) hE hb2.hi;have l1:=hb.lo;have l2:=hb.sz;have l4:=hb.ok;have m1:=hb2.lo;have m2:=hb2.sz;have m4:=hb2.ok;simp only at l1 l2 l4;have e:(A9 45 (j7 ts (a+1,0)).1 ⟨#[]⟩ pl [e1.1,(ex r).1]).2.length=e1.1.2.length+(ex r).1.2.length+1:=by simp[A9,C9]
   refine⟨by simp only;omega,d1,?_,λh=>⟨rfl,?_⟩⟩
   ·simp only
    by_cases h0:r.2=0
    ·have:=(l4 (c3 h0).1).2;omega
    ·have e0:=he2 h0;rw[e0] at e d2 m1 ⊢;have:(zPL:PL).2.length=0:=rfl;simp only at e d2 ⊢;omega
   ·obtain⟨g1,g2⟩:=d3 h;have h5:=m4 g1;have:=(l4 (c3 h5.1).1).2;simp only;omega
  ·have h1:=b5j hE hf he pl (j7 ts (a+1,0)).1 b1;refine⟨by have:=h1.lo;simp only;omega,h1.hi,by have:=h1.sz;simp only;omega,λh=>⟨rfl,by have:=(h1.ok h).2;simp only;omega⟩⟩
abbrev b2q:ByteArray:=⟨#[116,114,117,101]⟩
abbrev a7S:ByteArray:=⟨#[102,97,108,115,101]⟩
abbrev a7T:ByteArray:=⟨#[123]⟩
abbrev b2r:ByteArray:=⟨#[99,97,115,101]⟩
abbrev a7U:List ByteArray:=[b2q,a7S,a0i,a7T,b2r]
def I3 (ts:List Tok) (n:Nat) (ex:PF) (p:PE):PL×PE :=
 if p.2≠0 then (zPL,p)
 else if (r9 ts p.1).kind=1 then (a1L 32 (r9 ts p.1).text 0 (r9 ts p.1).at_,(p.1+1,0))
 else if (r9 ts p.1).kind=2 then (a1L 33 ⟨#[]⟩ (r9 ts p.1).n (r9 ts p.1).at_,(p.1+1,0))
 else if B1 ts b2q p=true then (a1L 34 ⟨#[]⟩ 1 (r9 ts p.1).at_,(p.1+1,0))
 else if B1 ts a7S p=true then (a1L 34 ⟨#[]⟩ 0 (r9 ts p.1).at_,(p.1+1,0))
 else if B1 ts a0i p=true then U3 ts n ex (r9 ts p.1).at_ (p.1+1,0)
 else if B1 ts a7T p=true then P5 ts ex (r9 ts p.1).at_ (p.1+1,0)
 else if B1 ts b2r p=true then Q8 ts ex (r9 ts p.1).at_ (p.1+1,0)
 else (zPL,F6 5 p)
theorem a4N {ts:List Tok} (hE:y5 ts) (n:Nat) {ex:PF} (hf:E3 ts ex) (he:∀p:PE,p.2≠0->ex p=(zPL,p)) {p:PE} (hp:p.1<ts.length):FitP ts p (I3 ts n ex p):=by
 obtain⟨a,c⟩:=p;have leaf:∀(op:Int) (nm:ByteArray) (m at_:Int),c=0->a+1<ts.length->FitP ts (a,c) (a1L op nm m at_,(a+1,0)):=λop nm m at_ h1 h2=>⟨by show a<=a+1;omega,h2,by show 1+2 * a<=2 * (a+1)+2;omega,λ_=>⟨h1,by show 1+2 * a+1<=2 * (a+1);omega⟩⟩
 have none:∀q:PE,q.1=a->q.2≠0->FitP ts (a,c) (zPL,q):=λq h1 h2=>⟨by simp only;omega,by show q.1<_;omega,by show 0+2 * a<=2 * q.1+2;omega,λh=>absurd h h2⟩
 unfold I3
 by_cases h0:c=0
 ·subst h0;rw[d3G (by simp)];simp only at hp ⊢
  by_cases k1:(r9 ts a).kind=1
  ·rw[d3I k1];exact leaf _ _ _ _ rfl (hE _ hp (by rw[k1];decide))
  rw[d3G k1]
  by_cases k2:(r9 ts a).kind=2
  ·rw[d3I k2];exact leaf _ _ _ _ rfl (hE _ hp (by rw[k2];decide))
  rw[d3G k2]
  split
  ·rename_i h;exact leaf _ _ _ _ rfl (o9 hE (p:=(a,0)) hp h).1
  split
  ·rename_i h;exact leaf _ _ _ _ rfl (o9 hE (p:=(a,0)) hp h).1
  split
  ·rename_i h;exact c64 hE n hf _ (o9 hE (p:=(a,0)) hp h).1
  split
  ·rename_i h;exact c3F hE hf he _ (o9 hE (p:=(a,0)) hp h).1
  split
  ·rename_i h;exact c62 hE hf he _ (o9 hE (p:=(a,0)) hp h).1
  ·obtain⟨f1,f2⟩:=C8 5 (by decide) (a,0);exact none _ f1 f2
 ·rw[d3I h0];exact none (a,c) rfl h0
theorem c9B {ts:List Tok} (hE:y5 ts) (hN:a0c ts) (hl:ts.length<=65537) (n:Nat) (L:Int) (hv:a27 n L) (hL:L<=1048575) {ex:PF} (hf:E3 ts ex) (he:∀p:PE,p.2≠0->ex p=(zPL,p)) (hx:∀p:PE,p.1<ts.length->N2 12 [vi .i64 (L+1)] ts p [.ag (C0 (cP (ex p).1))] (ex p).2) {p:PE} (hp:p.1<ts.length) :
  N2 105 [vi .i64 L] ts p [.ag (C0 (cP (I3 ts n ex p).1))] (I3 ts n ex p).2:=by
 have hl2:ts.length<=1048576:=by omega
 have hok:=okP hl2 hp;obtain⟨hb1,hb2⟩:=a4f hv hL;obtain⟨a,c⟩:=p
 by_cases h0:c=0
 ·subst h0;have hpk:=c23 hl2 (a:=a) hp;have hta:=d1f hl2 (a:=a) hp;have hsg:=b02 hl2 (p:=(a,0)) hp a7U (by decide)
  have hleaf:∀(op:Int) (nm:ByteArray) (m:Int),∃z,cP (a1L op nm m (r9 ts a).at_)=cE z/\LfN op nm m (r9 ts a).at_ z:=λop nm m=>by
   obtain⟨z,hz⟩:=F5 (a1L op nm m (r9 ts a).at_);have ho:=b69 op nm m (r9 ts a).at_;rw[hz] at ho;exact⟨z,hz,ho⟩
  unfold I3;rw[d3G (by simp)];simp only;unfold N2 at hok hsg ⊢;rw[c8P] at hok hsg ⊢
  by_cases k1:(r9 ts a).kind=1
  ·rw[d3I k1];rw[k1] at hpk hta;obtain⟨z,hz,ho⟩:=hleaf 32 (r9 ts a).text 0;simp only;rw[hz];exact c6k hok hpk hta ho
  rw[d3G k1]
  by_cases k2:(r9 ts a).kind=2
  ·rw[d3I k2];rw[k2] at hpk hta;obtain⟨z,hz,ho⟩:=hleaf 33 ⟨#[]⟩ (r9 ts a).n;simp only;rw[hz];exact c9r hok hpk hta ho
  rw[d3G k2];unfold a2M at hsg
  by_cases s1:B1 ts b2q (a,0)=true
  ·rw[d3I s1];rw[show w9 ts a7U (a,0)=some b2q by unfold a7U;rw[w9,d3I s1]] at hsg;obtain⟨z,hz,ho⟩:=hleaf 34 ⟨#[]⟩ 1;simp only;rw[hz];exact c6l (s2:=(0,0,0)) k1 k2 hok hpk hsg ho
  rw[d3G s1]
  by_cases s2:B1 ts a7S (a,0)=true
  ·rw[d3I s2];rw[show w9 ts a7U (a,0)=some a7S by unfold a7U;rw[w9,d3G s1,w9,d3I s2]] at hsg;obtain⟨z,hz,ho⟩:=hleaf 34 ⟨#[]⟩ 0;simp only;rw[hz];exact c3f (s2:=(0,0,0)) k1 k2 hok hpk hsg ho
  rw[d3G s2]
  by_cases s3:B1 ts a0i (a,0)=true
  ·rw[d3I s3];rw[show w9 ts a7U (a,0)=some a0i by unfold a7U;rw[w9,d3G s1,w9,d3G s2,w9,d3I s3]] at hsg;have h2:=c65 hE hN hl n L hv hL hf hx (r9 ts a).at_ (p:=(a+1,0)) (o9 hE (p:=(a,0)) hp s3).1;obtain⟨z,hz⟩:=F5 (U3 ts n ex (r9 ts a).at_ (a+1,0)).1;rw[hz] at h2 ⊢;exact c3g k1 k2 hok hpk hsg h2
  rw[d3G s3]
  by_cases s4:B1 ts a7T (a,0)=true
  ·rw[d3I s4];rw[show w9 ts a7U (a,0)=some a7T by unfold a7U;rw[w9,d3G s1,w9,d3G s2,w9,d3G s3,w9,d3I s4]] at hsg;have h2:=c3E hE hl hb1 hb2 hf he hx (r9 ts a).at_ (p:=(a+1,0)) (o9 hE (p:=(a,0)) hp s4).1;obtain⟨z,hz⟩:=F5 (P5 ts ex (r9 ts a).at_ (a+1,0)).1;rw[hz] at h2 ⊢;exact b9T k1 k2 hok hpk hsg h2
  rw[d3G s4]
  by_cases s5:B1 ts b2r (a,0)=true
  ·rw[d3I s5];rw[show w9 ts a7U (a,0)=some b2r by unfold a7U;rw[w9,d3G s1,w9,d3G s2,w9,d3G s3,w9,d3G s4,w9,d3I s5]] at hsg;have h2:=c3D hE hl hb1 hb2 hf he hx (r9 ts a).at_ (p:=(a+1,0)) (o9 hE (p:=(a,0)) hp s5).1;obtain⟨z,hz⟩:=F5 (Q8 ts ex (r9 ts a).at_ (a+1,0)).1;rw[hz] at h2 ⊢;exact b9U k1 k2 hok hpk hsg h2
  rw[d3G s5];rw[show w9 ts a7U (a,0)=none by unfold a7U;rw[w9,d3G s1,w9,d3G s2,w9,d3G s3,w9,d3G s4,w9,d3G s5,w9]] at hsg;have h2:=b6s hl2 (p:=(a,0)) hp 5 (by decide);simp only;rw[b2f];exact c6m k1 k2 hok hpk hsg h2
 ·unfold I3;rw[d3I h0];unfold N2 at hok ⊢;rw[d3T (show ((a,c):PE).2≠0 from h0)] at hok;simp only;rw[b2f];exact c9q hok
abbrev gAt:ByteArray:=⟨#[64]⟩
abbrev a85:ByteArray:=⟨#[94]⟩
def a4O (ts:List Tok) (m:Nat) (op:Int) (pr:PF) (p:PE):PL×PE :=
 if m=0\/(j7 ts (p.1+1,0)).2.2≠0 then (zPL,M5 m (j7 ts (p.1+1,0)).2)
 else (A9 op (j7 ts (p.1+1,0)).1 ⟨#[]⟩ (r9 ts p.1).at_ [(pr (j7 ts (p.1+1,0)).2).1],(pr (j7 ts (p.1+1,0)).2).2)
def a2F (ts:List Tok) (m:Nat) (nx pr:PF) (p:PE):PL×PE :=
 if B1 ts gAt p=true then a4O ts m 46 pr p else if B1 ts a85 p=true then a4O ts m 47 pr p else nx p
theorem d1U {ts:List Tok} (hE:y5 ts) (m:Nat) {nx pr:PF} (hn:E3 ts nx) (hf:E3 ts pr):E3 ts (a2F ts m nx pr):=λp hp=>by
 have key:∀(s:ByteArray) (op:Int),B1 ts s p=true->FitP ts p (a4O ts m op pr p):=λs op h=>by
  obtain⟨k1,k2⟩:=o9 hE hp h;obtain⟨b1,b2,b3⟩:=r8 hE (p:=(p.1+1,0)) k1;simp only at b2 b3;unfold a4O;generalize (j7 ts (p.1+1,0)).1=w at *;generalize (j7 ts (p.1+1,0)).2=q at *
  split
  ·rename_i hd
   have hq:(M5 m q).1=q.1/\(M5 m q).2≠0:=by
    unfold M5
    by_cases hm:m=0
    ·rw[d3I hm];exact C8 6 (by decide) q
    ·rw[d3G hm];exact⟨rfl,hd.resolve_left hm⟩
   exact⟨by simp only;omega,by simp only;omega,by show 0+2 * p.1<=2 * (M5 m q).1+2;omega,λh=>absurd h hq.2⟩
  ·rename_i hd
   have hq:q.2=0:=by
    by_cases h0:q.2=0
    ·exact h0
    ·exact absurd (.inr h0) hd
   have hb3:=(b3 hq).2;have hb:=hf q b1;have l1:=hb.lo;have l2:=hb.sz;have l4:=hb.ok;have e:(A9 op w ⟨#[]⟩ (r9 ts p.1).at_ [(pr q).1]).2.length=(pr q).1.2.length+1:=by simp[A9,C9]
   exact⟨by simp only;omega,hb.hi,by simp only;omega,λh=>⟨k2,by have:=(l4 h).2;simp only;omega⟩⟩
 unfold a2F
 split
 ·rename_i h;exact key _ _ h
 split
 ·rename_i h;exact key _ _ h
 ·exact hn p hp
end Go.Proofs.YtdjnoafijjepcaaGreat.Vm
end
