/- Part 16 of the proof. Conditions: none. -/
import Derived.Test.YtahpnackkmbmgaaF4
import Derived.Test.YtahpnackkmbmgaaF6
import Derived.Test.YtahpnackkmbmgaaF10
import Derived.Test.YtahpnackkmbmgaaF14
import Derived.Test.YtahpnackkmbmgaaF15
import Derived.Test.YtahpnackkmbmgaaF0
set_option linter.all false
set_option linter.unusedVariables false
set_option linter.unusedSimpArgs false
section
namespace Go.Proofs.Ytahpnackkmbmgaa.Vm
open Go.RowKit
set_option maxRecDepth 100000
set_option maxHeartbeats 4000000
abbrev a1L:Tm:=.mk 0 N5 N5 0 false s8 []
def zPL:PL:=(a1L,[])
def C0 (op:Int) (nm ar:ByteArray) (n:Int) (h:Bool) (ann:Ty) (a:Int) (ks:List PL):PL:=(.mk op nm ar n h ann (ks.map fun p=>p.1),a::ks.flatMap fun p=>p.2)
abbrev y7 (op:Int) (nm ar:ByteArray) (a:Int) (ks:List PL):PL:=C0 op nm ar 0 false s8 a ks
def a1u (op:Int) (nm:ByteArray) (n a:Int):PL:=(.mk op nm N5 n false s8 [],[a])
theorem b0h:cP zPL=cZ:=by
 unfold cP zPL a1L s8
 rw [cM,cT,rT,rM]
 rfl
theorem A4.reread {f:Nat} {vs:List V} {os:List O} {r r2:List V} (h:A4 f vs os (fun res os2=>res=r∧os2=os)) (hv:∀(I:Nat→Nat→Prop) (w:World) (g:Nat→Value) (us:List Value),j8 I w g us r→j8 I w g us r2):A4 f vs os (fun res os2=>res=r2∧os2=os) :=
 ⟨h.1,fun I w g args hr=>(h.2 I w g args hr).mono fun e w' ⟨us,res,os2,I',g',e1,⟨⟨q1,q2⟩,e2⟩,e3⟩=>⟨us,r2,os2,I',g',e1,⟨⟨rfl,q2⟩,e2⟩,⟨e3.im,e3.lt,e3.fr,e3.kp,e3.lo,e3.st,e3.obj,e3.dis,e3.out,hv _ _ _ _ (q1 ▸ e3.tmp),e3.dfr⟩⟩⟩
theorem b55 {I:Nat→Nat→Prop} {w:World} {g:Nat→Value} {op n:Int} {nm ar:ByteArray} {h:Bool} {x:List V} {us:List Value} (hv:j8 I w g us (.ag (b6E op nm ar n h)::x)):j8 I w g us (.ag (b3N op nm ar n h (.sc (.int .u8 0)) (.sc (.string ⟨#[]⟩)) (.sc (.int .i64 0)) (.sl 4 []))::x):=by
 obtain ⟨u,us,rfl,h1,h2⟩:=hv.uncons
 obtain ⟨vs,rfl,h3⟩:=h1.unag
 exact .cons (M7 (b1q (cs:=b6E op nm ar n h) ⟨.inl rfl,.inl rfl,.inl rfl,.inl rfl,.inl rfl,.inl rfl,.inl rfl,.inl rfl,.inr ⟨rfl,_,rfl⟩,.inl rfl,trivial⟩ h3)) h2
theorem a1v (op:Int) (nm ar:ByteArray) (n:Int) (h:Bool) (a:Int) (ks:List PL) (hn:ks.length≤1048576) (hf:(ks.flatMap fun p=>p.2).length≤1048576) :
  A4 65 [.ag (b6E op nm ar n h),vi .i64 a,.d (.sl 11 (rP ks))] [] (fun res os=>res=[.ag (y5 (cP (C0 op nm ar n h s8 a ks)))]∧os=[]):=by
 have h1:=(b9v op nm ar n h (.sc (.int .u8 0)) (.sc (.string ⟨#[]⟩)) (.sc (.int .i64 0)) (.sl 4 []) a ks hn hf).args fun I w g us hv=>b55 hv
 have e:y5 (cP (C0 op nm ar n h s8 a ks))=[vi .u8 op,vs nm,vs ar,vi .i64 n,vb h,.d (.sc (.int .u8 0)),.d (.sc (.string ⟨#[]⟩)),.d (.sc (.int .i64 0)),.d (.sl 4 []),.d (.sl 10 (rM (ks.map fun p=>p.1))),.d (.sl 1 (rZ (a::ks.flatMap fun p=>p.2)))]:=by
  unfold cP C0 s8
  rw [cM,cT,rT]
  rfl
 rw [e]
 exact h1
theorem b9W (op:Int) (nm ar:ByteArray) (n:Int) (h:Bool) (t:Ty) (y:Nat→D) (hy:cT t=c4 y) (a:Int) (ks:List PL) (hn:ks.length≤1048576) (hf:(ks.flatMap fun p=>p.2).length≤1048576) :
  A4 65 [.ag (b3N op nm ar n h (y 0) (y 1) (y 2) (y 3)),vi .i64 a,.d (.sl 11 (rP ks))] [] (fun res os=>res=[.ag (y5 (cP (C0 op nm ar n h t a ks)))]∧os=[]):=by
 have h1:=b9v op nm ar n h (y 0) (y 1) (y 2) (y 3) a ks hn hf
 have e:y5 (cP (C0 op nm ar n h t a ks))=[vi .u8 op,vs nm,vs ar,vi .i64 n,vb h,.d (y 0),.d (y 1),.d (y 2),.d (y 3),.d (.sl 10 (rM (ks.map fun p=>p.1))),.d (.sl 1 (rZ (a::ks.flatMap fun p=>p.2)))]:=by
  unfold cP C0
  rw [cM,hy]
  rfl
 rw [e]
 exact h1
theorem b4f (op:Int) (nm:ByteArray) (n a:Int):A4 92 [.ag (b6E op nm ⟨#[]⟩ n false),vi .i64 a] [] (fun res os=>res=[.ag (y5 (cP (a1u op nm n a)))]∧os=[]):=by
 have h1:=(c4R (op:=op) (nm:=nm) (ar:=⟨#[]⟩) (n:=n) (h:=false) (a:=a) (y0:=.sc (.int .u8 0)) (y1:=.sc (.string ⟨#[]⟩)) (y2:=.sc (.int .i64 0)) (y3:=.sl 4 [])).args fun I w g us hv=>b55 hv
 have e:y5 (cP (a1u op nm n a))=[vi .u8 op,vs nm,vs ⟨#[]⟩,vi .i64 n,vb false,.d (.sc (.int .u8 0)),.d (.sc (.string ⟨#[]⟩)),.d (.sc (.int .i64 0)),.d (.sl 4 []),.d (.sl 10 []),.d (.sl 1 [[.sc (.int .i64 a)]])]:=by
  unfold cP a1u s8
  rw [cM,cT,rT,rM]
  rfl
 rw [e]
 refine h1.reread fun I w g us hv=>?_
 obtain ⟨u,us,rfl,h1,h2⟩:=hv.uncons
 obtain ⟨vs,rfl,h3⟩:=h1.unag
 refine .cons (M7 (h3.reset (i:=9) fun v hv=>?_)) h2
 have h4:=h3.2 9 v _ hv rfl
 cases h4 with
 | d h4=>exact .d (h4.empty 10)
abbrev PF:=PE→PL×PE
structure FitP (ts:List Tok) (p:PE) (r:PL×PE):Prop where
 lo:p.1≤r.2.1
 hi:r.2.1<ts.length
 sz:r.1.2.length+2 * p.1≤2 * r.2.1+2
 ok:r.2.2=0→p.2=0∧r.1.2.length+2 * p.1+1≤2 * r.2.1
def B6 (ts:List Tok) (nx:PF):Prop:=∀p:PE,p.1<ts.length→FitP ts p (nx p)
def a0M (sg:List ByteArray) (nx:PF) (ts:List Tok) (a:Int):Nat→PL×PE→PL×PE
 | 0,s=>s
 | k+1,s=>match r7 ts sg s.2 with
  | none=>s
  | some g=>a0M sg nx ts a k (y7 40 g N5 a [s.1,(nx (s.2.1+1,0)).1],(nx (s.2.1+1,0)).2)
theorem P6 {ts:List Tok} (hE:m8 ts) {p:PE} (hp:p.1<ts.length):∀ {l:List ByteArray} {g:ByteArray},r7 ts l p=some g→p.2=0∧p.1+1<ts.length∧g∈l
 | s::l,g,h=>by
  rw [r7] at h
  split at h
  ·rename_i hs
   injection h with h
   subst h
   obtain ⟨h1,h2⟩:=I4 hE hp hs
   exact ⟨h1,h2,c8V ..⟩
  ·obtain ⟨h1,h2,h3⟩:=P6 hE hp h
   exact ⟨h1,h2,c8X _ h3⟩
theorem b0i {sg:List ByteArray} {nx:PF} {ts:List Tok} {a:Int} (hE:m8 ts) (hf:B6 ts nx):∀(k m:Nat) (s:PL×PE),s.2.1<ts.length→ts.length - s.2.1≤k→ts.length - s.2.1≤m→a0M sg nx ts a k s=a0M sg nx ts a m s
 | 0,m,s,h,h1,h2=>by omega
 | k+1,0,s,h,h1,h2=>by omega
 | k+1,m+1,s,h,h1,h2=>by
  rw [a0M,a0M]
  cases hs:r7 ts sg s.2 with
  | none=>rfl
  | some g =>
   obtain ⟨_,h4,_⟩:=P6 hE h hs
   have hn:=hf (s.2.1+1,0) h4
   exact b0i hE hf k m _ hn.hi (by have:=hn.lo;show ts.length - (nx (s.2.1+1,0)).2.1≤k;omega) (by have:=hn.lo;show ts.length - (nx (s.2.1+1,0)).2.1≤m;omega)
def SzP (b:Nat) (s:PL×PE):Prop:=b≤s.2.1∧s.1.2.length+2 * b≤2 * s.2.1+2∧(s.2.2=0→s.1.2.length+2 * b+1≤2 * s.2.1)
theorem a6l {nx:PF} {ts:List Tok} (hE:m8 ts) (hf:B6 ts nx) {b:Nat} {op:Int} {nm ar:ByteArray} {a:Int} {s:PL×PE} (hs:SzP b s) (h0:s.2.2=0) (h:s.2.1+1<ts.length):SzP b (y7 op nm ar a [s.1,(nx (s.2.1+1,0)).1],(nx (s.2.1+1,0)).2):=by
 have hn:=hf (s.2.1+1,0) h
 obtain ⟨h1,h2,h3⟩:=hs
 have h3:=h3 h0
 have l1:=hn.lo
 have l2:=hn.sz
 have l3:=hn.ok
 simp only at l1 l2 l3
 unfold SzP y7 C0
 simp only [c9q,c9y,c9i,c9a,c8U]
 exact ⟨by omega,by omega,fun h=>by have:=(l3 h).2;omega⟩
def c6G (ts:List Tok) (b:Nat) (sg:List ByteArray) (nx:PF) (a:Int) (r:PL×PE) (x:(Nat→D)×Int×Int×Int):Prop:=∃y:PL×PE,cP y.1=cE x.1∧(x.2.1,x.2.2.1,x.2.2.2)=U8 ts y.2∧y.2.1<ts.length∧SzP b y∧r=a0M sg nx ts a ts.length y
theorem b56 {sg:List ByteArray} {nx:PF} {ts:List Tok} {a:Int} (hE:m8 ts) (hf:B6 ts nx) {y:PL×PE} (h:y.2.1<ts.length):a0M sg nx ts a ts.length y=match r7 ts sg y.2 with
  | none=>y
  | some g=>a0M sg nx ts a ts.length (y7 40 g N5 a [y.1,(nx (y.2.1+1,0)).1],(nx (y.2.1+1,0)).2):=by
 have e:a0M sg nx ts a ts.length y=a0M sg nx ts a (ts.length+1) y:=b0i hE hf _ _ y h (by omega) (by omega)
 rw [e,a0M]
abbrev a5u:List ByteArray:=[⟨#[43]⟩,⟨#[45]⟩]
def b9X (nx:PF) (ts:List Tok) (p:PE):PL×PE:=a0M a5u nx ts (l9 ts p.1).at_ ts.length (nx p)
theorem c6H {ts:List Tok} (hE:m8 ts) (hl:ts.length≤65537) {L:Int} {nx:PF} (hf:B6 ts nx) (hx:∀p:PE,p.1<ts.length→G9 93 [vi .i64 L] ts p [.ag (y5 (cP (nx p).1))] (nx p).2) (p:PE) (hp:p.1<ts.length) :
  G9 66 [vi .i64 L] ts p [.ag (y5 (cP (b9X nx ts p).1))] (b9X nx ts p).2:=by
 have hh:=a4c (by omega:ts.length≤1048576) hp
 have hn:=hf p hp
 have h1:=hx p hp
 have hsg:∀q:PE,q.1<ts.length→G9 94 [.d (.sl 1 [[.sc (.string ⟨#[43]⟩)],[.sc (.string ⟨#[45]⟩)]])] ts q [vs ((r7 ts a5u q).getD N5)] (a1A ts a5u q):=fun q hq=>a8E (by omega) hq a5u (by decide)
 have hov:=fun g a x y hf=>a1v 40 g ⟨#[]⟩ 0 false a [x,y] (by simp only [c9a,c9n];omega) hf
 unfold b9X
 generalize (l9 ts p.1).at_=pl at *
 obtain ⟨rr,hrr⟩:∃rr,rr=a0M a5u nx ts pl ts.length (nx p):=⟨_,rfl⟩
 rw [←hrr]
 obtain ⟨x1,hx1⟩:=A8 (nx p).1
 unfold G9 at hh h1 ⊢
 rw [hx1] at h1
 obtain ⟨s0,hs0⟩:∃s0,s0=U8 ts p:=⟨_,rfl⟩
 obtain ⟨s1,hs1⟩:∃s1,s1=U8 ts (nx p).2:=⟨_,rfl⟩
 obtain ⟨s9,hs9⟩:∃s9,s9=U8 ts rr.2:=⟨_,rfl⟩
 obtain ⟨R9,hR9⟩:∃R9,R9=cP rr.1:=⟨_,rfl⟩
 rw [←hs0] at hh h1
 rw [←hs1] at h1
 rw [←hs0,←hs9,←hR9]
 obtain ⟨inv,hi⟩:∃inv,inv=c6G ts p.1 a5u nx pl rr:=⟨_,rfl⟩
 have hi0:inv (x1,s1.1,s1.2.1,s1.2.2):=by rw [hi];exact ⟨nx p,hx1,hs1,hn.hi,⟨hn.lo,hn.sz,fun h=>(hn.ok h).2⟩,hrr⟩
 obtain ⟨mu,hmu⟩:∃mu:(Nat→D)×Int×Int×Int→Nat,mu=fun x=>ts.length - x.2.2.2.toNat:=⟨_,rfl⟩
 generalize hT:H8 ts=T at *
 obtain ⟨a0,b0,d0⟩:=s0
 obtain ⟨a1,b1,d1⟩:=s1
 obtain ⟨a9,b9,d9⟩:=s9
 refine N9 Try.func66 rfl ?_;intro _ _ _ _ _ _ _ _ _ _ _ qm _ qp _ _ _ _ _ _ _ _ _ _ _ _ _ _ _ _ _ _ _ _ _ _ _ _ _ _ _ vw;intros;rename_i hA
 obtain ⟨e1,e2,e3,e4,e5,e6,e7,e8,e9⟩:=m6 hA
 obtain ⟨c1,c2,c3,c4_,c5,c6,c7⟩:=I3 hA
 iterate 2 (try cbv;repeat ((first|with_reducible apply f8 hA|refine v7 hA [0,1] hh ?_|refine v7 hA [0,1] h1 ?_);cbv))
 try simp (maxSteps:=4000000) only [nc] at *
 refine o7 hA (γ:=(Nat→D)×Int×Int×Int) (fun x=>[(12,.jk)]) (fun x=>[(0,.box [.ptr 1 0,vi .u8 x.2.1,vi .i64 x.2.2.1]),(1,.box [.d (.sl 4 T),vi .i64 x.2.2.2]),(3,.box (y5 (cE x.1)))]) inv mu (x1,a1,b1,d1) hi0 ?_ ?_
 ·cbv
 ·intro x hinv
  obtain ⟨x,e,q,a⟩:=x
  cbv;refine gn ?_;try simp only [nc] at *
  rw [hi] at hinv
  obtain ⟨y,hy1,hy2,hyl,hsz,hr⟩:=hinv
  replace hy1:cP y.1=cE x:=hy1
  replace hy2:((e,q,a):ST)=U8 ts y.2:=hy2
  rw [b56 hE hf hyl] at hr
  have hs:=hsg y.2 hyl
  unfold G9 a1A at hs
  rw [←hy2,hT] at hs
  cases hso:r7 ts a5u y.2 with
  | none =>
   rw [hso] at hr hs
   dsimp only at hr hs
   rw [←hy2] at hs
   have hR:R9=cE x:=by rw [hR9,hr,hy1]
   have hss:((a9,b9,d9):ST)=(e,q,a):=by rw [hs9,hr,←hy2]
   injection hss with f0 f1
   injection f1 with f1 f2
   subst f0;subst f1;subst f2
   rw [hR]
   have q1:qm (qp ⟨#[]⟩) (qp ⟨#[]⟩)=true:=by rw [c1];exact c9T _
   clear hs9 hR9 hr hy2 hso hi0
   have p0:=hs;exact T1
  | some g =>
   rw [hso] at hr hs
   dsimp only [d1c] at hr hs
   obtain ⟨k1,k2,k3⟩:=P6 hE hyl hso
   have hsz2:=a6l hE hf (op:=40) (nm:=g) (ar:=N5) (a:=pl) hsz k1 k2
   have hn2:=hf (y.2.1+1,0) k2
   have hp2:=hx (y.2.1+1,0) k2
   unfold G9 at hp2
   have ho:=hov g pl y.1 (nx (y.2.1+1,0)).1 (by
    have h1:=hsz2.2.1
    have h2:=hn2.hi
    simp only [y7,C0,c9q,c9y,c9i,c9a,c8U] at h1 ⊢
    omega)
   have q1:qm (qp g) (qp ⟨#[]⟩)=false:=by
    simp only [c9e,d0J,or_false] at k3
    rcases k3 with rfl|rfl <;> (simp only [c1,c3,ByteArray.toList_eq];rfl)
   obtain ⟨z,hz⟩:∃z,z=y7 40 g N5 pl [y.1,(nx (y.2.1+1,0)).1]:=⟨_,rfl⟩
   obtain ⟨x2,hx2⟩:=A8 (nx (y.2.1+1,0)).1
   obtain ⟨x3,hx3⟩:=A8 z
   rw [show rP [y.1,(nx (y.2.1+1,0)).1]=[cE x,cE x2] by unfold rP;rw [c9m,c9m,c9O,hy1,hx2],show cP (C0 40 g ⟨#[]⟩ 0 false s8 pl [y.1,(nx (y.2.1+1,0)).1])=cE x3 by rw [←hx3,hz]] at ho
   rw [hx2,hT] at hp2
   have ha:a=(y.2.1:Int):=congrArg (fun s:ST=>s.2.2) hy2
   have hin:inv (x3,U8 ts (nx (y.2.1+1,0)).2):=by rw [hi];exact ⟨(z,(nx (y.2.1+1,0)).2),hx3,rfl,hn2.hi,by rw [hz];exact hsz2,by rw [hz];exact hr⟩
   have hmu9:mu (x3,U8 ts (nx (y.2.1+1,0)).2)<mu (x,e,q,a):=by
    rw [hmu]
    show ts.length - (((nx (y.2.1+1,0)).2.1:Nat):Int).toNat<ts.length - a.toNat
    have:=hn2.lo
    rw [ha]
    simp only [c9o] at this ⊢
    omega
   generalize U8 ts (y.2.1+1,0)=s2 at *
   generalize U8 ts (nx (y.2.1+1,0)).2=s3 at *
   obtain ⟨a2,b2,d2⟩:=s2
   obtain ⟨a3,b3,d3⟩:=s3
   have hp2b:=n7.box hp2 rfl
   clear hs9 hR9 hr hy2 hso hi0 hsz2 hn2 hz hx3 hx2 hy1
   have p0:=hs;have p1:=hp2;have o0:=ho;have hi:=hin;have hm:=hmu9;exact T1
abbrev a1M:List ByteArray:=[⟨#[42]⟩,⟨#[47]⟩,⟨#[37]⟩]
def a6A (nx:PF) (ts:List Tok) (p:PE):PL×PE:=a0M a1M nx ts (l9 ts p.1).at_ ts.length (nx p)
theorem c5i {ts:List Tok} (hE:m8 ts) (hl:ts.length≤65537) {L:Int} {nx:PF} (hf:B6 ts nx) (hx:∀p:PE,p.1<ts.length→G9 108 [vi .i64 L] ts p [.ag (y5 (cP (nx p).1))] (nx p).2) (p:PE) (hp:p.1<ts.length) :
  G9 93 [vi .i64 L] ts p [.ag (y5 (cP (a6A nx ts p).1))] (a6A nx ts p).2:=by
 have hh:=a4c (by omega:ts.length≤1048576) hp
 have hn:=hf p hp
 have h1:=hx p hp
 have hsg:∀q:PE,q.1<ts.length→G9 94 [.d (.sl 1 [[.sc (.string ⟨#[42]⟩)],[.sc (.string ⟨#[47]⟩)],[.sc (.string ⟨#[37]⟩)]])] ts q [vs ((r7 ts a1M q).getD N5)] (a1A ts a1M q):=fun q hq=>a8E (by omega) hq a1M (by decide)
 have hov:=fun g a x y hf=>a1v 40 g ⟨#[]⟩ 0 false a [x,y] (by simp only [c9a,c9n];omega) hf
 unfold a6A
 generalize (l9 ts p.1).at_=pl at *
 obtain ⟨rr,hrr⟩:∃rr,rr=a0M a1M nx ts pl ts.length (nx p):=⟨_,rfl⟩
 rw [←hrr]
 obtain ⟨x1,hx1⟩:=A8 (nx p).1
 unfold G9 at hh h1 ⊢
 rw [hx1] at h1
 obtain ⟨s0,hs0⟩:∃s0,s0=U8 ts p:=⟨_,rfl⟩
 obtain ⟨s1,hs1⟩:∃s1,s1=U8 ts (nx p).2:=⟨_,rfl⟩
 obtain ⟨s9,hs9⟩:∃s9,s9=U8 ts rr.2:=⟨_,rfl⟩
 obtain ⟨R9,hR9⟩:∃R9,R9=cP rr.1:=⟨_,rfl⟩
 rw [←hs0] at hh h1
 rw [←hs1] at h1
 rw [←hs0,←hs9,←hR9]
 obtain ⟨inv,hi⟩:∃inv,inv=c6G ts p.1 a1M nx pl rr:=⟨_,rfl⟩
 have hi0:inv (x1,s1.1,s1.2.1,s1.2.2):=by rw [hi];exact ⟨nx p,hx1,hs1,hn.hi,⟨hn.lo,hn.sz,fun h=>(hn.ok h).2⟩,hrr⟩
 obtain ⟨mu,hmu⟩:∃mu:(Nat→D)×Int×Int×Int→Nat,mu=fun x=>ts.length - x.2.2.2.toNat:=⟨_,rfl⟩
 generalize hT:H8 ts=T at *
 obtain ⟨a0,b0,d0⟩:=s0
 obtain ⟨a1,b1,d1⟩:=s1
 obtain ⟨a9,b9,d9⟩:=s9
 refine N9 Try.func93 rfl ?_;intro _ _ _ _ _ _ _ _ _ _ _ qm _ qp _ _ _ _ _ _ _ _ _ _ _ _ _ _ _ _ _ _ _ _ _ _ _ _ _ _ _ vw;intros;rename_i hA
 obtain ⟨e1,e2,e3,e4,e5,e6,e7,e8,e9⟩:=m6 hA
 obtain ⟨c1,c2,c3,c4_,c5,c6,c7⟩:=I3 hA
 iterate 2 (try cbv;repeat ((first|with_reducible apply f8 hA|refine v7 hA [0,1] hh ?_|refine v7 hA [0,1] h1 ?_);cbv))
 try simp (maxSteps:=4000000) only [nc] at *
 refine o7 hA (γ:=(Nat→D)×Int×Int×Int) (fun x=>[(12,.jk)]) (fun x=>[(0,.box [.ptr 1 0,vi .u8 x.2.1,vi .i64 x.2.2.1]),(1,.box [.d (.sl 4 T),vi .i64 x.2.2.2]),(3,.box (y5 (cE x.1)))]) inv mu (x1,a1,b1,d1) hi0 ?_ ?_
 ·cbv
 ·intro x hinv
  obtain ⟨x,e,q,a⟩:=x
  cbv;refine gn ?_;try simp only [nc] at *
  rw [hi] at hinv
  obtain ⟨y,hy1,hy2,hyl,hsz,hr⟩:=hinv
  replace hy1:cP y.1=cE x:=hy1
  replace hy2:((e,q,a):ST)=U8 ts y.2:=hy2
  rw [b56 hE hf hyl] at hr
  have hs:=hsg y.2 hyl
  unfold G9 a1A at hs
  rw [←hy2,hT] at hs
  cases hso:r7 ts a1M y.2 with
  | none =>
   rw [hso] at hr hs
   dsimp only at hr hs
   rw [←hy2] at hs
   have hR:R9=cE x:=by rw [hR9,hr,hy1]
   have hss:((a9,b9,d9):ST)=(e,q,a):=by rw [hs9,hr,←hy2]
   injection hss with f0 f1
   injection f1 with f1 f2
   subst f0;subst f1;subst f2
   rw [hR]
   have q1:qm (qp ⟨#[]⟩) (qp ⟨#[]⟩)=true:=by rw [c1];exact c9T _
   clear hs9 hR9 hr hy2 hso hi0
   have p0:=hs;exact T1
  | some g =>
   rw [hso] at hr hs
   dsimp only [d1c] at hr hs
   obtain ⟨k1,k2,k3⟩:=P6 hE hyl hso
   have hsz2:=a6l hE hf (op:=40) (nm:=g) (ar:=N5) (a:=pl) hsz k1 k2
   have hn2:=hf (y.2.1+1,0) k2
   have hp2:=hx (y.2.1+1,0) k2
   unfold G9 at hp2
   have ho:=hov g pl y.1 (nx (y.2.1+1,0)).1 (by
    have h1:=hsz2.2.1
    have h2:=hn2.hi
    simp only [y7,C0,c9q,c9y,c9i,c9a,c8U] at h1 ⊢
    omega)
   have q1:qm (qp g) (qp ⟨#[]⟩)=false:=by
    simp only [c9e,d0J,or_false] at k3
    rcases k3 with rfl|rfl|rfl <;> (simp only [c1,c3,ByteArray.toList_eq];rfl)
   obtain ⟨z,hz⟩:∃z,z=y7 40 g N5 pl [y.1,(nx (y.2.1+1,0)).1]:=⟨_,rfl⟩
   obtain ⟨x2,hx2⟩:=A8 (nx (y.2.1+1,0)).1
   obtain ⟨x3,hx3⟩:=A8 z
   rw [show rP [y.1,(nx (y.2.1+1,0)).1]=[cE x,cE x2] by unfold rP;rw [c9m,c9m,c9O,hy1,hx2],show cP (C0 40 g ⟨#[]⟩ 0 false s8 pl [y.1,(nx (y.2.1+1,0)).1])=cE x3 by rw [←hx3,hz]] at ho
   rw [hx2,hT] at hp2
   have ha:a=(y.2.1:Int):=congrArg (fun s:ST=>s.2.2) hy2
   have hin:inv (x3,U8 ts (nx (y.2.1+1,0)).2):=by rw [hi];exact ⟨(z,(nx (y.2.1+1,0)).2),hx3,rfl,hn2.hi,by rw [hz];exact hsz2,by rw [hz];exact hr⟩
   have hmu9:mu (x3,U8 ts (nx (y.2.1+1,0)).2)<mu (x,e,q,a):=by
    rw [hmu]
    show ts.length - (((nx (y.2.1+1,0)).2.1:Nat):Int).toNat<ts.length - a.toNat
    have:=hn2.lo
    rw [ha]
    simp only [c9o] at this ⊢
    omega
   generalize U8 ts (y.2.1+1,0)=s2 at *
   generalize U8 ts (nx (y.2.1+1,0)).2=s3 at *
   obtain ⟨a2,b2,d2⟩:=s2
   obtain ⟨a3,b3,d3⟩:=s3
   have hp2b:=n7.box hp2 rfl
   clear hs9 hR9 hr hy2 hso hi0 hsz2 hn2 hz hx3 hx2 hy1
   have p0:=hs;have p1:=hp2;have o0:=ho;have hi:=hin;have hm:=hmu9;exact T1
theorem b2P {sg:List ByteArray} {nx:PF} {ts:List Tok} {a:Int} {b:Nat} (hE:m8 ts) (hf:B6 ts nx):∀(k:Nat) (s:PL×PE),SzP b s→s.2.1<ts.length→SzP b (a0M sg nx ts a k s)∧(a0M sg nx ts a k s).2.1<ts.length
 | 0,s,h,h1=>⟨h,h1⟩
 | k+1,s,h,h1=>by
  rw [a0M]
  cases hs:r7 ts sg s.2 with
  | none=>exact ⟨h,h1⟩
  | some g =>
   obtain ⟨h3,h4,_⟩:=P6 hE h1 hs
   exact b2P hE hf k _ (a6l hE hf h h3 h4) (hf (s.2.1+1,0) h4).hi
theorem a3G {ts:List Tok} {p:PE} (h:p.2≠0):∀l:List ByteArray,r7 ts l p=none
 | []=>rfl
 | s::l=>by rw [r7,c8W (by unfold B3;rw [c9f h,d1p];decide),a3G h l]
theorem b9Y {sg:List ByteArray} {nx:PF} {ts:List Tok} {a:Int} {s:PL×PE} (h:s.2.2≠0):∀k,a0M sg nx ts a k s=s
 | 0=>rfl
 | k+1=>by rw [a0M,a3G h]
theorem SzP.fit {ts:List Tok} {p:PE} {r:PL×PE} (h:SzP p.1 r) (h1:r.2.1<ts.length) (h2:r.2.2=0→p.2=0):FitP ts p r:=⟨h.1,h1,h.2.1,fun h0=>⟨h2 h0,h.2.2 h0⟩⟩
theorem FitP.size {ts:List Tok} {p:PE} {r:PL×PE} (h:FitP ts p r):SzP p.1 r:=⟨h.lo,h.sz,fun h0=>(h.ok h0).2⟩
theorem c5j {sg:List ByteArray} {nx:PF} {ts:List Tok} {a:PE→Int} (hE:m8 ts) (hf:B6 ts nx):B6 ts fun p=>a0M sg nx ts (a p) ts.length (nx p):=fun p hp=>by
 have h:=hf p hp
 obtain ⟨h1,h2⟩:=b2P (sg:=sg) (a:=a p) hE hf ts.length (nx p) h.size h.hi
 refine h1.fit h2 fun h0=>?_
 by_cases hz:(nx p).2.2=0
 ·exact (h.ok hz).1
 ·rw [b9Y hz] at h0;exact absurd h0 hz
abbrev a3H:List ByteArray:=[⟨#[64]⟩,⟨#[94]⟩,⟨#[116,114,117,101]⟩,⟨#[102,97,108,115,101]⟩,⟨#[40]⟩,⟨#[123]⟩,⟨#[99,97,115,101]⟩]
def K6 (t:Tok):Bool:=t.kind == 1 || (t.kind == 2 || (t.kind == 3 && a3H.any fun s=>t.text.toList == s.toList))
theorem b9Z (t:Tok):A0 118 [.ag (tkD t)] [.one (.sc (.bool (K6 t)))]:=by
 unfold tkD K6 a3H
 generalize t.kind=k
 generalize t.text=x
 generalize t.n=n
 generalize t.at_=p
 simp only [List.any_cons,List.any_nil,Bool.or_false]
 obtain ⟨b0,hb0⟩:∃b,b=(x.toList == (⟨#[64]⟩:ByteArray).toList):=⟨_,rfl⟩
 obtain ⟨b1,hb1⟩:∃b,b=(x.toList == (⟨#[94]⟩:ByteArray).toList):=⟨_,rfl⟩
 obtain ⟨b2,hb2⟩:∃b,b=(x.toList == (⟨#[116,114,117,101]⟩:ByteArray).toList):=⟨_,rfl⟩
 obtain ⟨b3,hb3⟩:∃b,b=(x.toList == (⟨#[102,97,108,115,101]⟩:ByteArray).toList):=⟨_,rfl⟩
 obtain ⟨b4,hb4⟩:∃b,b=(x.toList == (⟨#[40]⟩:ByteArray).toList):=⟨_,rfl⟩
 obtain ⟨b5,hb5⟩:∃b,b=(x.toList == (⟨#[123]⟩:ByteArray).toList):=⟨_,rfl⟩
 obtain ⟨b6,hb6⟩:∃b,b=(x.toList == (⟨#[99,97,115,101]⟩:ByteArray).toList):=⟨_,rfl⟩
 rw [←hb0,←hb1,←hb2,←hb3,←hb4,←hb5,←hb6]
 obtain ⟨k1,hk1⟩:∃b,b=(k == 1):=⟨_,rfl⟩
 obtain ⟨k2,hk2⟩:∃b,b=(k == 2):=⟨_,rfl⟩
 obtain ⟨k3,hk3⟩:∃b,b=(k == 3):=⟨_,rfl⟩
 rw [←hk1,←hk2,←hk3]
 refine sp9 Try.func118 rfl ?_;intro _ _ _ _ _ _ _ _ _ qk _ qm _ qp;intros;rename_i hA
 obtain ⟨e1,e2,e3,e4,e5,e6,e7,e8,e9⟩:=m6 hA
 obtain ⟨c1,c2,c3,c4_,c5,c6,c7⟩:=I3 hA
 have q1:qk k 1=k1:=by rw [e9,hk1]
 have q2:qk k 2=k2:=by rw [e9,hk2]
 have q3:qk k 3=k3:=by rw [e9,hk3]
 have r0:qm (qp x) (qp ⟨#[64]⟩)=b0:=by rw [c1,c3,c3,hb0]
 have r1:qm (qp x) (qp ⟨#[94]⟩)=b1:=by rw [c1,c3,c3,hb1]
 have r2:qm (qp x) (qp ⟨#[116,114,117,101]⟩)=b2:=by rw [c1,c3,c3,hb2]
 have r3:qm (qp x) (qp ⟨#[102,97,108,115,101]⟩)=b3:=by rw [c1,c3,c3,hb3]
 have r4:qm (qp x) (qp ⟨#[40]⟩)=b4:=by rw [c1,c3,c3,hb4]
 have r5:qm (qp x) (qp ⟨#[123]⟩)=b5:=by rw [c1,c3,c3,hb5]
 have r6:qm (qp x) (qp ⟨#[99,97,115,101]⟩)=b6:=by rw [c1,c3,c3,hb6]
 clear hb0 hb1 hb2 hb3 hb4 hb5 hb6 hk1 hk2 hk3
 cases k1
 ·cases k2
  ·cases k3
   ·try cbv;exact fr
   ·cases b0
    ·cases b1
     ·cases b2
      ·cases b3
       ·cases b4
        ·cases b5
         ·cases b6
          ·iterate 2 (try cbv;repeat ((first|with_reducible apply f8 hA|rw [q1]|rw [q2]|rw [q3]|rw [r0]|rw [r1]|rw [r2]|rw [r3]|rw [r4]|rw [r5]|rw [r6]);cbv))
          ·iterate 2 (try cbv;repeat ((first|with_reducible apply f8 hA|rw [q1]|rw [q2]|rw [q3]|rw [r0]|rw [r1]|rw [r2]|rw [r3]|rw [r4]|rw [r5]|rw [r6]);cbv))
         ·iterate 2 (try cbv;repeat ((first|with_reducible apply f8 hA|rw [q1]|rw [q2]|rw [q3]|rw [r0]|rw [r1]|rw [r2]|rw [r3]|rw [r4]|rw [r5]);cbv))
        ·iterate 2 (try cbv;repeat ((first|with_reducible apply f8 hA|rw [q1]|rw [q2]|rw [q3]|rw [r0]|rw [r1]|rw [r2]|rw [r3]|rw [r4]);cbv))
       ·iterate 2 (try cbv;repeat ((first|with_reducible apply f8 hA|rw [q1]|rw [q2]|rw [q3]|rw [r0]|rw [r1]|rw [r2]|rw [r3]);cbv))
      ·iterate 2 (try cbv;repeat ((first|with_reducible apply f8 hA|rw [q1]|rw [q2]|rw [q3]|rw [r0]|rw [r1]|rw [r2]);cbv))
     ·iterate 2 (try cbv;repeat ((first|with_reducible apply f8 hA|rw [q1]|rw [q2]|rw [q3]|rw [r0]|rw [r1]);cbv))
    ·iterate 2 (try cbv;repeat ((first|with_reducible apply f8 hA|rw [q1]|rw [q2]|rw [q3]|rw [r0]);cbv))
  ·try cbv;exact fr
 ·try cbv;exact fr
def StF (ts:List Tok) (pr:PF):Prop:=∀p:PE,p.1<ts.length→p.2=0→K6 (l9 ts p.1)=true→p.1<(pr p).2.1
def a14 (pr:PF) (ts:List Tok) (a:Int):Nat→PL×PE→PL×PE
 | 0,s=>s
 | k+1,s=>if s.2.2=0∧K6 (l9 ts s.2.1)=true then a14 pr ts a k (y7 37 N5 N5 a [s.1,(pr s.2).1],(pr s.2).2) else s
theorem b0j {pr:PF} {ts:List Tok} {a:Int} (hf:B6 ts pr) (hst:StF ts pr):∀(k m:Nat) (s:PL×PE),s.2.1<ts.length→ts.length - s.2.1≤k→ts.length - s.2.1≤m→a14 pr ts a k s=a14 pr ts a m s
 | 0,m,s,h,h1,h2=>by omega
 | k+1,0,s,h,h1,h2=>by omega
 | k+1,m+1,s,h,h1,h2=>by
  rw [a14,a14]
  by_cases hs:s.2.2=0∧K6 (l9 ts s.2.1)=true
  ·rw [c8Y hs,c8Y hs]
   have hn:=hf s.2 h
   have h3:=hst s.2 h hs.1 hs.2
   exact b0j hf hst k m _ hn.hi (by show ts.length - (pr s.2).2.1≤k;omega) (by show ts.length - (pr s.2).2.1≤m;omega)
  ·rw [c8W hs,c8W hs]
theorem c25 {pr:PF} {ts:List Tok} {a:Int} (hf:B6 ts pr) (hst:StF ts pr) {y:PL×PE} (h:y.2.1<ts.length):a14 pr ts a ts.length y=if y.2.2=0∧K6 (l9 ts y.2.1)=true then a14 pr ts a ts.length (y7 37 N5 N5 a [y.1,(pr y.2).1],(pr y.2).2) else y:=by
 have e:a14 pr ts a ts.length y=a14 pr ts a (ts.length+1) y:=b0j hf hst _ _ y h (by omega) (by omega)
 rw [e,a14]
theorem b2Q {pr:PF} {ts:List Tok} (hf:B6 ts pr) {b:Nat} {a:Int} {s:PL×PE} (hs:SzP b s) (h0:s.2.2=0) (h:s.2.1<ts.length):SzP b (y7 37 N5 N5 a [s.1,(pr s.2).1],(pr s.2).2):=by
 have hn:=hf s.2 h
 obtain ⟨h1,h2,h3⟩:=hs
 have h3:=h3 h0
 have l1:=hn.lo
 have l2:=hn.sz
 have l3:=hn.ok
 unfold SzP y7 C0
 simp only [c9q,c9y,c9i,c9a,c8U]
 exact ⟨by omega,by omega,fun h=>by have:=(l3 h).2;omega⟩
theorem b2R {pr:PF} {ts:List Tok} {a:Int} {b:Nat} (hf:B6 ts pr):∀(k:Nat) (s:PL×PE),SzP b s→s.2.1<ts.length→SzP b (a14 pr ts a k s)∧(a14 pr ts a k s).2.1<ts.length
 | 0,s,h,h1=>⟨h,h1⟩
 | k+1,s,h,h1=>by
  rw [a14]
  by_cases hs:s.2.2=0∧K6 (l9 ts s.2.1)=true
  ·rw [c8Y hs]
   exact b2R hf k _ (b2Q hf h hs.1 h1) (hf s.2 h1).hi
  ·rw [c8W hs]
   exact ⟨h,h1⟩
def a8F (pr:PF) (ts:List Tok) (p:PE):PL×PE:=a14 pr ts (l9 ts p.1).at_ ts.length (pr p)
theorem c0a {pr:PF} {ts:List Tok} (hf:B6 ts pr):B6 ts (a8F pr ts):=fun p hp=>by
 have h:=hf p hp
 unfold a8F
 obtain ⟨h1,h2⟩:=b2R (a:=(l9 ts p.1).at_) hf ts.length (pr p) h.size h.hi
 refine h1.fit h2 fun h0=>?_
 by_cases hz:(pr p).2.2=0
 ·exact (h.ok hz).1
 ·have e:∀k,a14 pr ts (l9 ts p.1).at_ k (pr p)=pr p:=fun k=>by cases k with|zero=>rfl|succ k=>rw [a14,c8W (fun h=>hz h.1)]
  rw [e] at h0
  exact absurd h0 hz
def c8n (ts:List Tok) (b:Nat) (nx:PF) (a:Int) (r:PL×PE) (x:(Nat→D)×Int×Int×Int):Prop:=∃y:PL×PE,cP y.1=cE x.1∧(x.2.1,x.2.2.1,x.2.2.2)=U8 ts y.2∧y.2.1<ts.length∧SzP b y∧r=a14 nx ts a ts.length y
theorem c6I {ts:List Tok} (hl:ts.length≤65537) {L:Int} {nx:PF} (hf:B6 ts nx) (hst:StF ts nx) (hx:∀p:PE,p.1<ts.length→G9 117 [vi .i64 L] ts p [.ag (y5 (cP (nx p).1))] (nx p).2) (p:PE) (hp:p.1<ts.length) :
  G9 108 [vi .i64 L] ts p [.ag (y5 (cP (a8F nx ts p).1))] (a8F nx ts p).2:=by
 have hl2:ts.length≤1048576:=by omega
 have hh:=a4c hl2 hp
 have hn:=hf p hp
 have h1:=hx p hp
 have hok:=fun (q:PE) hq=>okP hl2 (p:=q) hq
 have hpk:=fun a ha=>b9t hl2 (a:=a) ha
 have hstt:=fun t=>b9Z t
 have hov:=fun a x y hf=>a1v 37 N5 ⟨#[]⟩ 0 false a [x,y] (by simp only [c9a,c9n];omega) hf
 unfold a8F
 generalize (l9 ts p.1).at_=pl at *
 obtain ⟨rr,hrr⟩:∃rr,rr=a14 nx ts pl ts.length (nx p):=⟨_,rfl⟩
 rw [←hrr]
 obtain ⟨x1,hx1⟩:=A8 (nx p).1
 unfold G9 at hh h1 ⊢
 rw [hx1] at h1
 obtain ⟨s0,hs0⟩:∃s0,s0=U8 ts p:=⟨_,rfl⟩
 obtain ⟨s1,hs1⟩:∃s1,s1=U8 ts (nx p).2:=⟨_,rfl⟩
 obtain ⟨s9,hs9⟩:∃s9,s9=U8 ts rr.2:=⟨_,rfl⟩
 obtain ⟨R9,hR9⟩:∃R9,R9=cP rr.1:=⟨_,rfl⟩
 rw [←hs0] at hh h1
 rw [←hs1] at h1
 rw [←hs0,←hs9,←hR9]
 obtain ⟨inv,hi⟩:∃inv,inv=c8n ts p.1 nx pl rr:=⟨_,rfl⟩
 have hi0:inv (x1,s1.1,s1.2.1,s1.2.2):=by rw [hi];exact ⟨nx p,hx1,hs1,hn.hi,hn.size,hrr⟩
 obtain ⟨mu,hmu⟩:∃mu:(Nat→D)×Int×Int×Int→Nat,mu=fun x=>ts.length - x.2.2.2.toNat:=⟨_,rfl⟩
 generalize hT:H8 ts=T at *
 obtain ⟨a0,b0,d0⟩:=s0
 obtain ⟨a1,b1,d1⟩:=s1
 obtain ⟨a9,b9,d9⟩:=s9
 refine N9 Try.func108 rfl ?_;intro _ _ _ _ _ _ _ _ _ _ _ _ _ _ _ _ _ _ _ _ _ _ _ _ _ _ _ _ _ _ _ _ _ _ _ _ _ _ _ _ _ vw;intros;rename_i hA
 iterate 2 (try cbv;repeat ((first|with_reducible apply f8 hA|refine v7 hA [0,1] hh ?_|refine v7 hA [0,1] h1 ?_);cbv))
 try simp (maxSteps:=4000000) only [nc] at *
 refine o7 hA (γ:=(Nat→D)×Int×Int×Int) (fun x=>[(11,.jk)]) (fun x=>[(0,.box [.ptr 1 0,vi .u8 x.2.1,vi .i64 x.2.2.1]),(1,.box [.d (.sl 4 T),vi .i64 x.2.2.2]),(3,.box (y5 (cE x.1)))]) inv mu (x1,a1,b1,d1) hi0 ?_ ?_
 ·cbv
 ·intro x hinv
  obtain ⟨x,e,q,a⟩:=x
  cbv;refine gn ?_;try simp only [nc] at *
  rw [hi] at hinv
  obtain ⟨y,hy1,hy2,hyl,hsz,hr⟩:=hinv
  replace hy1:cP y.1=cE x:=hy1
  replace hy2:((e,q,a):ST)=U8 ts y.2:=hy2
  rw [c25 hf hst hyl] at hr
  have ha:a=(y.2.1:Int):=congrArg (fun s:ST=>s.2.2) hy2
  have ho1:=hok y.2 hyl
  unfold G9 at ho1
  rw [←hy2,hT] at ho1
  by_cases hz:y.2.2=0
  ·rw [hz] at ho1
   have hk:=hpk y.2.1 hyl
   have hs:=hstt (l9 ts y.2.1)
   unfold tkD at hs
   rw [←ha] at hk
   by_cases hb:K6 (l9 ts y.2.1)=true
   ·rw [c8Y ⟨hz,hb⟩] at hr
    rw [hb] at hs
    have hsz2:=b2Q hf (a:=pl) hsz hz hyl
    have hn2:=hf y.2 hyl
    have hp2:=hx y.2 hyl
    have hlt:=hst y.2 hyl hz hb
    unfold G9 at hp2
    have ho:=hov pl y.1 (nx y.2).1 (by
     have h1:=hsz2.2.1
     have h2:=hn2.hi
     simp only [y7,C0,c9q,c9y,c9i,c9a,c8U] at h1 ⊢
     omega)
    obtain ⟨z,hzz⟩:∃z,z=y7 37 N5 N5 pl [y.1,(nx y.2).1]:=⟨_,rfl⟩
    obtain ⟨x2,hx2⟩:=A8 (nx y.2).1
    obtain ⟨x3,hx3⟩:=A8 z
    rw [show rP [y.1,(nx y.2).1]=[cE x,cE x2] by unfold rP;rw [c9m,c9m,c9O,hy1,hx2],show cP (C0 37 N5 ⟨#[]⟩ 0 false s8 pl [y.1,(nx y.2).1])=cE x3 by rw [←hx3,hzz]] at ho
    rw [hx2,hT,←hy2] at hp2
    have hin:inv (x3,U8 ts (nx y.2).2):=by rw [hi];exact ⟨(z,(nx y.2).2),hx3,rfl,hn2.hi,by rw [hzz];exact hsz2,by rw [hzz];exact hr⟩
    have hmu9:mu (x3,U8 ts (nx y.2).2)<mu (x,e,q,a):=by
     rw [hmu]
     show ts.length - (((nx y.2).2.1:Nat):Int).toNat<ts.length - a.toNat
     rw [ha]
     simp only [c9o]
     omega
    generalize U8 ts (nx y.2).2=s3 at *
    obtain ⟨a3,b3,d3⟩:=s3
    have hp2b:=n7.box hp2 rfl
    generalize (l9 ts y.2.1).kind=k0 at *
    generalize (l9 ts y.2.1).text=t0 at *
    generalize (l9 ts y.2.1).n=n0 at *
    generalize (l9 ts y.2.1).at_=p0 at *
    clear hs9 hR9 hr hy2 hb hi0 hsz2 hn2 hzz hx3 hx2 hy1
    have h0:=hs;have p0:=ho1;have r0:=hk;have p1:=hp2;have o0:=ho;have hi:=hin;have hm:=hmu9;exact T1
   ·rw [c8W (fun h=>hb h.2)] at hr
    replace hb:K6 (l9 ts y.2.1)=false:=by simpa using hb
    rw [hb] at hs
    have hR:R9=cE x:=by rw [hR9,hr,hy1]
    have hss:((a9,b9,d9):ST)=(e,q,a):=by rw [hs9,hr,←hy2]
    injection hss with f0 f1
    injection f1 with f1 f2
    subst f0;subst f1;subst f2
    rw [hR]
    generalize (l9 ts y.2.1).kind=k0 at *
    generalize (l9 ts y.2.1).text=t0 at *
    generalize (l9 ts y.2.1).n=n0 at *
    generalize (l9 ts y.2.1).at_=p0 at *
    clear hs9 hR9 hr hy2 hb hi0 hy1
    have h0:=hs;have p0:=ho1;have r0:=hk;exact T1
  ·rw [c9f hz] at ho1
   rw [c8W (fun h=>hz h.1)] at hr
   have hR:R9=cE x:=by rw [hR9,hr,hy1]
   have hss:((a9,b9,d9):ST)=(e,q,a):=by rw [hs9,hr,←hy2]
   injection hss with f0 f1
   injection f1 with f1 f2
   subst f0;subst f1;subst f2
   rw [hR]
   clear hs9 hR9 hr hy2 hi0 hy1
   have p0:=ho1;exact T1
abbrev c6J:ByteArray:=⟨#[46]⟩
abbrev c6K:ByteArray:=⟨#[92]⟩
abbrev a1w:List ByteArray:=[c6J,c6K]
def a5v (g:ByteArray):Int:=if g.toList=c6J.toList then 43 else 44
def M4 (ts:List Tok) (a:Int):Nat→PL×PE→PL×PE
 | 0,s=>s
 | k+1,s=>match r7 ts a1w s.2 with
  | none=>s
  | some g=>M4 ts a k (y7 (a5v g) (i7 ts (s.2.1+1,0)).1 N5 a [s.1],(i7 ts (s.2.1+1,0)).2)
theorem w9 {ts:List Tok} (hE:m8 ts) {p:PE} (hp:p.1<ts.length):(i7 ts p).2.1<ts.length∧p.1≤(i7 ts p).2.1∧((i7 ts p).2.2=0→p.2=0∧(i7 ts p).2.1=p.1+1):=by
 unfold i7
 split
 ·rename_i h
  exact ⟨hE _ hp (by rw [h.2];decide),Nat.le_succ _,fun _=>⟨h.1,rfl⟩⟩
 ·obtain ⟨h1,h2⟩:=C8 5 (by decide) p
  exact ⟨by show (C5 5 p).1<_;rw [h1];exact hp,by show _≤(C5 5 p).1;rw [h1];exact c9c _,fun h=>absurd h h2⟩
theorem b0k {ts:List Tok} (hE:m8 ts) {b:Nat} {op:Int} {nm ar:ByteArray} {a:Int} {s:PL×PE} (hs:SzP b s) (h0:s.2.2=0) (h:s.2.1+1<ts.length):SzP b (y7 op nm ar a [s.1],(i7 ts (s.2.1+1,0)).2):=by
 obtain ⟨w1,w2,w3⟩:=w9 hE (p:=(s.2.1+1,0)) h
 obtain ⟨h1,h2,h3⟩:=hs
 have h3:=h3 h0
 simp only at w2 w3
 unfold SzP y7 C0
 simp only [c9q,c9y,c9i,c9a]
 exact ⟨by omega,by omega,fun h=>by have:=(w3 h).2;omega⟩
theorem a8G {ts:List Tok} {a:Int} (hE:m8 ts):∀(k m:Nat) (s:PL×PE),s.2.1<ts.length→ts.length - s.2.1≤k→ts.length - s.2.1≤m→M4 ts a k s=M4 ts a m s
 | 0,m,s,h,h1,h2=>by omega
 | k+1,0,s,h,h1,h2=>by omega
 | k+1,m+1,s,h,h1,h2=>by
  rw [M4,M4]
  cases hs:r7 ts a1w s.2 with
  | none=>rfl
  | some g =>
   obtain ⟨_,h4,_⟩:=P6 hE h hs
   obtain ⟨w1,w2,_⟩:=w9 hE (p:=(s.2.1+1,0)) h4
   simp only at w2
   exact a8G hE k m _ w1 (by show ts.length - (i7 ts (s.2.1+1,0)).2.1≤k;omega) (by show ts.length - (i7 ts (s.2.1+1,0)).2.1≤m;omega)
theorem c0b {ts:List Tok} {a:Int} (hE:m8 ts) {y:PL×PE} (h:y.2.1<ts.length):M4 ts a ts.length y=match r7 ts a1w y.2 with
  | none=>y
  | some g=>M4 ts a ts.length (y7 (a5v g) (i7 ts (y.2.1+1,0)).1 N5 a [y.1],(i7 ts (y.2.1+1,0)).2):=by
 have e:M4 ts a ts.length y=M4 ts a (ts.length+1) y:=a8G hE _ _ y h (by omega) (by omega)
 rw [e,M4]
theorem b0l {ts:List Tok} {a:Int} {b:Nat} (hE:m8 ts):∀(k:Nat) (s:PL×PE),SzP b s→s.2.1<ts.length→SzP b (M4 ts a k s)∧(M4 ts a k s).2.1<ts.length
 | 0,s,h,h1=>⟨h,h1⟩
 | k+1,s,h,h1=>by
  rw [M4]
  cases hs:r7 ts a1w s.2 with
  | none=>exact ⟨h,h1⟩
  | some g =>
   obtain ⟨h3,h4,_⟩:=P6 hE h1 hs
   exact b0l hE k _ (b0k hE h h3 h4) (w9 hE (p:=(s.2.1+1,0)) h4).1
def a4e (nx:PF) (ts:List Tok) (p:PE):PL×PE:=M4 ts (l9 ts p.1).at_ ts.length (nx p)
theorem c6L {nx:PF} {ts:List Tok} (hE:m8 ts) (hf:B6 ts nx):B6 ts (a4e nx ts):=fun p hp=>by
 have h:=hf p hp
 unfold a4e
 obtain ⟨h1,h2⟩:=b0l (a:=(l9 ts p.1).at_) hE ts.length (nx p) h.size h.hi
 refine h1.fit h2 fun h0=>?_
 by_cases hz:(nx p).2.2=0
 ·exact (h.ok hz).1
 ·have e:∀k,M4 ts (l9 ts p.1).at_ k (nx p)=nx p:=fun k=>by cases k with|zero=>rfl|succ k=>rw [M4,a3G hz]
  rw [e] at h0
  exact absurd h0 hz
def c8o (ts:List Tok) (b:Nat) (a:Int) (r:PL×PE) (x:(Nat→D)×Int×Int×Int):Prop:=∃y:PL×PE,cP y.1=cE x.1∧(x.2.1,x.2.2.1,x.2.2.2)=U8 ts y.2∧y.2.1<ts.length∧SzP b y∧r=M4 ts a ts.length y
theorem c5k {ts:List Tok} (hE:m8 ts) (hl:ts.length≤65537) {L:Int} {nx:PF} (hf:B6 ts nx) (hx:∀p:PE,p.1<ts.length→G9 130 [vi .i64 L] ts p [.ag (y5 (cP (nx p).1))] (nx p).2) (p:PE) (hp:p.1<ts.length) :
  G9 125 [vi .i64 L] ts p [.ag (y5 (cP (a4e nx ts p).1))] (a4e nx ts p).2:=by
 have hl2:ts.length≤1048576:=by omega
 have hh:=a4c hl2 hp
 have hn:=hf p hp
 have h1:=hx p hp
 have hsg:∀q:PE,q.1<ts.length→G9 94 [.d (.sl 1 [[.sc (.string ⟨#[46]⟩)],[.sc (.string ⟨#[92]⟩)]])] ts q [vs ((r7 ts a1w q).getD N5)] (a1A ts a1w q):=fun q hq=>a8E hl2 hq a1w (by decide)
 have hwd:=fun (q:PE) hq=>a0L hl2 (p:=q) hq
 have hov:=fun op w a x hf=>a1v op w ⟨#[]⟩ 0 false a [x] (by simp only [c9a,c9n];omega) hf
 unfold a4e
 generalize (l9 ts p.1).at_=pl at *
 obtain ⟨rr,hrr⟩:∃rr,rr=M4 ts pl ts.length (nx p):=⟨_,rfl⟩
 rw [←hrr]
 obtain ⟨x1,hx1⟩:=A8 (nx p).1
 unfold G9 at hh h1 ⊢
 rw [hx1] at h1
 obtain ⟨s0,hs0⟩:∃s0,s0=U8 ts p:=⟨_,rfl⟩
 obtain ⟨s1,hs1⟩:∃s1,s1=U8 ts (nx p).2:=⟨_,rfl⟩
 obtain ⟨s9,hs9⟩:∃s9,s9=U8 ts rr.2:=⟨_,rfl⟩
 obtain ⟨R9,hR9⟩:∃R9,R9=cP rr.1:=⟨_,rfl⟩
 rw [←hs0] at hh h1
 rw [←hs1] at h1
 rw [←hs0,←hs9,←hR9]
 obtain ⟨inv,hi⟩:∃inv,inv=c8o ts p.1 pl rr:=⟨_,rfl⟩
 have hi0:inv (x1,s1.1,s1.2.1,s1.2.2):=by rw [hi];exact ⟨nx p,hx1,hs1,hn.hi,hn.size,hrr⟩
 obtain ⟨mu,hmu⟩:∃mu:(Nat→D)×Int×Int×Int→Nat,mu=fun x=>ts.length - x.2.2.2.toNat:=⟨_,rfl⟩
 generalize hT:H8 ts=T at *
 obtain ⟨a0,b0,d0⟩:=s0
 obtain ⟨a1,b1,d1⟩:=s1
 obtain ⟨a9,b9,d9⟩:=s9
 refine N9 Try.func125 rfl ?_;intro _ _ _ _ _ _ _ _ _ _ _ qm _ qp _ _ _ _ _ _ _ _ _ _ _ _ _ _ _ _ _ _ _ _ _ _ _ _ _ _ _ vw;intros;rename_i hA
 obtain ⟨e1,e2,e3,e4,e5,e6,e7,e8,e9⟩:=m6 hA
 obtain ⟨c1,c2,c3,c4_,c5,c6,c7⟩:=I3 hA
 iterate 2 (try cbv;repeat ((first|with_reducible apply f8 hA|refine v7 hA [0,1] hh ?_|refine v7 hA [0,1] h1 ?_);cbv))
 try simp (maxSteps:=4000000) only [nc] at *
 refine o7 hA (γ:=(Nat→D)×Int×Int×Int) (fun x=>[(12,.jk)]) (fun x=>[(0,.box [.ptr 1 0,vi .u8 x.2.1,vi .i64 x.2.2.1]),(1,.box [.d (.sl 4 T),vi .i64 x.2.2.2]),(3,.box (y5 (cE x.1)))]) inv mu (x1,a1,b1,d1) hi0 ?_ ?_
 ·cbv
 ·intro x hinv
  obtain ⟨x,e,q,a⟩:=x
  cbv;refine gn ?_;try simp only [nc] at *
  rw [hi] at hinv
  obtain ⟨y,hy1,hy2,hyl,hsz,hr⟩:=hinv
  replace hy1:cP y.1=cE x:=hy1
  replace hy2:((e,q,a):ST)=U8 ts y.2:=hy2
  rw [c0b hE hyl] at hr
  have ha:a=(y.2.1:Int):=congrArg (fun s:ST=>s.2.2) hy2
  have hs:=hsg y.2 hyl
  unfold G9 a1A at hs
  rw [←hy2,hT] at hs
  cases hso:r7 ts a1w y.2 with
  | none =>
   rw [hso] at hr hs
   dsimp only at hr hs
   rw [←hy2] at hs
   have hR:R9=cE x:=by rw [hR9,hr,hy1]
   have hss:((a9,b9,d9):ST)=(e,q,a):=by rw [hs9,hr,←hy2]
   injection hss with f0 f1
   injection f1 with f1 f2
   subst f0;subst f1;subst f2
   rw [hR]
   have q1:qm (qp ⟨#[]⟩) (qp ⟨#[46]⟩)=false:=by simp only [c1,c3,ByteArray.toList_eq];rfl
   have q2:qm (qp ⟨#[]⟩) (qp ⟨#[92]⟩)=false:=by simp only [c1,c3,ByteArray.toList_eq];rfl
   clear hs9 hR9 hr hy2 hso hi0 hy1
   have p0:=hs;exact T1
  | some g =>
   rw [hso] at hr hs
   dsimp only [d1c] at hr hs
   obtain ⟨k1,k2,k3⟩:=P6 hE hyl hso
   have hsz2:=b0k hE (op:=a5v g) (nm:=(i7 ts (y.2.1+1,0)).1) (ar:=N5) (a:=pl) hsz k1 k2
   obtain ⟨n1,n2,n3⟩:=w9 hE (p:=(y.2.1+1,0)) k2
   have hp2:=hwd (y.2.1+1,0) k2
   unfold G9 at hp2
   have ho:=hov (a5v g) (i7 ts (y.2.1+1,0)).1 pl y.1 (by
    have h1:=hsz.2.1
    simp only [c9q,c9y,c9i]
    omega)
   obtain ⟨z,hz⟩:∃z,z=y7 (a5v g) (i7 ts (y.2.1+1,0)).1 N5 pl [y.1]:=⟨_,rfl⟩
   obtain ⟨x3,hx3⟩:=A8 z
   rw [show rP [y.1]=[cE x] by unfold rP;rw [c9m,c9O,hy1],show cP (C0 (a5v g) (i7 ts (y.2.1+1,0)).1 ⟨#[]⟩ 0 false s8 pl [y.1])=cE x3 by rw [←hx3,hz]] at ho
   rw [hT] at hp2
   have hin:inv (x3,U8 ts (i7 ts (y.2.1+1,0)).2):=by rw [hi];exact ⟨(z,(i7 ts (y.2.1+1,0)).2),hx3,rfl,n1,by rw [hz];exact hsz2,by rw [hz];exact hr⟩
   have hmu9:mu (x3,U8 ts (i7 ts (y.2.1+1,0)).2)<mu (x,e,q,a):=by
    rw [hmu]
    show ts.length - (((i7 ts (y.2.1+1,0)).2.1:Nat):Int).toNat<ts.length - a.toNat
    rw [ha]
    simp only [c9o] at n2 ⊢
    omega
   generalize (i7 ts (y.2.1+1,0)).1=w at *
   generalize U8 ts (y.2.1+1,0)=s2 at *
   generalize U8 ts (i7 ts (y.2.1+1,0)).2=s3 at *
   obtain ⟨a2,b2,d2⟩:=s2
   obtain ⟨a3,b3,d3⟩:=s3
   clear hs9 hR9 hr hy2 hso hi0 hsz2 hz hx3 hy1
   simp only [c9e,d0J,or_false] at k3
   rcases k3 with rfl|rfl
   ·have q1:qm (qp ⟨#[46]⟩) (qp ⟨#[46]⟩)=true:=by rw [c1];exact c9T _
    rw [show a5v ⟨#[46]⟩=43 from c8Y rfl] at ho
    have p0:=hs;have p1:=hp2;have o0:=ho;have hi:=hin;have hm:=hmu9;exact T1
   ·have q1:qm (qp ⟨#[92]⟩) (qp ⟨#[46]⟩)=false:=by simp only [c1,c3,ByteArray.toList_eq];rfl
    have q2:qm (qp ⟨#[92]⟩) (qp ⟨#[92]⟩)=true:=by rw [c1];exact c9T _
    rw [show a5v ⟨#[92]⟩=44 from c8W (by rw [ByteArray.toList_eq,ByteArray.toList_eq];decide)] at ho
    have p0:=hs;have p1:=hp2;have o0:=ho;have hi:=hin;have hm:=hmu9;exact T1
inductive LikeD:D→D→Prop
 | refl (d:D):LikeD d d
 | nil (n m:Nat):LikeD (.sl n []) (.sl m [])
 | sl (sz:Nat) (rows rows':List (List D)) (hl:rows.length=rows'.length) (hr:∀r∈rows',r.length=sz) (hf:rows.flatten.length=rows'.flatten.length)
   (h:∀(i:Nat) (d d':D),rows.flatten[i]?=some d→rows'.flatten[i]?=some d'→LikeD d d'):LikeD (.sl sz rows) (.sl sz rows')
theorem LikeD.at {d d':D} (h:LikeD d d'):∀ {I:Nat→Nat→Prop} {w:World} {v:Value},AtD I w v d→AtD I w v d':=by
 induction h with
 | refl d=>exact fun h=>h
 | nil n m=>exact fun h=>h.empty m
 | sl sz rows rows' hl hr hf _ ih =>
  intro I w v h
  generalize hd:D.sl sz rows=d at h
  cases h with
  | sc v hv=>cases hd
  | nil A cap sz2 =>
   injection hd with e1 e2
   subst e2
   have:rows'=[]:=c9t (by rw [←hl];rfl)
   subst this
   exact .nil _ _ _
  | sl b off cap sz2 rows2 us hcap hI hr2 hlen hc hdd =>
   injection hd with e1 e2
   subst e1
   subst e2
   rw [hl]
   refine .sl b off cap sz rows' us (by omega) (by rw [←hl];exact hI) hr (by rw [←hl];exact hlen) hc fun i u d' hu hd'=>?_
   have hlt:i<rows.flatten.length:=by rw [hf];exact (c8S.1 hd').1
   exact ih i _ d' (c8T hlt) hd' (hdd i u _ hu (c8T hlt))
def a24 (ds ds':List D):Prop:=ds.length=ds'.length∧∀(i:Nat) (d d':D),ds[i]?=some d→ds'[i]?=some d'→LikeD d d'
theorem a24.at {ds ds':List D} (h:a24 ds ds') {I:Nat→Nat→Prop} {w:World} {us:List Value} (hu:B0 I w us ds):B0 I w us ds' :=
 ⟨hu.1.trans h.1,fun i u d' hui hd'=>by
  have hlt:i<ds.length:=by rw [h.1];exact (c8S.1 hd').1
  exact (h.2 i _ d' (c8T hlt) hd').at (hu.2 i u _ hui (c8T hlt))⟩
inductive LikeR:R→R→Prop
 | one {d d':D} (h:LikeD d d'):LikeR (.one d) (.one d')
 | ag {ds ds':List D} (h:a24 ds ds'):LikeR (.ag ds) (.ag ds')
theorem LikeR.at {r r':R} (h:LikeR r r') {I:Nat→Nat→Prop} {w:World} {v:Value} (hv:AtR I w v r):AtR I w v r':=by
 cases h with
 | one h=>exact h.at hv
 | ag h=>obtain ⟨us,e,h2⟩:=hv;exact ⟨us,e,h.at h2⟩
def a3u:List R→List R→Prop
 | [],[]=>True
 | r::rs,r'::rs'=>LikeR r r'∧a3u rs rs'
 | _,_=>False
theorem a3u.at:∀ {rs rs':List R},a3u rs rs'→∀ {I:Nat→Nat→Prop} {w:World} {us:List Value},a4h I w us rs→a4h I w us rs'
 | [],[],_,_,_,us,h=>h
 | r::rs,r'::rs',h,I,w,us,hu=>by
  match us,hu with
  | u::us,hu=>exact ⟨h.1.at hu.1,a3u.at h.2 hu.2⟩
theorem A0.like {f:Nat} {rs rs' q:List R} (h:A0 f rs q) (hl:a3u rs' rs):A0 f rs' q:=⟨h.1,fun I w args hI hat=>h.2 I w args hI (hl.at hat)⟩
theorem a3u.res:∀ {q q':List R},a3u q q'→∀ {I:Nat→Nat→Prop} {w:World} {v:Value},a2C I w v q→a2C I w v q'
 | [],[],_,_,_,v,h=>h
 | [r],[r'],h,_,_,v,hv=>h.1.at hv
 | r::s::rs,r'::s'::rs',h,_,_,v,hv=>by
  obtain ⟨us,e,h2⟩:=hv
  exact ⟨us,e,h.at h2⟩
theorem A0.likeq {f:Nat} {rs q q':List R} (h:A0 f rs q) (hl:a3u q q'):A0 f rs q':=h.mono fun I w v hv=>hl.res hv
theorem LikeR.same (r:R):LikeR r r:=by
 cases r with
 | one x=>exact .one (.refl _)
 | ag xs=>exact .ag ⟨rfl,fun i d d' h h'=>by rw [h] at h';cases h';exact .refl _⟩
theorem a24.nil:a24 [] []:=⟨rfl,fun i d d' h=>by simp at h⟩
theorem a24.cons {d d':D} {ds ds':List D} (h:LikeD d d') (hs:a24 ds ds'):a24 (d::ds) (d'::ds') :=
 ⟨by simp [hs.1],fun i x y hx hy=>by
  cases i with
  | zero=>simp at hx hy;subst hx;subst hy;exact h
  | succ i=>exact hs.2 i x y (by simpa using hx) (by simpa using hy)⟩
abbrev lfT (op:Int):Ty:=.mk op N5 0 []
def lf0 (op:Int):List D:=[.sc (.int .u8 op),.sc (.string N5),.sc (.int .i64 0),.sl 0 []]
theorem a5w (op:Int):LikeR (.ag (lf0 op)) (.ag [.sc (.int .u8 op),.sc (.string N5),.sc (.int .i64 0),.sl 4 []]) :=
 .ag ⟨rfl,fun i d d' h h'=>by
  match i,h,h' with
  | 0,h,h'=>cases h;cases h';exact .refl _
  | 1,h,h'=>cases h;cases h';exact .refl _
  | 2,h,h'=>cases h;cases h';exact .refl _
  | 3,h,h'=>cases h;cases h';exact .nil _ _⟩
theorem c6M:A0 146 [] [.ag (cT (lfT 1))]:=by
 rw [cT,rT]
 refine A0.likeq (q:=[.ag (lf0 1)]) ?_ ⟨a5w 1,trivial⟩
 unfold lf0
 refine sp9 Try.func146 rfl ?_;intros;rename_i hA
 try cbv;exact fr
theorem c5l:A0 147 [] [.ag (cT (lfT 2))]:=by
 rw [cT,rT]
 refine A0.likeq (q:=[.ag (lf0 2)]) ?_ ⟨a5w 2,trivial⟩
 unfold lf0
 refine sp9 Try.func147 rfl ?_;intros;rename_i hA
 try cbv;exact fr
theorem c6N:A0 148 [] [.ag (cT (lfT 3))]:=by
 rw [cT,rT]
 refine A0.likeq (q:=[.ag (lf0 3)]) ?_ ⟨a5w 3,trivial⟩
 unfold lf0
 refine sp9 Try.func148 rfl ?_;intros;rename_i hA
 try cbv;exact fr
theorem c6O (t:Ty) (h:t.parts.length≤1048576):A0 151 [.ag (cT t)] [.ag (cT (.mk 5 N5 0 [t]))]:=by
 have hc:=a0D t h
 rw [show cT (.mk 5 N5 0 [t])=[.sc (.int .u8 5),.sc (.string N5),.sc (.int .i64 0),.sl 4 [cT t]] by rw [cT,rT,rT]]
 obtain ⟨a0,a1,a2,a3,ha⟩:=w8 t
 rw [ha] at hc ⊢
 refine sp9 Try.func151 rfl ?_;intros;rename_i hA
 try cbv;exact fr
theorem c6P (t:Ty) (h:t.parts.length≤1048576):A0 152 [.ag (cT t)] [.ag (cT (.mk 6 N5 0 [t]))]:=by
 have hc:=a0D t h
 rw [show cT (.mk 6 N5 0 [t])=[.sc (.int .u8 6),.sc (.string N5),.sc (.int .i64 0),.sl 4 [cT t]] by rw [cT,rT,rT]]
 obtain ⟨a0,a1,a2,a3,ha⟩:=w8 t
 rw [ha] at hc ⊢
 refine sp9 Try.func152 rfl ?_;intros;rename_i hA
 try cbv;exact fr
theorem c6Q (t u:Ty) (h:t.parts.length≤1048576) (hu:u.parts.length≤1048576):A0 139 [.ag (cT t),.ag (cT u)] [.ag (cT (.mk 4 N5 0 [t,u]))]:=by
 have hc:=a0D t h
 have hc2:=a0D u hu
 rw [show cT (.mk 4 N5 0 [t,u])=[.sc (.int .u8 4),.sc (.string N5),.sc (.int .i64 0),.sl 4 [cT t,cT u]] by rw [cT,rT,rT,rT]]
 obtain ⟨a0,a1,a2,a3,ha⟩:=w8 t
 obtain ⟨b0,b1,b2,b3,hb⟩:=w8 u
 rw [ha] at hc ⊢
 rw [hb] at hc2 ⊢
 refine sp9 Try.func139 rfl ?_;intros;rename_i hA
 iterate 2 (try cbv;repeat ((first|with_reducible apply f8 hA|refine i9 hA _ hc rfl ?_|refine j5 hA _ hc ?_|refine i9 hA _ hc2 rfl ?_|refine j5 hA _ hc2 ?_|refine C2 hA true ?_);cbv))
theorem c5m (fs:List (ByteArray×Ty)) (tl:Ty) (hn:fs.length≤1048576) (htl:tl.parts.length≤1048576) (hf:∀f∈fs,f.2.parts.length≤1048576):A0 127 [.one (.sl 5 (rF fs)),.ag (cT tl)] [.ag (cT (a2i fs tl))]:=by
 have hct:=a0D tl htl
 have hj:=a8C tl fs
 have hcf:∀r∈rF fs,∃nm c0 c1 c2 c3,r=[nm,c0,c1,c2,c3]∧A0 134 [.ag [c0,c1,c2,c3]] [.ag [c0,c1,c2,c3]]:=fun r hr=>by
  obtain ⟨f,hf0,rfl⟩:=d0o.1 hr
  have h3:=a0D f.2 (hf f hf0)
  obtain ⟨c0,c1,c2,c3,hcc⟩:=w8 f.2
  rw [hcc] at h3
  exact ⟨_,c0,c1,c2,c3,by show D.sc _::cT f.2=_;rw [hcc],h3⟩
 obtain ⟨q0,q1,q2,q3,hq⟩:=w8 tl
 rw [hq] at hct hj ⊢
 have hJ:=b9F (rF fs) q0 q1 q2 q3 (by rw [a6f];omega) hct hcf
 rw [hj] at hJ
 exact hJ
def H1 (rd:PE→Ty×PE) (ts:List Tok) (p:PE):(ByteArray×Ty)×PE :=
 if (l9 ts p.1).kind≠1 then ((N5,s8),C5 5 p)
 else (((l9 ts p.1).text,(rd (j0 ts a4z (p.1+1,p.2))).1),(rd (j0 ts a4z (p.1+1,p.2))).2)
def Q5 (rd:PE→Ty×PE) (ts:List Tok):Nat→PE→List (ByteArray×Ty)→List (ByteArray×Ty)×PE
 | 0,p,l=>(l,p)
 | k+1,p,l=>if B3 ts a6d p=true then Q5 rd ts k (H1 rd ts (p.1+1,0)).2 (l++[(H1 rd ts (p.1+1,0)).1]) else (l,p)
def a0P (rd:PE→Ty×PE) (ts:List Tok) (p:PE):List (ByteArray×Ty)×PE :=
 if (l9 ts p.1).kind=1 then Q5 rd ts ts.length (H1 rd ts p).2 [(H1 rd ts p).1] else ([],p)
def tlW (ts:List Tok) (l:List (ByteArray×Ty)) (p:PE):Ty×PE :=
 if B3 ts b6A p=true then (a2i l (lfT 9),j0 ts a5m (p.1+1,0)) else (a2i l (lfT 8),p)
def a2I (rd:PE→Ty×PE) (ts:List Tok) (p:PE):Ty×PE:=tlW ts (a0P rd ts p).1 (a0P rd ts p).2
def a0d (rd:PE→Ty×PE) (ts:List Tok) (p:PE):Ty×PE :=
 if B3 ts a8s p=true then (lfT 1,(p.1+1,0))
 else if B3 ts a4a p=true then (lfT 2,(p.1+1,0))
 else if B3 ts a5m p=true then (lfT 3,(p.1+1,0))
 else if B3 ts a61 p=true then ((rd (p.1+1,0)).1,j0 ts a8t (rd (p.1+1,0)).2)
 else if B3 ts b3L p=true then (.mk 5 N5 0 [(a2I rd ts (p.1+1,0)).1],j0 ts b9o (a2I rd ts (p.1+1,0)).2)
 else if B3 ts b69 p=true then (.mk 6 N5 0 [(a2I rd ts (p.1+1,0)).1],j0 ts b9p (a2I rd ts (p.1+1,0)).2)
 else (s8,C5 5 p)
def B5 (ts:List Tok):Nat→PE→Ty×PE
 | 0,p=>(s8,C5 6 p)
 | n+1,p =>
  if p.2≠0 then (s8,p)
  else if B3 ts gTo (a0d (B5 ts n) ts p).2=true then
   (.mk 4 N5 0 [(a0d (B5 ts n) ts p).1,(B5 ts n ((a0d (B5 ts n) ts p).2.1+1,0)).1],(B5 ts n ((a0d (B5 ts n) ts p).2.1+1,0)).2)
  else a0d (B5 ts n) ts p
structure Fit (ts:List Tok) (p:PE) (r:Ty×PE) (k:Nat):Prop where
 lo:p.1≤r.2.1
 hi:r.2.1<ts.length
 sz:r.1.parts.length+p.1≤r.2.1+2
 ok:r.2.2=0→p.2=0∧r.1.parts.length+p.1≤r.2.1+k
 sp:B9 r.1
theorem a1x (op:Int):(lfT op).parts.length=1:=by rw [A9];rfl
theorem a0n:s8.parts.length=1:=a1x 0
theorem a25 (op:Int) (h:op≠11):B9 (lfT op):=.mk (a6h h) fun x hx=>by cases hx
theorem a26:B9 s8:=a25 0 (by decide)
theorem b0m (op:Int) (nm:ByteArray) (n:Int) (t:Ty):(Ty.mk op nm n [t]).parts.length=1+t.parts.length:=by rw [A9];simp only [Ty.kids,c9q,c9y,c9i,c9a];omega
theorem b0n (op:Int) (nm:ByteArray) (n:Int) (t u:Ty):(Ty.mk op nm n [t,u]).parts.length=1+t.parts.length+u.parts.length:=by rw [A9];simp only [Ty.kids,c9q,c9y,c9i,c9a,c8U];omega
theorem b6X {op:Int} {nm:ByteArray} {n:Int} {t:Ty} (h:op≠11) (ht:B9 t):B9 (.mk op nm n [t]):=.mk (a6h h) fun x hx=>by
 cases hx with
 | head=>exact ht
 | tail _ hx=>cases hx
theorem b6Y {op:Int} {nm:ByteArray} {n:Int} {t u:Ty} (h:op≠11) (ht:B9 t) (hu:B9 u):B9 (.mk op nm n [t,u]):=.mk (a6h h) fun x hx=>by
 cases hx with
 | head=>exact ht
 | tail _ hx=>cases hx with
  | head=>exact hu
  | tail _ hx=>cases hx
theorem b2S (l:List (ByteArray×Ty)) (f:ByteArray×Ty):v8 (l++[f])=v8 l+(1+f.2.parts.length):=by unfold v8;rw [c9Y,List.sum_append];simp
theorem b58 (l:List (ByteArray×Ty)):2 * l.length≤v8 l∧∀f∈l,f.2.parts.length≤v8 l:=by
 induction l with
 | nil=>exact ⟨c9c _,fun f hf=>by cases hf⟩
 | cons a l ih =>
  have h:v8 (a::l)=(1+a.2.parts.length)+v8 l:=by unfold v8;simp
  have:=G1 a.2
  rw [h,c9a]
  refine ⟨by omega,fun f hf=>?_⟩
  cases hf with
  | head=>omega
  | tail _ hf=>have:=ih.2 f hf;omega
def a6J (ts:List Tok) (rd:PE→Ty×PE):Prop:=∀p:PE,p.1<ts.length→Fit ts p (rd p) 0∧(p.2≠0→rd p=(s8,p))
structure FitF (ts:List Tok) (p:PE) (r:(ByteArray×Ty)×PE):Prop where
 lo:p.1≤r.2.1
 hi:r.2.1<ts.length
 sz:r.1.2.parts.length+p.1≤r.2.1+1
 sw:(l9 ts p.1).kind=1→r.1.2.parts.length+p.1≤r.2.1
 ok:r.2.2=0→p.2=0∧r.1.2.parts.length+p.1+2≤r.2.1
 sp:B9 r.1.2
theorem a1f {ts:List Tok} {rd:PE→Ty×PE} (hE:m8 ts) (hr:a6J ts rd) (p:PE) (hp:p.1<ts.length):FitF ts p (H1 rd ts p):=by
 unfold H1
 by_cases hk:(l9 ts p.1).kind≠1
 ·rw [c8Y hk]
  obtain ⟨f1,f2⟩:=C8 5 (by decide) p
  exact ⟨by rw [f1];exact c9c _,by rw [f1];exact hp,by show s8.parts.length+_≤_;rw [a0n,f1];omega,fun h=>absurd h hk,fun h=>absurd h f2,a26⟩
 ·rw [c8W hk]
  replace hk:=d0E.1 hk
  have h1:=hE _ hp (by rw [hk];decide)
  obtain ⟨w1,w2,w3⟩:=j7 (s:=a4z) (p:=(p.1+1,p.2)) hE h1
  generalize j0 ts a4z (p.1+1,p.2)=q at *
  obtain ⟨hq,hz⟩:=hr q w1
  simp only at w2 w3
  have key:(rd q).1.parts.length+p.1≤(rd q).2.1:=by
   have:=hq.sz
   by_cases hq0:q.2=0
   ·have:=(w3 hq0).2;omega
   ·rw [hz hq0];show s8.parts.length+_≤q.1;rw [a0n];omega
  generalize rd q=r at *
  obtain ⟨a1,a2,a3,a4,a5⟩:=hq
  exact ⟨by show p.1≤r.2.1;omega,a2,by show r.1.parts.length+_≤r.2.1+1;omega,fun _=>key,fun h=>by
   have h3:=a4 h
   have h4:=w3 h3.1
   refine ⟨h4.1,?_⟩
   show r.1.parts.length+_+_≤r.2.1
   omega,a5⟩
structure FitL (ts:List Tok) (p:PE) (r:List (ByteArray×Ty)×PE):Prop where
 lo:p.1≤r.2.1
 hi:r.2.1<ts.length
 sz:v8 r.1+p.1≤r.2.1+1
 ok:r.2.2=0→p.2=0∧v8 r.1+p.1≤r.2.1
 sp:∀f∈r.1,B9 f.2
theorem a45 {ts:List Tok} {rd:PE→Ty×PE} (hE:m8 ts) (hr:a6J ts rd) (p0:PE):∀(k:Nat) (p:PE) (l:List (ByteArray×Ty)),FitL ts p0 (l,p)→FitL ts p0 (Q5 rd ts k p l)
 | 0,p,l,h=>h
 | k+1,p,l,h=>by
  rw [Q5]
  by_cases hs:B3 ts a6d p=true
  ·rw [c8Y hs]
   obtain ⟨s1,s2⟩:=I4 hE h.hi hs
   have hf:=a1f hE hr (p.1+1,0) s2
   generalize H1 rd ts (p.1+1,0)=f at *
   obtain ⟨a1,a2,a3,a4,a5,a6⟩:=hf
   obtain ⟨b1,b2,b3,b4,b5⟩:=h
   simp only at *
   have b6:=b4 s1
   refine a45 hE hr p0 k f.2 (l++[f.1]) ⟨by show p0.1≤f.2.1;omega,a2,?_,fun h=>⟨b6.1,?_⟩,fun x hx=>?_⟩
   ·show v8 (l++[f.1])+p0.1≤f.2.1+1
    rw [b2S];omega
   ·show v8 (l++[f.1])+p0.1≤f.2.1
    rw [b2S];have:=(a5 h).2;omega
   ·rcases c99.1 hx with hx|hx
    ·exact b5 x hx
    ·cases c97.1 hx;exact a6
  ·rw [c8W hs];exact h
theorem a8H {ts:List Tok} {rd:PE→Ty×PE} (hE:m8 ts) (hr:a6J ts rd) (p:PE) (hp:p.1<ts.length):FitL ts p (a0P rd ts p):=by
 unfold a0P
 by_cases hk:(l9 ts p.1).kind=1
 ·rw [c8Y hk]
  have hf:=a1f hE hr p hp
  generalize H1 rd ts p=f at *
  obtain ⟨a1,a2,a3,a4,a5,a6⟩:=hf
  have e1:v8 [f.1]=1+f.1.2.parts.length:=rfl
  have a7:=a4 hk
  refine a45 hE hr p _ _ _ ⟨a1,a2,by show v8 [f.1]+_≤f.2.1+1;omega,fun h=>⟨(a5 h).1,by show v8 [f.1]+_≤f.2.1;have:=(a5 h).2;omega⟩,fun x hx=>?_⟩
  cases c97.1 hx
  exact a6
 ·rw [c8W hk]
  have e1:v8 []=0:=rfl
  exact ⟨c9c _,hp,by show v8 []+p.1≤p.1+1;omega,fun h=>⟨h,by show v8 []+p.1≤p.1;omega⟩,fun x hx=>by cases hx⟩
theorem b1r {ts:List Tok} {rd:PE→Ty×PE} (hE:m8 ts) (hr:a6J ts rd) (p:PE) (hp:p.1<ts.length):Fit ts p (a2I rd ts p) 1:=by
 unfold a2I
 have hh:=a8H hE hr p hp
 generalize a0P rd ts p=r at *
 obtain ⟨b1,b2,b3,b4,b5⟩:=hh
 unfold tlW
 have e1:∀o:Int,(a2i r.1 (lfT o)).parts.length=v8 r.1+1:=fun o=>by rw [a41,a1x]
 by_cases hs:B3 ts b6A r.2=true
 ·rw [c8Y hs]
  obtain ⟨s1,s2⟩:=I4 hE b2 hs
  obtain ⟨w1,w2,w3⟩:=j7 (s:=a5m) (p:=(r.2.1+1,0)) hE s2
  have b6:=b4 s1
  generalize j0 ts a5m (r.2.1+1,0)=q at *
  simp only at w2 w3
  exact ⟨by show p.1≤q.1;omega,w1,by show (a2i r.1 (lfT 9)).parts.length+p.1≤q.1+2;rw [e1];omega,fun h=>⟨b6.1,by show (a2i r.1 (lfT 9)).parts.length+p.1≤q.1+1;rw [e1];omega⟩,a43 (a25 9 (by decide)) b5⟩
 ·rw [c8W hs]
  exact ⟨b1,b2,by show (a2i r.1 (lfT 8)).parts.length+p.1≤r.2.1+2;rw [e1];omega,fun h=>⟨(b4 h).1,by show (a2i r.1 (lfT 8)).parts.length+p.1≤r.2.1+1;rw [e1];have:=(b4 h).2;omega⟩,a43 (a25 8 (by decide)) b5⟩
theorem a8I {ts:List Tok} {p:PE} {s:ByteArray} (op:Int) (ho:op≠11) (hE:m8 ts) (hp:p.1<ts.length) (h:B3 ts s p=true):Fit ts p (lfT op,(p.1+1,0)) 0:=by
 obtain ⟨s1,s2⟩:=I4 hE hp h
 exact ⟨Nat.le_succ _,s2,by show (lfT op).parts.length+p.1≤p.1+1+2;rw [a1x];omega,fun _=>⟨s1,by show (lfT op).parts.length+p.1≤p.1+1+0;rw [a1x];omega⟩,a25 op ho⟩
theorem b2T {ts:List Tok} {p:PE} {s c:ByteArray} (op:Int) (ho:op≠11) (hE:m8 ts) (hp:p.1<ts.length) (h:B3 ts s p=true) {r:Ty×PE} (hr:Fit ts (p.1+1,0) r 1):Fit ts p (.mk op N5 0 [r.1],j0 ts c r.2) 0:=by
 obtain ⟨s1,s2⟩:=I4 hE hp h
 obtain ⟨a1,a2,a3,a4,a5⟩:=hr
 obtain ⟨w1,w2,w3⟩:=j7 (s:=c) (p:=r.2) hE a2
 simp only at a1 a3 a4
 exact ⟨by show p.1≤(j0 ts c r.2).1;omega,w1,by show (Ty.mk op N5 0 [r.1]).parts.length+p.1≤(j0 ts c r.2).1+2;rw [b0m];omega,fun h=>⟨s1,by
  show (Ty.mk op N5 0 [r.1]).parts.length+p.1≤(j0 ts c r.2).1+0
  have h3:=w3 h
  have h4:=a4 h3.1
  rw [b0m];omega⟩,b6X ho a5⟩
theorem a8J {ts:List Tok} {rd:PE→Ty×PE} (hE:m8 ts) (hr:a6J ts rd) (p:PE) (hp:p.1<ts.length):Fit ts p (a0d rd ts p) 0:=by
 unfold a0d
 by_cases h1:B3 ts a8s p=true
 ·rw [c8Y h1];exact a8I 1 (by decide) hE hp h1
 rw [c8W h1]
 by_cases h2:B3 ts a4a p=true
 ·rw [c8Y h2];exact a8I 2 (by decide) hE hp h2
 rw [c8W h2]
 by_cases h3:B3 ts a5m p=true
 ·rw [c8Y h3];exact a8I 3 (by decide) hE hp h3
 rw [c8W h3]
 by_cases h4:B3 ts a61 p=true
 ·rw [c8Y h4]
  obtain ⟨s1,s2⟩:=I4 hE hp h4
  obtain ⟨hq,_⟩:=hr (p.1+1,0) s2
  generalize rd (p.1+1,0)=r at *
  obtain ⟨a1,a2,a3,a4,a5⟩:=hq
  obtain ⟨w1,w2,w3⟩:=j7 (s:=a8t) (p:=r.2) hE a2
  simp only at a1 a3 a4
  exact ⟨by show p.1≤(j0 ts a8t r.2).1;omega,w1,by show r.1.parts.length+p.1≤(j0 ts a8t r.2).1+2;omega,fun h=>⟨s1,by
   show r.1.parts.length+p.1≤(j0 ts a8t r.2).1+0
   have h3:=w3 h
   have h4:=a4 h3.1
   omega⟩,a5⟩
 rw [c8W h4]
 by_cases h5:B3 ts b3L p=true
 ·rw [c8Y h5];exact b2T 5 (by decide) hE hp h5 (b1r hE hr (p.1+1,0) (I4 hE hp h5).2)
 rw [c8W h5]
 by_cases h6:B3 ts b69 p=true
 ·rw [c8Y h6];exact b2T 6 (by decide) hE hp h6 (b1r hE hr (p.1+1,0) (I4 hE hp h6).2)
 rw [c8W h6]
 obtain ⟨f1,f2⟩:=C8 5 (by decide) p
 exact ⟨by rw [f1];exact c9c _,by rw [f1];exact hp,by show s8.parts.length+_≤_;rw [a0n,f1];omega,fun h=>absurd h f2,a26⟩
theorem a1g {ts:List Tok} (hE:m8 ts):∀n:Nat,a6J ts (B5 ts n)
 | 0,p,hp=>by
  rw [B5]
  obtain ⟨f1,f2⟩:=C8 6 (by decide) p
  refine ⟨⟨by rw [f1];exact c9c _,by rw [f1];exact hp,by show s8.parts.length+_≤_;rw [a0n,f1];omega,fun h=>absurd h f2,a26⟩,fun h=>?_⟩
  unfold C5
  rw [c8Y h]
 | n+1,p,hp=>by
  have ih:=a1g hE n
  rw [B5]
  by_cases h0:p.2≠0
  ·rw [c8Y h0]
   exact ⟨⟨c9c _,hp,by show s8.parts.length+p.1≤p.1+2;rw [a0n];omega,fun h=>absurd h h0,a26⟩,fun _=>rfl⟩
  rw [c8W h0]
  refine ⟨?_,fun h=>absurd h h0⟩
  have ha:=a8J hE ih p hp
  generalize a0d (B5 ts n) ts p=r at *
  by_cases hs:B3 ts gTo r.2=true
  ·rw [c8Y hs]
   obtain ⟨a1,a2,a3,a4,a5⟩:=ha
   obtain ⟨s1,s2⟩:=I4 hE a2 hs
   obtain ⟨hq,_⟩:=ih (r.2.1+1,0) s2
   generalize B5 ts n (r.2.1+1,0)=u at *
   obtain ⟨b1,b2,b3,b4,b5⟩:=hq
   have a6:=a4 s1
   simp only at b1 b3 b4
   exact ⟨by show p.1≤u.2.1;omega,b2,by show (Ty.mk 4 N5 0 [r.1,u.1]).parts.length+p.1≤u.2.1+2;rw [b0n];omega,fun h=>⟨a6.1,by
    show (Ty.mk 4 N5 0 [r.1,u.1]).parts.length+p.1≤u.2.1+0
    have h4:=(b4 h).2
    rw [b0n];omega⟩,b6Y (by decide) a5 b5⟩
  ·rw [c8W hs];exact ha
section
abbrev SkN (T:List (List D)) (s:ByteArray) (b:Bool) (e q a e' q' a':Int):Prop:=n7 138 [.ptr 0 0,vs s] [.box [.ptr 1 0,.d (.sc (.int .u8 e)),.d (.sc (.int .i64 q))],.box [.d (.sl 4 T),.d (.sc (.int .i64 a))]] (fun res os=>res=[vb b]∧os=[.box [.ptr 1 0,.d (.sc (.int .u8 e')),.d (.sc (.int .i64 q'))],.box [.d (.sl 4 T),.d (.sc (.int .i64 a'))]])
abbrev WaN (T:List (List D)) (s:ByteArray) (e q a e' q' a':Int):Prop:=n7 149 [.ptr 0 0,vs s] [.box [.ptr 1 0,.d (.sc (.int .u8 e)),.d (.sc (.int .i64 q))],.box [.d (.sl 4 T),.d (.sc (.int .i64 a))]] (fun res os=>res=[]∧os=[.box [.ptr 1 0,.d (.sc (.int .u8 e')),.d (.sc (.int .i64 q'))],.box [.d (.sl 4 T),.d (.sc (.int .i64 a'))]])
abbrev FaN (T:List (List D)) (c:Int) (e q a e' q' a':Int):Prop:=n7 136 [.ptr 0 0,vi .u8 c] [.box [.ptr 1 0,.d (.sc (.int .u8 e)),.d (.sc (.int .i64 q))],.box [.d (.sl 4 T),.d (.sc (.int .i64 a))]] (fun res os=>res=[]∧os=[.box [.ptr 1 0,.d (.sc (.int .u8 e')),.d (.sc (.int .i64 q'))],.box [.d (.sl 4 T),.d (.sc (.int .i64 a'))]])
abbrev TyN (f:Nat) (T:List (List D)) (L:Int) (x:List V) (e q a e' q' a':Int):Prop:=n7 f [.ptr 0 0,vi .i64 L] [.box [.ptr 1 0,.d (.sc (.int .u8 e)),.d (.sc (.int .i64 q))],.box [.d (.sl 4 T),.d (.sc (.int .i64 a))]] (fun res os=>res=[.ag x]∧os=[.box [.ptr 1 0,.d (.sc (.int .u8 e')),.d (.sc (.int .i64 q'))],.box [.d (.sl 4 T),.d (.sc (.int .i64 a'))]])
section
variable {T:List (List D)} {L e q a e1 q1 a1 e2 q2 a2 e3 q3 a3:Int}
theorem c0c (h1:SkN T a8s true e q a e1 q1 a1):TyN 137 T L (y5 (cT (lfT 1))) e q a e1 q1 a1:=by
 have hi:=c6M
 rw [cT,rT] at hi ⊢
 refine N9 Try.func137 rfl ?_;intro _ _ _ _ _ _ _ _ _ _ _ _ _ _ _ _ _ _ _ _ _ _ _ _ _ _ _ _ _ _ _ _ _ _ _ _ _ _ _ _ _ vw;intros;rename_i hA
 have h0:=hi;have p0:=h1;exact T1
theorem b6Z (h1:SkN T a8s false e q a e q a) (h2:SkN T a4a true e q a e1 q1 a1):TyN 137 T L (y5 (cT (lfT 2))) e q a e1 q1 a1:=by
 have hi:=c5l
 rw [cT,rT] at hi ⊢
 refine N9 Try.func137 rfl ?_;intro _ _ _ _ _ _ _ _ _ _ _ _ _ _ _ _ _ _ _ _ _ _ _ _ _ _ _ _ _ _ _ _ _ _ _ _ _ _ _ _ _ vw;intros;rename_i hA
 have h0:=hi;have p0:=h1;have p1:=h2;exact T1
theorem c0d (h1:SkN T a8s false e q a e q a) (h2:SkN T a4a false e q a e q a) (h3:SkN T a5m true e q a e1 q1 a1):TyN 137 T L (y5 (cT (lfT 3))) e q a e1 q1 a1:=by
 have hi:=c6N
 rw [cT,rT] at hi ⊢
 refine N9 Try.func137 rfl ?_;intro _ _ _ _ _ _ _ _ _ _ _ _ _ _ _ _ _ _ _ _ _ _ _ _ _ _ _ _ _ _ _ _ _ _ _ _ _ _ _ _ _ vw;intros;rename_i hA
 have h0:=hi;have p0:=h1;have p1:=h2;have p2:=h3;exact T1
theorem b7a {t:Ty} (hL:0≤L) (hL2:L≤1048576) (h1:SkN T a8s false e q a e q a) (h2:SkN T a4a false e q a e q a) (h3:SkN T a5m false e q a e q a) (h4:SkN T a61 true e q a e1 q1 a1) (hw:TyN 128 T (L+1) (y5 (cT t)) e1 q1 a1 e2 q2 a2) (hn:WaN T a8t e2 q2 a2 e3 q3 a3):TyN 137 T L (y5 (cT t)) e q a e3 q3 a3:=by
 obtain ⟨c0,c1,c2,c3,hc⟩:=w8 t
 rw [hc] at hw ⊢
 obtain ⟨L1,hL1⟩:∃L1,L1=L+1:=⟨_,rfl⟩
 rw [←hL1] at hw
 refine N9 Try.func137 rfl ?_;intro qa qb _ _ _ _ _ _ _ _ _ _ _ _ _ _ _ _ _ _ _ _ _ _ _ _ _ _ _ _ _ _ _ _ _ _ _ _ _ _ _ vw;intros;rename_i hA
 obtain ⟨ee1,ee2,e3,e4,e5,e6,e7,e8,e9⟩:=m6 hA
 have g1:qa .i64 (qb L 1)=L1:=by rw [ee1,ee2,IntWalk.i64_in _ (by omega)];exact hL1.symm
 have q0:=g1;have p0:=h1;have p1:=h2;have p2:=h3;have p3:=h4;have p4:=hw;have p5:=hn;exact T1
theorem c0e {t:Ty} (ht:t.parts.length≤1048576) (h1:SkN T a8s false e q a e q a) (h2:SkN T a4a false e q a e q a) (h3:SkN T a5m false e q a e q a) (h4:SkN T a61 false e q a e q a) (h5:SkN T b3L true e q a e1 q1 a1) (hw:TyN 150 T L (y5 (cT t)) e1 q1 a1 e2 q2 a2) (hn:WaN T b9o e2 q2 a2 e3 q3 a3):TyN 137 T L (y5 (cT (.mk 5 N5 0 [t]))) e q a e3 q3 a3:=by
 have hr:=c6O t ht
 obtain ⟨c0,c1,c2,c3,hc⟩:=w8 t
 obtain ⟨d0,d1,d2,d3,hd⟩:=w8 (.mk 5 N5 0 [t])
 rw [hc] at hw hr
 rw [hd] at hr ⊢
 refine N9 Try.func137 rfl ?_;intro _ _ _ _ _ _ _ _ _ _ _ _ _ _ _ _ _ _ _ _ _ _ _ _ _ _ _ _ _ _ _ _ _ _ _ _ _ _ _ _ _ vw;intros;rename_i hA
 have h0:=hr;have p0:=h1;have p1:=h2;have p2:=h3;have p3:=h4;have p4:=h5;have p5:=hw;have p6:=hn;exact T1
theorem c0f {t:Ty} (ht:t.parts.length≤1048576) (h1:SkN T a8s false e q a e q a) (h2:SkN T a4a false e q a e q a) (h3:SkN T a5m false e q a e q a) (h4:SkN T a61 false e q a e q a) (h5:SkN T b3L false e q a e q a) (h6:SkN T b69 true e q a e1 q1 a1) (hw:TyN 150 T L (y5 (cT t)) e1 q1 a1 e2 q2 a2) (hn:WaN T b9p e2 q2 a2 e3 q3 a3):TyN 137 T L (y5 (cT (.mk 6 N5 0 [t]))) e q a e3 q3 a3:=by
 have hr:=c6P t ht
 obtain ⟨c0,c1,c2,c3,hc⟩:=w8 t
 obtain ⟨d0,d1,d2,d3,hd⟩:=w8 (.mk 6 N5 0 [t])
 rw [hc] at hw hr
 rw [hd] at hr ⊢
 refine N9 Try.func137 rfl ?_;intro _ _ _ _ _ _ _ _ _ _ _ _ _ _ _ _ _ _ _ _ _ _ _ _ _ _ _ _ _ _ _ _ _ _ _ _ _ _ _ _ _ vw;intros;rename_i hA
 have h0:=hr;have p0:=h1;have p1:=h2;have p2:=h3;have p3:=h4;have p4:=h5;have p5:=h6;have p6:=hw;have p7:=hn;exact T1
theorem b7b (h1:SkN T a8s false e q a e q a) (h2:SkN T a4a false e q a e q a) (h3:SkN T a5m false e q a e q a) (h4:SkN T a61 false e q a e q a) (h5:SkN T b3L false e q a e q a) (h6:SkN T b69 false e q a e q a) (hf:FaN T 5 e q a e1 q1 a1):TyN 137 T L (y5 (cT s8)) e q a e1 q1 a1:=by
 unfold TyN
 rw [a6k]
 refine n7.nil4 ?_
 refine N9 Try.func137 rfl ?_;intro _ _ _ _ _ _ _ _ _ _ _ _ _ _ _ _ _ _ _ _ _ _ _ _ _ _ _ _ _ _ _ _ _ _ _ _ _ _ _ _ _ vw;intros;rename_i hA
 have p0:=h1;have p1:=h2;have p2:=h3;have p3:=h4;have p4:=h5;have p5:=h6;have p6:=hf;exact T1
end
end
section
section
variable {T:List (List D)} {L e q a e1 q1 a1 e2 q2 a2 e3 q3 a3:Int}
theorem b4g {t:Ty} (hL2:L≤200) (h1:TyN 137 T L (y5 (cT t)) 0 q a e1 q1 a1) (h2:SkN T gTo false e1 q1 a1 e1 q1 a1):TyN 128 T L (y5 (cT t)) 0 q a e1 q1 a1:=by
 obtain ⟨c0,c1,c2,c3,hc⟩:=w8 t
 rw [hc] at h1 ⊢
 refine N9 Try.func128 rfl ?_;intro _ _ _ _ _ _ _ qi _ qk _ _ _ _ _ _ _ _ _ _ _ _ _ _ _ _ _ _ _ _ _ _ _ _ _ _ _ _ _ _ _ vw;intros;rename_i hA
 obtain ⟨ee1,ee2,e3,e4,e5,e6,e7,e8,e9⟩:=m6 hA
 have g1:qk 0 0=true:=by rw [e9];rfl
 have g2:qi 200 L=false:=by rw [e7];exact c9d (by omega)
 have q0:=g1;have q1:=g2;have p0:=h1;have p1:=h2;exact T1
theorem b7c {t u:Ty} (ht:t.parts.length≤1048576) (hu:u.parts.length≤1048576) (hL1:0≤L) (hL2:L≤200) (h1:TyN 137 T L (y5 (cT t)) 0 q a e1 q1 a1) (h2:SkN T gTo true e1 q1 a1 e2 q2 a2) (h3:TyN 128 T (L+1) (y5 (cT u)) e2 q2 a2 e3 q3 a3):TyN 128 T L (y5 (cT (.mk 4 N5 0 [t,u]))) 0 q a e3 q3 a3:=by
 have hf:=c6Q t u ht hu
 obtain ⟨c0,c1,c2,c3,hc⟩:=w8 t
 obtain ⟨b0,b1,b2,b3,hb⟩:=w8 u
 obtain ⟨d0,d1,d2,d3,hd⟩:=w8 (.mk 4 N5 0 [t,u])
 rw [hc] at h1 hf
 rw [hb] at h3 hf
 rw [hd] at hf ⊢
 obtain ⟨L1,hL⟩:∃L1,L1=L+1:=⟨_,rfl⟩
 rw [←hL] at h3
 have h3b:=n7.box h3 rfl
 refine N9 Try.func128 rfl ?_;intro qa qb _ _ _ _ _ qi _ qk;intros;rename_i hA
 obtain ⟨ee1,ee2,e3,e4,e5,e6,e7,e8,e9⟩:=m6 hA
 have g1:qk 0 0=true:=by rw [e9];rfl
 have g2:qi 200 L=false:=by rw [e7];exact c9d (by omega)
 have g3:qa .i64 (qb L 1)=L1:=by rw [ee1,ee2,IntWalk.i64_in _ (by omega)];exact hL.symm
 iterate 2 (try cbv;repeat ((first|with_reducible apply f8 hA|rw [g1]|rw [g2]|rw [g3]|refine i9 hA _ hf rfl ?_|refine j5 hA _ hf ?_|refine v7 hA [0,1] h1 ?_|refine v7 hA [0,1] h2 ?_|(refine b2j hA [0,1] h3b ⟨rfl,rfl,rfl,rfl,rfl,rfl,rfl⟩ ?_;rintro _ _ ⟨rfl,rfl⟩;refine ⟨?_,?_⟩;exact a6z (fun k hk=>by injection hk with hk;subst hk;rfl) (a8e _ _ _)));cbv))
 try simp (maxSteps:=4000000) only [nc] at *
 exact j9 hA [0,1] ⟨rfl,rfl,rfl,rfl,rfl,rfl,rfl,rfl⟩ ⟨rfl,rfl⟩
theorem b4h {s0:ByteArray} {k n0 p0:Int} (hk:k≠1) (hp:A4 39 [.ptr 0 0] [.box [.d (.sl 4 T),.d (.sc (.int .i64 a))]] (fun res os=>res=[.ag [.d (.sc (.int .u8 k)),.d (.sc (.string s0)),.d (.sc (.int .i64 n0)),.d (.sc (.int .i64 p0))]]∧os=[.box [.d (.sl 4 T),.d (.sc (.int .i64 a))]])) (hf:FaN T 5 e q a e1 q1 a1) :
  TyN 158 T L [.d (.sc (.string N5)),.d (.sc (.int .u8 0)),.d (.sc (.string N5)),.d (.sc (.int .i64 0)),.em] e q a e1 q1 a1:=by
 refine N9 Try.func158 rfl ?_;intro _ _ _ _ _ _ _ _ _ qk _ _ _ _ _ _ _ _ _ _ _ _ _ _ _ _ _ _ _ _ _ _ _ _ _ _ _ _ _ _ _ vw;intros;rename_i hA
 obtain ⟨ee1,ee2,e3,e4,e5,e6,e7,e8,e9⟩:=m6 hA
 have g1:qk k 1=false:=by rw [e9];exact c9d hk
 have q0:=g1;have r0:=hp;have p0:=hf;exact T1
theorem b4i {s0:ByteArray} {n0 p0:Int} {t:Ty} (hL1:0≤L) (hL2:L≤1048576) (hp:A4 39 [.ptr 0 0] [.box [.d (.sl 4 T),.d (.sc (.int .i64 a))]] (fun res os=>res=[.ag [.d (.sc (.int .u8 1)),.d (.sc (.string s0)),.d (.sc (.int .i64 n0)),.d (.sc (.int .i64 p0))]]∧os=[.box [.d (.sl 4 T),.d (.sc (.int .i64 a))]]))
  (hq:n7 91 [.ptr 0 0] [.box [.d (.sl 4 T),.d (.sc (.int .i64 a))]] (fun res os=>res=[.ag [.d (.sc (.int .u8 1)),.d (.sc (.string s0)),.d (.sc (.int .i64 n0)),.d (.sc (.int .i64 p0))]]∧os=[.box [.d (.sl 4 T),.d (.sc (.int .i64 a1))]]))
  (hn:WaN T a4z e q a1 e2 q2 a2) (hw:TyN 128 T (L+1) (y5 (cT t)) e2 q2 a2 e3 q3 a3) :
  TyN 158 T L (.d (.sc (.string s0))::y5 (cT t)) e q a e3 q3 a3:=by
 obtain ⟨c0,c1,c2,c3,hc⟩:=w8 t
 rw [hc] at hw ⊢
 obtain ⟨L1,hL⟩:∃L1,L1=L+1:=⟨_,rfl⟩
 rw [←hL] at hw
 refine N9 Try.func158 rfl ?_;intro qa qb _ _ _ _ _ _ _ qk;intros;rename_i hA
 obtain ⟨ee1,ee2,e3,e4,e5,e6,e7,e8,e9⟩:=m6 hA
 have g1:qk 1 1=true:=by rw [e9];rfl
 have g3:qa .i64 (qb L 1)=L1:=by rw [ee1,ee2,IntWalk.i64_in _ (by omega)];exact hL.symm
 iterate 2 (try cbv;repeat ((first|with_reducible apply f8 hA|rw [g1]|rw [g3]|refine rdx hA [1] hp ?_|refine v7 hA [1] hq ?_|refine v7 hA [0,1] hn ?_|refine v7 hA [0,1] hw ?_);cbv))
 try simp (maxSteps:=4000000) only [nc] at *
 exact j9 hA [0,1] ⟨rfl,rfl,rfl,rfl,rfl,rfl,rfl,rfl⟩ ⟨rfl,rfl⟩
end
end
def cQ (ts:List Tok) (p:PE):Int:=if p.2=0 then 0 else (l9 ts p.1).at_
theorem c0g (ts:List Tok) {p:PE} (h:p.2=0):cQ ts p=0:=c8Y h
theorem c6R (ts:List Tok) {p:PE} (h:p.2≠0):cQ ts p=(l9 ts p.1).at_:=c8W h
abbrev TyS (f:Nat) (ts:List Tok) (L:Int) (x:List V) (p p':PE):Prop:=TyN f (H8 ts) L x p.2 (cQ ts p) (p.1:Int) p'.2 (cQ ts p') (p'.1:Int)
theorem c0h (ts:List Tok) (hl:ts.length≤1048576) (s:ByteArray) (p:PE) (hp:p.1<ts.length):SkN (H8 ts) s (B3 ts s p) p.2 (cQ ts p) (p.1:Int) (skP ts s p).2 (cQ ts (skP ts s p)) ((skP ts s p).1:Int):=by
 by_cases h0:p.2=0
 ·have h1:=c2u ts _ p.1 (M9 hp) hl s
  unfold T4 at h1
  have e1:B3 ts s p=Z7 (l9 ts p.1) s:=by unfold B3;rw [h0];rfl
  unfold skP
  rw [e1,h0,c0g ts h0]
  by_cases hb:Z7 (l9 ts p.1) s=true
  ·rw [c8Y hb] at h1 ⊢
   exact h1
  ·rw [c8W hb] at h1 ⊢
   rw [h0,c0g ts h0]
   exact h1
 ·have h1:=b9L (H8 ts) p.2 (cQ ts p) (p.1:Int) h0 s
  unfold T4 at h1
  have e1:B3 ts s p=false:=by unfold B3;rw [c9f h0];rfl
  unfold skP
  rw [e1,c8W (by decide)]
  exact h1
theorem Z0 {ts:List Tok} (hl:ts.length≤1048576) {s:ByteArray} {p:PE} (hp:p.1<ts.length) (h:B3 ts s p=true):SkN (H8 ts) s true p.2 (cQ ts p) (p.1:Int) 0 0 ((p.1+1:Nat):Int):=by
 have h1:=c0h ts hl s p hp
 unfold skP at h1
 rw [h,c8Y rfl] at h1
 exact h1
theorem a0W {ts:List Tok} (hl:ts.length≤1048576) {s:ByteArray} {p:PE} (hp:p.1<ts.length) (h:¬B3 ts s p=true):SkN (H8 ts) s false p.2 (cQ ts p) (p.1:Int) p.2 (cQ ts p) (p.1:Int):=by
 have h1:=c0h ts hl s p hp
 unfold skP at h1
 rw [c8W h,show B3 ts s p=false from Bool.eq_false_iff.2 h] at h1
 exact h1
theorem a8K (ts:List Tok) (hl:ts.length≤1048576) (s:ByteArray) (p:PE) (hp:p.1<ts.length):WaN (H8 ts) s p.2 (cQ ts p) (p.1:Int) (j0 ts s p).2 (cQ ts (j0 ts s p)) ((j0 ts s p).1:Int):=by
 by_cases h0:p.2=0
 ·have h1:=c2v ts _ p.1 (M9 hp) hl s
  unfold j0
  rw [c8W (fun h=>h h0),h0,c0g ts h0]
  by_cases hb:Z7 (l9 ts p.1) s=true
  ·rw [c8Y hb] at h1 ⊢
   unfold T4 at h1
   exact h1
  ·rw [c8W hb] at h1 ⊢
   unfold T4 at h1
   exact h1
 ·have h1:=b9M (H8 ts) p.2 (cQ ts p) (p.1:Int) h0 s
  unfold T4 at h1
  unfold j0
  rw [c8Y h0]
  exact h1
theorem c0i (ts:List Tok) (hl:ts.length≤1048576) (c:Int) (hc:c≠0) (p:PE) (hp:p.1<ts.length):FaN (H8 ts) c p.2 (cQ ts p) (p.1:Int) (C5 c p).2 (cQ ts (C5 c p)) ((C5 c p).1:Int):=by
 by_cases h0:p.2=0
 ·have h1:=b1p ts _ p.1 (M9 hp) hl c
  unfold T4 at h1
  unfold C5
  rw [c8W (fun h=>h h0),h0,c0g ts h0,c6R ts (p:=(p.1,c)) hc]
  exact h1
 ·have h1:=b9K (H8 ts) p.2 (cQ ts p) (p.1:Int) c h0
  unfold T4 at h1
  unfold C5
  rw [c8Y h0]
  exact h1
theorem c8q {I:Nat→Nat→Prop} {w:World} {g:Nat→Value} {us:List Value} {n a b c:V} {z:Nat} (h:j8 I w g us [.ag [n,a,b,c,.em]]):j8 I w g us [.ag [n,a,b,c,.d (.sl z [])]] :=
 h.reset (i:=0) fun v hv=>by
  have h4:=h.2 0 v _ hv rfl
  obtain ⟨ks,rfl,h5⟩:=h4.unag
  exact M7 (h5.reset (i:=4) fun v hv=>by rw [(h5.2 4 v _ hv rfl).unem];exact .d (.nil _ _ _))
theorem b59 {ts:List Tok} (hE:m8 ts) (hl:ts.length≤1048576) {rd:PE→Ty×PE} {L:Int} (hL1:0≤L) (hL2:L≤1048576) (hr:a6J ts rd) (hw:∀q:PE,q.1<ts.length→TyS 128 ts (L+1) (y5 (cT (rd q).1)) q (rd q).2) (a:Nat) (hp:a<ts.length) :
  TyS 158 ts L (.d (.sc (.string (H1 rd ts (a,0)).1.1))::y5 (cT (H1 rd ts (a,0)).1.2)) (a,0) (H1 rd ts (a,0)).2:=by
 have hpk:=a3l ts _ a (M9 hp) hl
 unfold rdB tkD at hpk
 unfold H1
 by_cases hk:(l9 ts a).kind=1
 ·rw [c8W (fun h=>h hk)]
  have h1:=hE _ hp (by rw [hk];decide)
  have hq:=b0W ts _ a (M9 hp) hl
  unfold rdB tkD at hq
  rw [hk] at hpk hq
  have hn:=a8K ts hl a4z (a+1,0) h1
  obtain ⟨w1,w2,w3⟩:=j7 (s:=a4z) (p:=(a+1,0)) hE h1
  have hwh:=hw _ w1
  exact b4i hL1 hL2 hpk hq hn hwh
 ·rw [c8Y hk]
  have hf:=c0i ts hl 5 (by decide) (a,0) hp
  have h1:=b4h (L:=L) hk hpk hf
  unfold TyS TyN
  rw [a6k]
  exact n7.reread h1 fun res os2 ⟨e1,e2⟩=>⟨_,⟨rfl,e2⟩,fun I w g us hv=>c8q (e1 ▸ hv)⟩
theorem c5n {ts:List Tok} (hE:m8 ts) (hl:ts.length≤65537) {rd:PE→Ty×PE} {L:Int} (hL1:0≤L) (hL2:L≤1048576) (hr:a6J ts rd) (hw:∀q:PE,q.1<ts.length→TyS 128 ts (L+1) (y5 (cT (rd q).1)) q (rd q).2)
  (hrow:∀a:Nat,a<ts.length→TyS 150 ts L (y5 (cT (a2I rd ts (a,0)).1)) (a,0) (a2I rd ts (a,0)).2) (p:PE) (hp:p.1<ts.length) :
  TyS 137 ts L (y5 (cT (a0d rd ts p).1)) p (a0d rd ts p).2:=by
 have hl2:ts.length≤1048576:=by omega
 unfold a0d
 by_cases h1:B3 ts a8s p=true
 ·rw [c8Y h1];exact c0c (Z0 hl2 hp h1)
 rw [c8W h1]
 have n1:=a0W hl2 hp h1
 by_cases h2:B3 ts a4a p=true
 ·rw [c8Y h2];exact b6Z n1 (Z0 hl2 hp h2)
 rw [c8W h2]
 have n2:=a0W hl2 hp h2
 by_cases h3:B3 ts a5m p=true
 ·rw [c8Y h3];exact c0d n1 n2 (Z0 hl2 hp h3)
 rw [c8W h3]
 have n3:=a0W hl2 hp h3
 by_cases h4:B3 ts a61 p=true
 ·rw [c8Y h4]
  have s2:=(I4 hE hp h4).2
  exact b7a hL1 hL2 n1 n2 n3 (Z0 hl2 hp h4) (hw (p.1+1,0) s2) (a8K ts hl2 a8t _ (hr (p.1+1,0) s2).1.hi)
 rw [c8W h4]
 have n4:=a0W hl2 hp h4
 have hbig:∀a:Nat,a<ts.length→(a2I rd ts (a,0)).1.parts.length≤1048576∧(a2I rd ts (a,0)).2.1<ts.length:=fun a ha=>by
  obtain ⟨f1,f2,f3,f4,f5⟩:=b1r hE hr (a,0) ha
  exact ⟨by omega,f2⟩
 by_cases h5:B3 ts b3L p=true
 ·rw [c8Y h5]
  have s2:=(I4 hE hp h5).2
  exact c0e (hbig _ s2).1 n1 n2 n3 n4 (Z0 hl2 hp h5) (hrow (p.1+1) s2) (a8K ts hl2 b9o _ (hbig _ s2).2)
 rw [c8W h5]
 have n5:=a0W hl2 hp h5
 by_cases h6:B3 ts b69 p=true
 ·rw [c8Y h6]
  have s2:=(I4 hE hp h6).2
  exact c0f (hbig _ s2).1 n1 n2 n3 n4 n5 (Z0 hl2 hp h6) (hrow (p.1+1) s2) (a8K ts hl2 b9p _ (hbig _ s2).2)
 rw [c8W h6]
 exact b7b n1 n2 n3 n4 n5 (a0W hl2 hp h6) (c0i ts hl2 5 (by decide) p hp)
def a8L (T:List (List D)) (y:List D) (ef qf af:Int) (e q a:Int) (R:List (List D)):Prop :=
 (SkN T b6A false e q a ef qf af∧A0 127 [.one (.sl 5 R),.ag (lf0 8)] [.ag y]) ∨
 (∃e1 q1 a1,SkN T b6A true e q a e1 q1 a1∧WaN T a5m e1 q1 a1 ef qf af∧A0 127 [.one (.sl 5 R),.ag (lf0 9)] [.ag y])
theorem c0j {T:List (List D)} {L e q a ef qf af:Int} {y0 y1 y2 y3:D} {s0:ByteArray} {k n0 p0:Int} (hk:k≠1) (hp:A4 39 [.ptr 0 0] [.box [.d (.sl 4 T),.d (.sc (.int .i64 a))]] (fun res os=>res=[.ag [.d (.sc (.int .u8 k)),.d (.sc (.string s0)),.d (.sc (.int .i64 n0)),.d (.sc (.int .i64 p0))]]∧os=[.box [.d (.sl 4 T),.d (.sc (.int .i64 a))]]))
  (hend:a8L T [y0,y1,y2,y3] ef qf af e q a []):TyN 150 T L [.d y0,.d y1,.d y2,.d y3] e q a ef qf af:=by
 unfold a8L at hend
 refine N9 Try.func150 rfl ?_;intro _ _ _ _ _ _ _ _ _ qk _ _ _ _ _ _ _ _ _ _ _ _ _ _ _ _ _ _ _ _ _ _ _ _ _ _ _ _ _ _ _ vw;intros;rename_i hA
 obtain ⟨ee1,ee2,e3,e4,e5,e6,e7,e8,e9⟩:=m6 hA
 have g1:qk k 1=false:=by rw [e9];exact c9d hk
 cbv
 with_reducible apply f8 hA
 cbv
 refine a3j hA 5 163 true rfl ?_
 cbv
 rcases hend with ⟨hb,hj⟩|⟨e1,q1,a1,hb,hn,hj⟩
 ·unfold lf0 at hj
  have q0:=g1;have h0:=hj;have r0:=hp;have p0:=hb;exact T1
 ·unfold lf0 at hj
  have q0:=g1;have h0:=hj;have r0:=hp;have p0:=hb;have p1:=hn;exact T1
theorem c0k {T:List (List D)} {L e q a ef qf af:Int} {y0 y1 y2 y3:D} {s0:ByteArray} {n0 p0:Int} (hp:A4 39 [.ptr 0 0] [.box [.d (.sl 4 T),.d (.sc (.int .i64 a))]] (fun res os=>res=[.ag [.d (.sc (.int .u8 1)),.d (.sc (.string s0)),.d (.sc (.int .i64 n0)),.d (.sc (.int .i64 p0))]]∧os=[.box [.d (.sl 4 T),.d (.sc (.int .i64 a))]]))
  {f0 f1 f2 f3 f4:D} {es qs as0:Int} {m0:Nat} (inv:Int→Int→Int→List (List D)→Nat→Prop)
  (hf:TyN 158 T L [.d f0,.d f1,.d f2,.d f3,.d f4] e q a es qs as0) (h0:inv es qs as0 [[f0,f1,f2,f3,f4]] m0)
  (hst:∀(e q a:Int) (R:List (List D)) (m:Nat),inv e q a R m→R.length<1048576∧((∃(e1 q1 a1:Int) (c0 c1 c2 c3 c4:D) (e2 q2 a2:Int) (m2:Nat),SkN T a6d true e q a e1 q1 a1∧TyN 158 T L [.d c0,.d c1,.d c2,.d c3,.d c4] e1 q1 a1 e2 q2 a2∧inv e2 q2 a2 (R++[[c0,c1,c2,c3,c4]]) m2∧m2<m)
   ∨ (SkN T a6d false e q a e q a∧a8L T [y0,y1,y2,y3] ef qf af e q a R))):TyN 150 T L [.d y0,.d y1,.d y2,.d y3] e q a ef qf af:=by
 refine N9 Try.func150 rfl ?_;intro _ _ _ _ _ _ _ _ _ qk _ _ _ _ _ _ _ _ _ _ _ _ _ _ _ ve _ _ _ _ _ _ _ _ _ _ _ _ _ _ _ vw;intros;rename_i hA
 obtain ⟨ee1,ee2,e3,e4,e5,e6,e7,e8,e9⟩:=m6 hA
 obtain ⟨r1,r2,r3,r4⟩:=C7 hA
 have g1:qk 1 1=true:=by rw [e9];rfl
 have g2:ve [] [[f0,f1,f2,f3,f4]]=[[f0,f1,f2,f3,f4]]:=by rw [r4];rfl
 cbv
 with_reducible apply f8 hA
 cbv
 refine a3j hA 5 163 true rfl ?_
 cbv
 iterate 2 (try cbv;repeat ((first|with_reducible apply f8 hA|rw [g1]|rw [g2]|refine rdx hA [1] hp ?_|refine v7 hA [0,1] hf ?_|refine C2 hA true ?_|refine E2 hA (by simp) ?_);cbv))
 try simp (maxSteps:=4000000) only [nc] at *
 refine o7 hA (γ:=(Int×Int×Int)×List (List D)×Nat) (fun x=>[(5,.own 3),(19,.jk)]) (fun x=>[(0,.box [.ptr 1 0,.d (.sc (.int .u8 x.1.1)),.d (.sc (.int .i64 x.1.2.1))]),(1,.box [.d (.sl 4 T),.d (.sc (.int .i64 x.1.2.2))]),(3,.row true 163 x.2.1)]) (fun x=>inv x.1.1 x.1.2.1 x.1.2.2 x.2.1 x.2.2) (fun x=>x.2.2) ((es,qs,as0),[[f0,f1,f2,f3,f4]],m0) ?_ ?_ ?_
 ·exact h0
 ·cbv
 ·intro x hinv
  obtain ⟨⟨e,q,a⟩,R,m⟩:=x
  obtain ⟨hlen,hs⟩:=hst e q a R m hinv
  rcases hs with ⟨e1,q1,a1,c0,c1,c2,c3,c4,e2,q2,a2,m2,hc,hf2,hi2,hm2⟩|⟨hc,hend⟩
  ·have g3:ve R [[c0,c1,c2,c3,c4]]=R++[[c0,c1,c2,c3,c4]]:=by rw [r4]
   obtain ⟨R2,hR2⟩:∃R2,R2=R++[[c0,c1,c2,c3,c4]]:=⟨_,rfl⟩
   rw [←hR2] at g3 hi2
   iterate 2 (try cbv;repeat ((first|with_reducible apply f8 hA|rw [g3]|refine v7 hA [0,1] hc ?_|refine v7 hA [0,1] hf2 ?_|refine C2 hA true ?_|(refine E2 hA (by simp only [c9a,c9n];omega) ?_));cbv))
   try simp (maxSteps:=4000000) only [nc] at *
   refine ⟨((e2,q2,a2),R2,m2),hi2,hm2,?_⟩
   cbv
  ·unfold a8L at hend
   rcases hend with ⟨hb,hj⟩|⟨e1,q1,a1,hb,hn,hj⟩
   ·unfold lf0 at hj
    have h0:=hj;have p0:=hc;have p1:=hb;exact T1
   ·unfold lf0 at hj
    have h0:=hj;have p0:=hc;have p1:=hb;have p2:=hn;exact T1
theorem b0o (l:List (ByteArray×Ty)) (op:Int) (hn:l.length≤1048576) (hf:∀f∈l,f.2.parts.length≤1048576):A0 127 [.one (.sl 5 (rF l)),.ag (lf0 op)] [.ag (cT (a2i l (lfT op)))]:=by
 have h:=c5m l (lfT op) hn (by rw [a1x];omega) hf
 rw [show cT (lfT op)=[.sc (.int .u8 op),.sc (.string N5),.sc (.int .i64 0),.sl 4 []] by rw [cT,rT]] at h
 exact h.like ⟨.same _,a5w op,trivial⟩
theorem c0l {ts:List Tok} (hE:m8 ts) (hl:ts.length≤65537) (l:List (ByteArray×Ty)) (q:PE) (hq:q.1<ts.length) (hn:v8 l≤1048576) :
  a8L (H8 ts) (cT (tlW ts l q).1) (tlW ts l q).2.2 (cQ ts (tlW ts l q).2) ((tlW ts l q).2.1:Int) q.2 (cQ ts q) (q.1:Int) (rF l):=by
 have hl2:ts.length≤1048576:=by omega
 have hfl:=b58 l
 have hlen:l.length≤1048576:=by omega
 have hfs:∀f∈l,f.2.parts.length≤1048576:=fun f hf=>by have:=hfl.2 f hf;omega
 unfold tlW
 by_cases hb:B3 ts b6A q=true
 ·rw [c8Y hb]
  have s2:=(I4 hE hq hb).2
  exact .inr ⟨_,_,_,Z0 hl2 hq hb,a8K ts hl2 a5m (q.1+1,0) s2,b0o l 9 hlen hfs⟩
 ·rw [c8W hb]
  exact .inl ⟨a0W hl2 hq hb,b0o l 8 hlen hfs⟩
theorem c6S {ts:List Tok} (hE:m8 ts) (hl:ts.length≤65537) {rd:PE→Ty×PE} {L:Int} (hL1:0≤L) (hL2:L≤1048576) (hr:a6J ts rd) (hw:∀q:PE,q.1<ts.length→TyS 128 ts (L+1) (y5 (cT (rd q).1)) q (rd q).2) (a:Nat) (hp:a<ts.length) :
  TyS 150 ts L (y5 (cT (a2I rd ts (a,0)).1)) (a,0) (a2I rd ts (a,0)).2:=by
 have hl2:ts.length≤1048576:=by omega
 have hpk:=a3l ts _ a (M9 hp) hl2
 unfold rdB tkD at hpk
 obtain ⟨y0,y1,y2,y3,hy⟩:=w8 (a2I rd ts (a,0)).1
 have hh:=a8H hE hr (a,0) hp
 have hend:=c0l hE hl (a0P rd ts (a,0)).1 (a0P rd ts (a,0)).2 hh.hi (by have:=hh.sz;have:=hh.hi;omega)
 by_cases hk:(l9 ts a).kind=1
 ·rw [hk] at hpk
  have hff:=a1f hE hr (a,0) hp
  have hf:=b59 hE hl2 hL1 hL2 hr hw a hp
  have hhd:a0P rd ts (a,0)=Q5 rd ts ts.length (H1 rd ts (a,0)).2 [(H1 rd ts (a,0)).1]:=by unfold a0P;rw [c8Y hk]
  obtain ⟨f1,f2,f3,f4,hc⟩:=w8 (H1 rd ts (a,0)).1.2
  rw [hc] at hf
  generalize hF:H1 rd ts (a,0)=F at *
  have e1:v8 [F.1]=1+F.1.2.parts.length:=rfl
  have hfl:FitL ts (a,0) ([F.1],F.2):=⟨hff.lo,hff.hi,by have:=hff.sw hk;show v8 [F.1]+a≤F.2.1+1;rw [e1];simp only at this;omega,fun h=>⟨rfl,by have:=(hff.ok h).2;show v8 [F.1]+a≤F.2.1;rw [e1];simp only at this;omega⟩,fun x hx=>by cases c97.1 hx;exact hff.sp⟩
  generalize hH:a0P rd ts (a,0)=H at *
  unfold a2I at hy ⊢
  rw [hH] at hy ⊢
  rw [hy] at hend ⊢
  refine c0k (m0:=ts.length) hpk (fun e q z R m=>∃(p:PE) (l:List (ByteArray×Ty)),e=p.2∧q=cQ ts p∧z=(p.1:Int)∧R=rF l∧FitL ts (a,0) (l,p)∧ts.length - p.1≤m∧Q5 rd ts m p l=H) hf ⟨F.2,[F.1],rfl,rfl,rfl,by unfold rF;rw [c9m,hc];rfl,hfl,Nat.sub_le ..,hhd.symm⟩ ?_
  rintro e q z R m ⟨p,l,rfl,rfl,rfl,rfl,hfit,hm,hfin⟩
  have hpi:=hfit.hi
  have hsz:=hfit.sz
  simp only at hpi hsz
  have hll:=(b58 l).1
  refine ⟨by rw [a6f];omega,?_⟩
  match m,hm,hfin with
  | 0,hm,hfin=>omega
  | m+1,hm,hfin =>
   rw [Q5] at hfin
   by_cases hb:B3 ts a6d p=true
   ·rw [c8Y hb] at hfin
    obtain ⟨s1,s2⟩:=I4 hE hpi hb
    have hf2:=b59 hE hl2 hL1 hL2 hr hw (p.1+1) s2
    have hfg:=a45 hE hr (a,0) 1 p l hfit
    have hff2:=a1f hE hr (p.1+1,0) s2
    rw [Q5,c8Y hb,Q5] at hfg
    obtain ⟨c1,c2,c3,c4,hc2⟩:=w8 (H1 rd ts (p.1+1,0)).1.2
    rw [hc2] at hf2
    generalize H1 rd ts (p.1+1,0)=G at *
    exact .inl ⟨_,_,_,_,_,_,_,_,_,_,_,m,Z0 hl2 hpi hb,hf2,⟨G.2,l++[G.1],rfl,rfl,rfl,by rw [b50,hc2],hfg,by have:=hff2.lo;simp only at this;omega,hfin⟩,Nat.lt_succ_self m⟩
   ·rw [c8W hb] at hfin
    subst hfin
    exact .inr ⟨a0W hl2 hpi hb,hend⟩
 ·have hhd:a0P rd ts (a,0)=([],(a,0)):=by unfold a0P;rw [c8W hk]
  unfold a2I at hy ⊢
  rw [hhd] at hend hy ⊢
  rw [hy] at hend ⊢
  exact c0j hk hpk hend
def a1y (n:Nat) (L:Int):Prop:=(n=0∧200<L)∨(1≤n∧n≤201∧L=201 - (n:Int))
theorem b5A {ts:List Tok} (hE:m8 ts) (hl:ts.length≤65537):∀(n:Nat) (L:Int),a1y n L→∀p:PE,p.1<ts.length→TyS 128 ts L (y5 (cT (B5 ts n p).1)) p (B5 ts n p).2
 | n,L,hv,p,hp=>by
  have hl2:ts.length≤1048576:=by omega
  by_cases h0:p.2=0
  ·rcases hv with ⟨rfl,hL⟩|⟨h1,h2,hL⟩
   ·have h:=b4e ts _ p.1 (M9 hp) hl2 L hL
    unfold T4 at h
    rw [B5]
    unfold C5
    rw [c8W (fun h=>h h0)]
    unfold TyS
    rw [h0,c0g ts h0]
    exact h
   ·obtain ⟨n,rfl⟩:∃k,n=k+1:=⟨n - 1,by omega⟩
    have hv2:a1y n (L+1):=by
     unfold a1y
     by_cases hn:n=0
     ·exact .inl ⟨hn,by omega⟩
     ·exact .inr ⟨by omega,by omega,by omega⟩
    have ih:=b5A hE hl n (L+1) hv2
    have hr:=a1g hE n
    have ha:=c5n hE hl (by omega) (by omega) hr ih (c6S hE hl (by omega) (by omega) hr ih) p hp
    have hfa:=a8J hE hr p hp
    rw [B5,c8W (fun h=>h h0)]
    unfold TyS at ha ⊢
    rw [h0] at ha ⊢
    by_cases hb:B3 ts gTo (a0d (B5 ts n) ts p).2=true
    ·rw [c8Y hb]
     have s2:=(I4 hE hfa.hi hb).2
     have hfu:=(hr ((a0d (B5 ts n) ts p).2.1+1,0) s2).1
     exact b7c (by have:=hfa.sz;have:=hfa.hi;omega) (by have:=hfu.sz;have:=hfu.hi;omega) (by omega) (by omega) ha (Z0 hl2 hfa.hi hb) (ih _ s2)
    ·rw [c8W hb]
     exact b4g (by omega) ha (a0W hl2 hfa.hi hb)
  ·have h:=b6U (H8 ts) p.2 (cQ ts p) (p.1:Int) L h0
   unfold T4 at h
   have e:B5 ts n p=(s8,p):=by
    cases n with
    | zero=>rw [B5];unfold C5;rw [c8Y h0]
    | succ n=>rw [B5,c8Y h0]
   rw [e]
   exact h
def NoV (t:Ty):Prop:=∀x∈t.parts,x.op≠7∧x.op≠10
def Rt (t:Ty) (s:Int):Prop:=F6 B2 t s=true∧NoV t
theorem c27:N5.toList=[]:=by rw [ByteArray.toList_eq]
theorem NoV.mk {op:Int} {nm:ByteArray} {n:Int} {ks:List Ty} (h:op≠7∧op≠10) (hk:∀k∈ks,NoV k):NoV (.mk op nm n ks):=fun x hx=>by
 rw [A9] at hx
 rcases c9e.1 hx with rfl|hx
 ·exact h
 ·obtain ⟨k,hkm,hxk⟩:=c9K.1 hx
  exact hk k hkm x hxk
theorem c0m (op:Int) (h:op≠11):c3B B2 op N5=true:=by unfold c3B;rw [c8W h];exact c9j c27
theorem a5x (op s:Int) (h:op=1∧s=116∨op=2∧s=116∨op=3∧s=116∨op=8∧s=114∨op=9∧s=114):Rt (lfT op) s:=by
 refine ⟨?_,NoV.mk (by omega) fun k hk=>by cases hk⟩
 have hk:N6 op=some []:=by unfold N6;rw [c8Y (by omega)]
 rw [a0l hk,c0m op (by omega)]
 rcases h with ⟨rfl,rfl⟩|⟨rfl,rfl⟩|⟨rfl,rfl⟩|⟨rfl,rfl⟩|⟨rfl,rfl⟩ <;> rfl
theorem c5o {t u:Ty} (ht:Rt t 116) (hu:Rt u 116):Rt (.mk 4 N5 0 [t,u]) 116:=by
 refine ⟨?_,NoV.mk (by decide) fun k hk=>by
  rcases c9e.1 hk with rfl|hk
  ·exact ht.2
  ·cases c97.1 hk;exact hu.2⟩
 rw [a0l (k:=[116,116]) rfl,c0m 4 (by decide),F7,F7,ht.1,hu.1]
 rfl
theorem c0n {t:Ty} (op:Int) (h:op=5∨op=6) (ht:Rt t 114):Rt (.mk op N5 0 [t]) 116:=by
 refine ⟨?_,NoV.mk (by omega) fun k hk=>by cases c97.1 hk;exact ht.2⟩
 have hk:N6 op=some [114]:=by rcases h with rfl|rfl <;> rfl
 rw [a0l hk,c0m op (by omega),F7,ht.1]
 rcases h with rfl|rfl <;> rfl
theorem b1s {tl:Ty} (htl:Rt tl 114):∀ {l:List (ByteArray×Ty)},(∀f∈l,B2 f.1=true∧Rt f.2 116)→Rt (a2i l tl) 114
 | [],_=>htl
 | f::l,h=>by
  have h1:=h f (c8V ..)
  have h2:=b1s htl (l:=l) fun g hg=>h g (c8X _ hg)
  rw [a42]
  refine ⟨?_,NoV.mk (by decide) fun k hk=>by
   rcases c9e.1 hk with rfl|hk
   ·exact h1.2.2
   ·cases c97.1 hk;exact h2.2⟩
  rw [a0l (k:=[116,114]) rfl,F7,F7,h1.2.1,h2.1]
  unfold c3B
  rw [c8Y rfl,h1.1]
  rfl
theorem c0o {t:Ty} (h:NoV t):a63 t=true:=by
 unfold a63
 rw [c9s]
 intro x hx
 rw [c9s]
 intro y hy
 unfold a6e
 rw [c9f (h x hx).1]
 rfl
theorem Rt.right {t:Ty} {s:Int} (h:Rt t s):I8 t s=true:=by unfold I8;rw [h.1,c0o h.2];rfl
theorem Rt.either {t:Ty} (h:Rt t 116):a0y t=true:=by unfold a0y;rw [h.right];rfl
def RtR (ts:List Tok) (rd:PE→Ty×PE):Prop:=∀p:PE,p.1<ts.length→(rd p).2.2=0→Rt (rd p).1 116
theorem b4j {ts:List Tok} {s:ByteArray} {p:PE} (h:(j0 ts s p).2=0):p.2=0:=by
 unfold j0 at h
 by_cases h0:p.2≠0
 ·rw [c8Y h0] at h;exact h
 ·exact d0E.1 h0
theorem b2U {ts:List Tok} {rd:PE→Ty×PE} (hE:m8 ts) (hN:T5 ts) (hr:RtR ts rd) (p:PE) (hp:p.1<ts.length) (h:(H1 rd ts p).2.2=0):B2 (H1 rd ts p).1.1=true∧Rt (H1 rd ts p).1.2 116:=by
 unfold H1 at h ⊢
 by_cases hk:(l9 ts p.1).kind≠1
 ·rw [c8Y hk] at h
  exact absurd h (C8 5 (by decide) p).2
 ·rw [c8W hk] at h ⊢
  replace hk:=d0E.1 hk
  exact ⟨hN _ hp hk,hr _ (j7 hE (hE _ hp (by rw [hk];decide))).1 h⟩
theorem b0p {ts:List Tok} {rd:PE→Ty×PE} (hE:m8 ts) (hN:T5 ts) (hf:a6J ts rd) (hr:RtR ts rd):∀(k:Nat) (p:PE) (l:List (ByteArray×Ty)),p.1<ts.length→(p.2=0→∀f∈l,B2 f.1=true∧Rt f.2 116)→(Q5 rd ts k p l).2.2=0→∀f∈(Q5 rd ts k p l).1,B2 f.1=true∧Rt f.2 116
 | 0,p,l,_,h,h0=>h h0
 | k+1,p,l,hp,h,h0=>by
  rw [Q5] at h0 ⊢
  by_cases hs:B3 ts a6d p=true
  ·rw [c8Y hs] at h0 ⊢
   obtain ⟨s1,s2⟩:=I4 hE hp hs
   refine b0p hE hN hf hr k _ _ (a1f hE hf (p.1+1,0) s2).hi (fun h1 f hm=>?_) h0
   rcases c99.1 hm with hm|hm
   ·exact h s1 f hm
   ·cases c97.1 hm;exact b2U hE hN hr (p.1+1,0) s2 h1
  ·rw [c8W hs] at h0 ⊢;exact h h0
theorem b5B {ts:List Tok} {rd:PE→Ty×PE} (hE:m8 ts) (hN:T5 ts) (hf:a6J ts rd) (hr:RtR ts rd) (p:PE) (hp:p.1<ts.length) (h:(a2I rd ts p).2.2=0):Rt (a2I rd ts p).1 114:=by
 have hh:(a0P rd ts p).2.2=0→∀f∈(a0P rd ts p).1,B2 f.1=true∧Rt f.2 116:=by
  unfold a0P
  by_cases hk:(l9 ts p.1).kind=1
  ·rw [c8Y hk]
   intro h0
   exact b0p hE hN hf hr _ _ _ (a1f hE hf p hp).hi (fun h1 f hm=>by cases c97.1 hm;exact b2U hE hN hr p hp h1) h0
  ·rw [c8W hk]
   intro _ f hm
   cases hm
 unfold a2I tlW at h ⊢
 by_cases hs:B3 ts b6A (a0P rd ts p).2=true
 ·rw [c8Y hs] at h ⊢
  exact b1s (a5x 9 114 (by omega)) (hh (I4 hE (a8H hE hf p hp).hi hs).1)
 ·rw [c8W hs] at h ⊢
  exact b1s (a5x 8 114 (by omega)) (hh h)
theorem b5C {ts:List Tok} {rd:PE→Ty×PE} (hE:m8 ts) (hN:T5 ts) (hf:a6J ts rd) (hr:RtR ts rd) (p:PE) (hp:p.1<ts.length) (h:(a0d rd ts p).2.2=0):Rt (a0d rd ts p).1 116:=by
 unfold a0d at h ⊢
 by_cases h1:B3 ts a8s p=true
 ·rw [c8Y h1];exact a5x 1 116 (by omega)
 rw [c8W h1] at h ⊢
 by_cases h2:B3 ts a4a p=true
 ·rw [c8Y h2];exact a5x 2 116 (by omega)
 rw [c8W h2] at h ⊢
 by_cases h3:B3 ts a5m p=true
 ·rw [c8Y h3];exact a5x 3 116 (by omega)
 rw [c8W h3] at h ⊢
 by_cases h4:B3 ts a61 p=true
 ·rw [c8Y h4] at h ⊢
  exact hr (p.1+1,0) (I4 hE hp h4).2 (b4j h)
 rw [c8W h4] at h ⊢
 by_cases h5:B3 ts b3L p=true
 ·rw [c8Y h5] at h ⊢
  exact c0n 5 (by omega) (b5B hE hN hf hr (p.1+1,0) (I4 hE hp h5).2 (b4j h))
 rw [c8W h5] at h ⊢
 by_cases h6:B3 ts b69 p=true
 ·rw [c8Y h6] at h ⊢
  exact c0n 6 (by omega) (b5B hE hN hf hr (p.1+1,0) (I4 hE hp h6).2 (b4j h))
 rw [c8W h6] at h
 exact absurd h (C8 5 (by decide) p).2
theorem b2V {ts:List Tok} (hE:m8 ts) (hN:T5 ts):∀n:Nat,RtR ts (B5 ts n)
 | 0,p,hp,h=>by
  rw [B5] at h
  exact absurd h (C8 6 (by decide) p).2
 | n+1,p,hp,h=>by
  have ih:=b2V hE hN n
  have hf:=a1g hE n
  rw [B5] at h ⊢
  by_cases h0:p.2≠0
  ·rw [c8Y h0] at h
   exact absurd h h0
  rw [c8W h0] at h ⊢
  by_cases hs:B3 ts gTo (a0d (B5 ts n) ts p).2=true
  ·rw [c8Y hs] at h ⊢
   have hfa:=a8J hE hf p hp
   obtain ⟨s1,s2⟩:=I4 hE hfa.hi hs
   exact c5o (b5C hE hN hf ih p hp s1) (ih ((a0d (B5 ts n) ts p).2.1+1,0) s2 h)
  ·rw [c8W hs] at h ⊢
   exact b5C hE hN hf ih p hp h
abbrev RdN (T:List (List D)) (L:Int) (x:List V) (a p c a1:Int):Prop:=n7 124 [.ptr 0 0,vi .i64 L] [.box [.d (.sl 4 T),.d (.sc (.int .i64 a))]] (fun res os=>res=[.ag x,.d (.sc (.int .i64 p)),.d (.sc (.int .u8 c))]∧os=[.box [.d (.sl 4 T),.d (.sc (.int .i64 a1))]])
theorem c6U {I:Nat→Nat→Prop} {w:World} {g:Nat→Value} {us:List Value} {a b c x y:V} {z:Nat} (h:j8 I w g us [.ag [a,b,c,.em],x,y]):j8 I w g us [.ag [a,b,c,.d (.sl z [])],x,y] :=
 h.reset (i:=0) fun v hv=>by
  have h4:=h.2 0 v _ hv rfl
  obtain ⟨ks,rfl,h5⟩:=h4.unag
  exact M7 (h5.reset (i:=3) fun v hv=>by rw [(h5.2 3 v _ hv rfl).unem];exact .d (.nil _ _ _))
theorem c0p {T:List (List D)} {L a e q a1:Int} {t:Ty} (he:e≠0) (h1:TyN 128 T L (y5 (cT t)) 0 0 a e q a1):RdN T L (y5 (cT s8)) a q e a1:=by
 have h0:RdN T L [.d (.sc (.int .u8 0)),.d (.sc (.string N5)),.d (.sc (.int .i64 0)),.em] a q e a1:=by
  obtain ⟨c0,c1,c2,c3,hc⟩:=w8 t
  rw [hc] at h1
  refine N9 Try.func124 rfl ?_;intro _ _ _ _ _ _ _ _ _ qk;intros;rename_i hA
  obtain ⟨ee1,ee2,e3,e4,e5,e6,e7,e8,e9⟩:=m6 hA
  have g1:qk e 0=false:=by rw [e9];exact c9d he
  iterate 2 (try cbv;repeat ((first|with_reducible apply f8 hA|rw [g1]|refine v7 hA [2,0] h1 ?_);cbv))
  try simp (maxSteps:=4000000) only [nc] at *
  exact j9 hA [0] ⟨rfl,rfl,rfl,rfl,rfl,rfl,rfl,rfl⟩ ⟨rfl,rfl⟩
 unfold RdN
 rw [a6k]
 exact n7.reread h0 fun res os2 ⟨e1,e2⟩=>⟨_,⟨rfl,e2⟩,fun I w g us hv=>c6U (e1 ▸ hv)⟩
theorem c28 {T:List (List D)} {L a q a1:Int} {t:Ty} (ht:Sm t) (he:a0y t=true) (h1:TyN 128 T L (y5 (cT t)) 0 0 a 0 q a1):RdN T L (y5 (cT (C6 t))) a 0 0 a1:=by
 have hcn:=c2t t ht
 rw [c8Y he] at hcn
 obtain ⟨c0,c1,c2,c3,hc⟩:=w8 t
 obtain ⟨d0,d1,d2,d3,hd⟩:=w8 (C6 t)
 rw [hc] at h1 hcn
 rw [hd] at hcn ⊢
 refine N9 Try.func124 rfl ?_;intro _ _ _ _ _ _ _ _ _ qk;intros;rename_i hA
 obtain ⟨ee1,ee2,e3,e4,e5,e6,e7,e8,e9⟩:=m6 hA
 have g1:qk 0 0=true:=by rw [e9];rfl
 iterate 2 (try cbv;repeat ((first|with_reducible apply f8 hA|rw [g1]|refine i9 hA _ hcn rfl ?_|refine j5 hA _ hcn ?_|refine v7 hA [2,0] h1 ?_);cbv))
 try simp (maxSteps:=4000000) only [nc] at *
 exact j9 hA [0] ⟨rfl,rfl,rfl,rfl,rfl,rfl,rfl,rfl⟩ ⟨rfl,rfl⟩
def P7 (ts:List Tok) (n a:Nat):Ty×Int×Int×Nat :=
 if (B5 ts n (a,0)).2.2≠0 then (s8,(l9 ts (B5 ts n (a,0)).2.1).at_,(B5 ts n (a,0)).2.2,(B5 ts n (a,0)).2.1)
 else (C6 (B5 ts n (a,0)).1,0,0,(B5 ts n (a,0)).2.1)
theorem c5q {ts:List Tok} (hE:m8 ts) (hN:T5 ts) (hl:ts.length≤65537) (n:Nat) (L:Int) (hv:a1y n L) (a:Nat) (ha:a<ts.length) :
  RdN (H8 ts) L (y5 (cT (P7 ts n a).1)) (a:Int) (P7 ts n a).2.1 (P7 ts n a).2.2.1 ((P7 ts n a).2.2.2:Int):=by
 have h:=b5A hE hl n L hv (a,0) ha
 have hf:=(a1g hE n (a,0) ha).1
 have hrt:=b2V hE hN n (a,0) ha
 unfold P7
 generalize B5 ts n (a,0)=r at *
 by_cases h0:r.2.2≠0
 ·rw [c8Y h0]
  have h2:=c0p h0 h
  rw [c6R ts h0] at h2
  exact h2
 ·rw [c8W h0]
  replace h0:=d0E.1 h0
  unfold TyS at h
  rw [h0] at h
  exact c28 (c6B (hrt h0).1 (by have:=hf.sz;have:=hf.hi;omega)) (hrt h0).either h
section
section
variable {T:List (List D)} {L:Int}
theorem c5r {s:ST} (h0:A7 38 [] T s [vb false] s):A7 116 [vi .i64 L] T s [.ag (y5 (cT s8))] s:=by
 rw [a6k]
 refine n7.nils (cs:=[vi .u8 0,vs ⟨#[]⟩,vi .i64 0,.em]) ?_ ⟨.inl rfl,.inl rfl,.inl rfl,.inr ⟨rfl,_,rfl⟩,trivial⟩
 obtain ⟨_,_,_⟩:=s
 refine N9 Try.func116 rfl ?_;intro _ _ _ _ _ _ _ _ _ _ _ _ _ _ _ _ _ _ _ _ _ _ _ _ _ _ _ _ _ _ _ _ _ _ _ _ _ _ _ _ _ vw;intros;rename_i hA
 have p0:=h0;exact T1
theorem c5s {e q a p c a1:Int} {y:Nat→D} (hc:c≠0) (h0:A7 38 [] T (e,q,a) [vb true] (e,q,a)) (h1:RdN T L (y5 (c4 y)) a p c a1):A7 116 [vi .i64 L] T (e,q,a) [.ag (y5 (c4 y))] (c,p,a1):=by
 refine N9 Try.func116 rfl ?_;intro _ _ _ _ _ _ _ _ _ qk;intros;rename_i hA
 obtain ⟨e1,e2,e3,e4,e5,e6,e7,e8,e9⟩:=m6 hA
 have q1:qk c 0=false:=by rw [e9];exact c9d hc
 iterate 2 (try cbv;repeat ((first|with_reducible apply f8 hA|rw [q1]|refine v7 hA [0,1] h0 ?_|refine v7 hA [1] h1 ?_);cbv))
 try simp (maxSteps:=4000000) only [nc] at *
 exact j9 hA [0,1] ⟨rfl,rfl,rfl,rfl,rfl,rfl,rfl,rfl⟩ ⟨rfl,rfl⟩
theorem c6V {q a p a1:Int} {y:Nat→D} (h0:A7 38 [] T (0,q,a) [vb true] (0,q,a)) (h1:RdN T L (y5 (c4 y)) a p 0 a1):A7 116 [vi .i64 L] T (0,q,a) [.ag (y5 (c4 y))] (0,q,a1):=by
 refine N9 Try.func116 rfl ?_;intro _ _ _ _ _ _ _ _ _ qk;intros;rename_i hA
 obtain ⟨e1,e2,e3,e4,e5,e6,e7,e8,e9⟩:=m6 hA
 have q1:qk 0 0=true:=by rw [e9];rfl
 iterate 2 (try cbv;repeat ((first|with_reducible apply f8 hA|rw [q1]|refine v7 hA [0,1] h0 ?_|refine v7 hA [1] h1 ?_);cbv))
 try simp (maxSteps:=4000000) only [nc] at *
 exact j9 hA [0,1] ⟨rfl,rfl,rfl,rfl,rfl,rfl,rfl,rfl⟩ ⟨rfl,rfl⟩
end
def a0E (ts:List Tok) (n:Nat) (p:PE):Ty×PE:=if p.2=0 then ((P7 ts n p.1).1,(P7 ts n p.1).2.2.2,(P7 ts n p.1).2.2.1) else (s8,p)
theorem c0q (ts:List Tok) (n a:Nat):U8 ts ((P7 ts n a).2.2.2,(P7 ts n a).2.2.1)=((P7 ts n a).2.2.1,(P7 ts n a).2.1,((P7 ts n a).2.2.2:Int)):=by
 unfold P7
 split
 ·rename_i h
  exact a8y ts _ _ h
 ·rfl
theorem c0r {ts:List Tok} (hE:m8 ts) (hN:T5 ts) (hl:ts.length≤65537) (n:Nat) (L:Int) (hv:a1y n L) {p:PE} (hp:p.1<ts.length) :
  G9 116 [vi .i64 L] ts p [.ag (y5 (cT (a0E ts n p).1))] (a0E ts n p).2:=by
 have hok:=okP (by omega:ts.length≤1048576) hp
 have hr:=c5q hE hN hl n L hv p.1 hp
 have hst:=c0q ts n p.1
 unfold a0E
 obtain ⟨a,e⟩:=p
 by_cases h:e=0
 ·subst h
  rw [c8Y rfl]
  unfold G9 at hok ⊢
  rw [c4S] at hok ⊢
  simp only at hr hst ⊢
  rw [hst]
  generalize P7 ts n a=r at *
  obtain ⟨t,q,c,a1⟩:=r
  obtain ⟨y,hy⟩:=b26 t
  simp only at hr hst ⊢
  rw [hy] at hr ⊢
  by_cases hc:c=0
  ·subst hc
   have hq:q=0:=(congrArg (fun s:ST=>s.2.1) hst).symm.trans rfl
   subst hq
   exact c6V hok hr
  ·exact c5s hc hok hr
 ·rw [c8W h]
  unfold G9 at hok ⊢
  rw [c9f (show ((a,e):PE).2≠0 from h)] at hok
  exact c5r hok
end
theorem n7.coer {f:Nat} {vs:List V} {os os1 ex:List O} {r:List V} (h:n7 f vs os (fun res os2=>res=r∧os2=os1++ex)) (hn:os.length≤os1.length) (hl:a9g os1.length (a3Z (os1++ex) r)=true) (ho:a1U os1.length os1=true):n7 f vs os (fun res os2=>res=a3Z (os1++ex) r∧os2=os1):=by
 refine ⟨h.1,fun I w g args hr=>(h.2 I w g args hr).mono fun e w' hx=>?_⟩
 obtain ⟨us,res,os2,I',g',e1,⟨rfl,rfl⟩,e3⟩:=hx
 have h5:RelI I (Xof g os) ⟨w,g,os.length,[]⟩ I' g' ⟨a3Z (os1++ex) res,os1++ex⟩ { tmps:=us.toArray,defers:=[] } w':=⟨e3.im,e3.lt,e3.fr,e3.kp,e3.lo,e3.st,e3.obj,e3.dis,e3.out,b0O e3 e3.tmp,e3.dfr⟩
 have ht:(os1++ex).take os1.length=os1:=by simp
 have h6:=h5.trim (n:=os1.length) hn (by simp) (a6W (fun k hk=>c8Y hk) h5.tmp hl) (by show a1U _ ((os1++ex).take os1.length)=true;rw [ht];exact ho)
 have h7:(⟨a3Z (os1++ex) res,(os1++ex).take os1.length⟩:S)=⟨a3Z (os1++ex) res,os1⟩:=by rw [ht]
 exact ⟨us,_,os1,I',_,e1,⟨rfl,rfl⟩,h7 ▸ h6⟩
section
abbrev c7 (x:Nat→D):List D:=[x 0,x 1,x 2,x 3,x 4,x 5,x 6]
section
variable {T:List (List D)} {L:Int}
theorem c29 {s0 s1:ST} {pl:Int} {w:ByteArray} (h0:A7 60 [] T s0 [vi .i64 pl] s0) (h1:A7 61 [vs ⟨#[40]⟩] T s0 [vb false] s0) (h2:A7 63 [] T s0 [vs w] s1):A7 106 [vi .i64 L] T s0 [.ag [vs w,vb false,vi .u8 0,vs ⟨#[]⟩,vi .i64 0,.d (.sl 4 []),vi .i64 pl]] s1:=by
 refine n7.nils (cs:=[vs w,vb false,vi .u8 0,vs ⟨#[]⟩,vi .i64 0,.em,vi .i64 pl]) ?_ ⟨.inl rfl,.inl rfl,.inl rfl,.inl rfl,.inl rfl,.inr ⟨rfl,_,rfl⟩,.inl rfl,trivial⟩
 obtain ⟨_,_,_⟩:=s0
 obtain ⟨_,_,_⟩:=s1
 refine N9 Try.func106 rfl ?_;intro _ _ _ _ _ _ _ _ _ _ _ _ _ _ _ _ _ _ _ _ _ _ _ _ _ _ _ _ _ _ _ _ _ _ _ _ _ _ _ _ _ vw;intros;rename_i hA
 have p0:=h0;have p1:=h1;have p2:=h2;exact T1
theorem c5t {s0 s1 s2 s3 s4 s5:ST} {pl:Int} {w:ByteArray} {y:Nat→D} (hL1:0≤L) (hL2:L≤1048576) (h0:A7 60 [] T s0 [vi .i64 pl] s0) (h1:A7 61 [vs ⟨#[40]⟩] T s0 [vb true] s1) (h2:A7 63 [] T s1 [vs w] s2) (h3:A7 64 [vs ⟨#[58]⟩] T s2 [] s3) (h4:A7 116 [vi .i64 (L+1)] T s3 [.ag (y5 (c4 y))] s4) (h5:A7 64 [vs ⟨#[41]⟩] T s4 [] s5):A7 106 [vi .i64 L] T s0 [.ag [vs w,vb true,.d (y 0),.d (y 1),.d (y 2),.d (y 3),vi .i64 pl]] s5:=by
 obtain ⟨_,_,_⟩:=s0
 obtain ⟨_,_,_⟩:=s1
 obtain ⟨_,_,_⟩:=s2
 obtain ⟨_,_,_⟩:=s3
 obtain ⟨_,_,_⟩:=s4
 obtain ⟨_,_,_⟩:=s5
 obtain ⟨L1,hL⟩:∃L1,L1=L+1:=⟨_,rfl⟩
 rw [←hL] at h4
 refine N9 Try.func106 rfl ?_;intro qa qb _ _ _ _ _ _ _ _ _ _ _ _ _ _ _ _ _ _ _ _ _ _ _ _ _ _ _ _ _ _ _ _ _ _ _ _ _ _ _ vw;intros;rename_i hA
 obtain ⟨e1,e2,e3,e4,e5,e6,e7,e8,e9⟩:=m6 hA
 have qL:qa .i64 (qb L 1)=L1:=by rw [e1,e2,IntWalk.i64_in _ (by omega)];exact hL.symm
 have q0:=qL;have p0:=h0;have p1:=h1;have p2:=h2;have p3:=h3;have p4:=h4;have p5:=h5;exact T1
def c5u (T:List (List D)) (L:Int) (inv:ST→List (List D)→Nat→Prop) (e q a:Int) (R:List (List D)) (m:Nat):Prop:=A7 38 [] T (e,q,a) [vb true] (e,q,a)∧IsN T a ⟨#[61,62]⟩ false∧∃(y:Nat→D) (s2:ST) (m2:Nat),A7 106 [vi .i64 L] T (e,q,a) [.ag (y5 (c7 y))] s2∧inv s2 (R++[c7 y]) m2∧m2<m
def c6W (T:List (List D)) (e q a:Int):Prop:=A7 38 [] T (e,q,a) [vb false] (e,q,a)∨A7 38 [] T (e,q,a) [vb true] (e,q,a)∧IsN T a ⟨#[61,62]⟩ true
theorem b7d {s0 s1 sf:ST} {Rf:List (List D)} {y:Nat→D} {m0:Nat} (inv:ST→List (List D)→Nat→Prop) (h0:A7 106 [vi .i64 L] T s0 [.ag (y5 (c7 y))] s1) (hi0:inv s1 [c7 y] m0)
  (hst:∀(e q a:Int) (R:List (List D)) (m:Nat),inv (e,q,a) R m→R.length<1048576∧(c5u T L inv e q a R m∨c6W T e q a∧A7 64 [vs ⟨#[61,62]⟩] T (e,q,a) [] sf∧R=Rf)) :
  n7 89 [.ptr 0 0,vi .i64 L] (eyT T s0) (fun res os=>res=[.own 2]∧os=eyT T sf++[.row true 154 Rf]):=by
 obtain ⟨_,_,_⟩:=s0
 obtain ⟨a1,b1,d1⟩:=s1
 obtain ⟨_,_,_⟩:=sf
 refine N9 Try.func89 rfl ?_;intro _ _ _ _ _ _ _ _ _ _ _ _ _ _ _ _ _ _ _ _ _ _ _ _ _ ve;intros;rename_i hA
 obtain ⟨e1,e2,e3,e4,e5,e6,e7,e8,e9⟩:=m6 hA
 obtain ⟨r1,r2,r3,r4⟩:=C7 hA
 iterate 2 (try cbv;repeat ((first|with_reducible apply f8 hA|refine v7 hA [0,1] h0 ?_|refine C2 hA false ?_|refine a2x hA true ?_);cbv))
 try simp (maxSteps:=4000000) only [nc] at *
 refine o7 hA (γ:=ST×List (List D)×Nat) (fun x=>[(5,.own 2),(9,.jk)]) (fun x=>[(0,.box [.ptr 1 0,vi .u8 x.1.1,vi .i64 x.1.2.1]),(1,.box [.d (.sl 4 T),vi .i64 x.1.2.2]),(2,.row true 154 x.2.1)]) (fun x=>inv x.1 x.2.1 x.2.2) (fun x=>x.2.2) ((a1,b1,d1),[c7 y],m0) ?_ ?_ ?_
 ·exact hi0
 ·cbv
 ·intro x hinv
  obtain ⟨⟨e,q,a⟩,R,m⟩:=x
  obtain ⟨hlen,hs⟩:=hst e q a R m hinv
  rcases hs with ⟨hok,his,y2,s2,m2,hp,hi2,hm2⟩|⟨he,hw,hR⟩
  ·obtain ⟨a2,b2,d2⟩:=s2
   have g3:ve R [c7 y2]=R++[c7 y2]:=by rw [r4]
   obtain ⟨R2,hR2⟩:∃R2,R2=R++[c7 y2]:=⟨_,rfl⟩
   rw [←hR2] at g3 hi2
   iterate 2 (try cbv;repeat ((first|with_reducible apply f8 hA|rw [g3]|refine v7 hA [0,1] hok ?_|refine rdx hA [1] his ?_|refine v7 hA [0,1] hp ?_|refine C2 hA true ?_|(refine E2 hA (by simp only [c9a,c9n];omega) ?_));cbv))
   try simp (maxSteps:=4000000) only [nc] at *
   refine ⟨((a2,b2,d2),R2,m2),hi2,hm2,?_⟩
   cbv
  ·subst hR
   rcases he with hok|⟨hok,his⟩
   ·iterate 2 (try cbv;repeat ((first|with_reducible apply f8 hA|refine v7 hA [0,1] hok ?_|refine v7 hA [0,1] hw ?_);cbv))
    try simp (maxSteps:=4000000) only [nc] at *
    exact j9 hA [0,1,2] (res':=[.own 2]) (os':=[_,_,.row true 154 R]) ⟨rfl,rfl,rfl,rfl,rfl,rfl,rfl,rfl⟩ ⟨rfl,rfl⟩
   ·iterate 2 (try cbv;repeat ((first|with_reducible apply f8 hA|refine v7 hA [0,1] hok ?_|refine rdx hA [1] his ?_|refine v7 hA [0,1] hw ?_);cbv))
    try simp (maxSteps:=4000000) only [nc] at *
    exact j9 hA [0,1,2] (res':=[.own 2]) (os':=[_,_,.row true 154 R]) ⟨rfl,rfl,rfl,rfl,rfl,rfl,rfl,rfl⟩ ⟨rfl,rfl⟩
end
end
abbrev Pm:=ByteArray×Bool×Ty×Int
def cPm (m:Pm):List D:=.sc (.string m.1)::.sc (.bool m.2.1)::(cT m.2.2.1++[.sc (.int .i64 m.2.2.2)])
theorem c0s (m:Pm):∃x,cPm m=c7 x:=by
 obtain ⟨y,hy⟩:=b26 m.2.2.1
 exact ⟨fun i=>match i with|0=>.sc (.string m.1)|1=>.sc (.bool m.2.1)|2=>y 0|3=>y 1|4=>y 2|5=>y 3|_=>.sc (.int .i64 m.2.2.2),by unfold cPm;rw [hy];rfl⟩
theorem b1t {n:Nat} {L:Int} (h:a1y n L):a1y (n - 1) (L+1):=by
 unfold a1y at h ⊢
 omega
theorem a27 {n:Nat} {L:Int} (h:a1y n L) (h2:L≤1048575):0≤L∧L≤1048576:=by
 unfold a1y at h
 omega
abbrev a1z:ByteArray:=⟨#[61,62]⟩
abbrev a0Q:ByteArray:=⟨#[40]⟩
abbrev a2D:ByteArray:=⟨#[41]⟩
abbrev a5y:ByteArray:=⟨#[58]⟩
theorem a3v {ts:List Tok} (hE:m8 ts) (n:Nat) {p:PE} (hp:p.1<ts.length):(a0E ts n p).2.1<ts.length∧p.1≤(a0E ts n p).2.1∧((a0E ts n p).2.2=0→p.2=0):=by
 unfold a0E
 split
 ·rename_i h
  have hf:=a1g hE n (p.1,0) hp
  have e:(P7 ts n p.1).2.2.2=(B5 ts n (p.1,0)).2.1:=by unfold P7;split <;> rfl
  exact ⟨by show (P7 ts n p.1).2.2.2<_;rw [e];exact hf.1.hi,by show _≤(P7 ts n p.1).2.2.2;rw [e];exact hf.1.lo,fun _=>h⟩
 ·exact ⟨hp,c9c _,fun h=>h⟩
def B1 (ts:List Tok) (n:Nat) (p:PE):Pm×PE :=
 if B3 ts a0Q p=true then (((i7 ts (skP ts a0Q p)).1,true,(a0E ts (n - 1) (j0 ts a5y (i7 ts (skP ts a0Q p)).2)).1,(l9 ts p.1).at_),j0 ts a2D (a0E ts (n - 1) (j0 ts a5y (i7 ts (skP ts a0Q p)).2)).2)
 else (((i7 ts p).1,false,s8,(l9 ts p.1).at_),(i7 ts p).2)
theorem b1u {ts:List Tok} {s:ByteArray} {p:PE} (hE:m8 ts) (hp:p.1<ts.length) (h:B3 ts s p=true):(skP ts s p).1<ts.length∧(skP ts s p).1=p.1+1∧p.2=0:=by
 unfold B3 at h
 simp only [c8Z,d0c] at h
 have hg:=h.2
 unfold Z7 at hg
 simp only [c8Z,d0c] at hg
 unfold skP B3
 rw [h.1,h.2]
 exact ⟨hE _ hp (by rw [hg.1];decide),rfl,rfl⟩
theorem a1h {ts:List Tok} (hE:m8 ts) (n:Nat) {p:PE} (hp:p.1<ts.length):(B1 ts n p).2.1<ts.length∧p.1≤(B1 ts n p).2.1∧((B1 ts n p).2.2=0→p.2=0∧p.1+1≤(B1 ts n p).2.1):=by
 unfold B1
 split
 ·rename_i h
  obtain ⟨a1,a2,a3⟩:=b1u hE hp h
  obtain ⟨b1,b2,b3⟩:=w9 hE a1
  obtain ⟨c1,c2,c3⟩:=j7 (s:=a5y) hE b1
  obtain ⟨d1,d2,d3⟩:=a3v hE (n - 1) c1
  obtain ⟨f1,f2,f3⟩:=j7 (s:=a2D) hE d1
  exact ⟨f1,by simp only;omega,fun h0=>⟨a3,by simp only;omega⟩⟩
 ·obtain ⟨b1,b2,b3⟩:=w9 hE hp
  exact ⟨b1,b2,fun h0=>⟨(b3 h0).1,by have:=(b3 h0).2;simp only;omega⟩⟩
theorem b5D {ts:List Tok} (hE:m8 ts) (hN:T5 ts) (hl:ts.length≤65537) (n:Nat) (L:Int) (hv:a1y n L) (hL:L≤1048575) {p:PE} (hp:p.1<ts.length):G9 106 [vi .i64 L] ts p [.ag (y5 (cPm (B1 ts n p).1))] (B1 ts n p).2:=by
 have hl2:ts.length≤1048576:=by omega
 have hh:=a4c hl2 hp
 have hs:=Y9 hl2 hp a0Q
 unfold B1
 by_cases h:B3 ts a0Q p=true
 ·rw [c8Y h]
  rw [h] at hs
  obtain ⟨a1,a2,a3⟩:=b1u hE hp h
  obtain ⟨b1,b2,b3⟩:=w9 hE a1
  obtain ⟨c1,c2,c3⟩:=j7 (s:=a5y) hE b1
  obtain ⟨d1,d2,d3⟩:=a3v hE (n - 1) c1
  have h2:=a0L hl2 a1
  have h3:=I5 hl2 b1 a5y
  have h4:=c0r hE hN hl (n - 1) (L+1) (b1t hv) c1
  have h5:=I5 hl2 d1 a2D
  obtain ⟨y,hy⟩:=b26 (a0E ts (n - 1) (j0 ts a5y (i7 ts (skP ts a0Q p)).2)).1
  rw [hy] at h4
  have e:y5 (cPm ((i7 ts (skP ts a0Q p)).1,true,(a0E ts (n - 1) (j0 ts a5y (i7 ts (skP ts a0Q p)).2)).1,(l9 ts p.1).at_))=[vs (i7 ts (skP ts a0Q p)).1,vb true,.d (y 0),.d (y 1),.d (y 2),.d (y 3),vi .i64 (l9 ts p.1).at_]:=by
   unfold cPm
   simp only
   rw [hy]
   rfl
  rw [e]
  exact c5t (a27 hv hL).1 (a27 hv hL).2 hh hs h2 h3 h4 h5
 ·rw [c8W h]
  replace h:B3 ts a0Q p=false:=by simpa using h
  rw [h,show skP ts a0Q p=p by unfold skP;rw [h];rfl] at hs
  have h2:=a0L hl2 hp
  have e:y5 (cPm ((i7 ts p).1,false,s8,(l9 ts p.1).at_))=[vs (i7 ts p).1,vb false,vi .u8 0,vs ⟨#[]⟩,vi .i64 0,.d (.sl 4 []),vi .i64 (l9 ts p.1).at_]:=by
   unfold cPm s8
   simp only
   rw [cT,rT]
   rfl
  rw [e]
  exact c29 hh hs h2
def F8 (ts:List Tok) (n:Nat):Nat→List Pm×PE→List Pm×PE
 | 0,s=>s
 | k+1,s=>if s.2.2=0∧Z7 (l9 ts s.2.1) a1z=false then F8 ts n k (s.1++[(B1 ts n s.2).1],(B1 ts n s.2).2) else s
def F9 (ts:List Tok) (n:Nat) (p:PE):List Pm×PE:=((F8 ts n ts.length ([(B1 ts n p).1],(B1 ts n p).2)).1,j0 ts a1z (F8 ts n ts.length ([(B1 ts n p).1],(B1 ts n p).2)).2)
theorem a8M {ts:List Tok} {n:Nat} {s:List Pm×PE} (h:¬(s.2.2=0∧Z7 (l9 ts s.2.1) a1z=false)):∀k,F8 ts n k s=s
 | 0=>rfl
 | k+1=>by rw [F8,c8W h]
def c3F (ts:List Tok) (n:Nat) (rr:List Pm×PE) (s:ST) (R:List (List D)) (m:Nat):Prop:=∃(l:List Pm) (p:PE) (k:Nat),s=U8 ts p∧R=l.map cPm∧p.1<ts.length∧l.length≤p.1+1∧(p.2=0→l.length≤p.1∧ts.length - p.1≤k)∧m=2 * (ts.length - p.1)+(if p.2=0 then 1 else 0)∧rr=F8 ts n k (l,p)
theorem c0t {ts:List Tok} (hE:m8 ts) (hN:T5 ts) (hl:ts.length≤65537) (n:Nat) (L:Int) (hv:a1y n L) (hL:L≤1048575) {p:PE} (hp:p.1<ts.length):G9 89 [vi .i64 L] ts p [.d (.sl 7 ((F9 ts n p).1.map cPm))] (F9 ts n p).2:=by
 have hl2:ts.length≤1048576:=by omega
 obtain ⟨rr,hrr⟩:∃rr,rr=F8 ts n ts.length ([(B1 ts n p).1],(B1 ts n p).2):=⟨_,rfl⟩
 have h0:=b5D hE hN hl n L hv hL hp
 obtain ⟨a1,a2,a3⟩:=a1h hE n hp
 obtain ⟨y,hy⟩:=c0s (B1 ts n p).1
 have hi0:c3F ts n rr (U8 ts (B1 ts n p).2) [c7 y] (2 * (ts.length - (B1 ts n p).2.1)+(if (B1 ts n p).2.2=0 then 1 else 0)):=⟨[(B1 ts n p).1],(B1 ts n p).2,ts.length,rfl,by rw [c9m,hy];rfl,a1,by simp,fun h=>⟨by have:=(a3 h).2;simp;omega,by omega⟩,rfl,hrr⟩
 unfold F9
 rw [←hrr]
 unfold G9 at h0
 rw [hy] at h0
 have key:=b7d (T:=H8 ts) (L:=L) (sf:=U8 ts (j0 ts a1z rr.2)) (Rf:=rr.1.map cPm) (c3F ts n rr) h0 hi0 (fun e q a R m hinv=>by
  obtain ⟨l,p',k,hs,hR,hp',hlen,hz,hm,hr⟩:=hinv
  refine ⟨by rw [hR,c9r];omega,?_⟩
  have hok:=okP hl2 hp'
  have ha:a=(p'.1:Int):=congrArg (fun s:ST=>s.2.2) hs
  have his:=(c3D hl2 (a:=p'.1) hp' a1z)
  rw [←ha] at his
  unfold G9 at hok
  rw [←hs] at hok
  by_cases hc:p'.2=0∧Z7 (l9 ts p'.1) a1z=false
  ·obtain ⟨hz1,hz2⟩:=hz hc.1
   obtain ⟨b1,b2,b3⟩:=a1h hE n hp'
   obtain ⟨y2,hy2⟩:=c0s (B1 ts n p').1
   have hpp:=b5D hE hN hl n L hv hL hp'
   unfold G9 at hpp
   rw [hy2,←hs] at hpp
   rw [hc.1] at hok
   rw [hc.2] at his
   match k,hz2,hr with
   | 0,hz2,_=>omega
   | k+1,hz2,hr =>
    rw [F8,c8Y hc] at hr
    refine .inl ⟨hok,his,y2,_,2 * (ts.length - (B1 ts n p').2.1)+(if (B1 ts n p').2.2=0 then 1 else 0),hpp,⟨_,_,k,rfl,by rw [hR,c9Y,c9m,hy2];rfl,b1,by simp;omega,fun h=>⟨by have:=(b3 h).2;simp;omega,by have:=(b3 h).2;omega⟩,rfl,hr⟩,?_⟩
    rw [hm,c8Y hc.1]
    split
    ·rename_i h
     have:=(b3 h).2
     omega
    ·omega
  ·rw [a8M hc] at hr
   have hw:=I5 hl2 hp' a1z
   unfold G9 at hw
   rw [←hs] at hw
   refine .inr ⟨?_,by rw [hr];exact hw,by rw [hr];exact hR⟩
   by_cases h0:p'.2=0
   ·rw [h0] at hok
    have h1:Z7 (l9 ts p'.1) a1z=true:=by
     cases hg:Z7 (l9 ts p'.1) a1z with
     | true=>rfl
     | false=>exact absurd ⟨h0,hg⟩ hc
    rw [h1] at his
    exact .inr ⟨hok,his⟩
   ·rw [c9f h0] at hok
    exact .inl hok)
 exact n7.coer key (c9c _) rfl rfl
section
section
variable {T:List (List D)} {L:Int}
theorem c2A {s0 s1 s2 s3 s4 s5 s6:ST} {x y z:Nat→D} {pl:Int} {w:ByteArray} (ho:OvN 45 w ⟨#[]⟩ 0 false pl [cE x,cE y] z) (hL1:0≤L) (hL2:L≤1048576) (h0:A7 61 [vs ⟨#[125]⟩] T s0 [vb false] s0) (h1:A7 63 [] T s0 [vs w] s1) (h2:A7 61 [vs ⟨#[58,61]⟩] T s1 [vb true] s2) (h3:A7 37 [vi .i64 (L+1)] T s2 [.ag (y5 (cE x))] s3) (h4:A7 64 [vs ⟨#[124]⟩] T s3 [] s4) (h5:A7 37 [vi .i64 (L+1)] T s4 [.ag (y5 (cE y))] s5) (h6:A7 64 [vs ⟨#[125]⟩] T s5 [] s6):A7 141 [vi .i64 L,vi .i64 pl] T s0 [.ag (y5 (cE z))] s6:=by
 obtain ⟨_,_,_⟩:=s0
 obtain ⟨_,_,_⟩:=s1
 obtain ⟨_,_,_⟩:=s2
 obtain ⟨_,_,_⟩:=s3
 obtain ⟨_,_,_⟩:=s4
 obtain ⟨_,_,_⟩:=s5
 obtain ⟨_,_,_⟩:=s6
 obtain ⟨L1,hL⟩:∃L1,L1=L+1:=⟨_,rfl⟩
 rw [←hL] at h3 h5
 refine N9 Try.func141 rfl ?_;intro qa qb;intros;rename_i hA
 obtain ⟨e1,e2,e3,e4,e5,e6,e7,e8,e9⟩:=m6 hA
 obtain ⟨c1,c2,c3,c4_,c5,c6,c7⟩:=I3 hA
 have qL:qa .i64 (qb L 1)=L1:=by rw [e1,e2,IntWalk.i64_in _ (by omega)];exact hL.symm
 iterate 2 (try cbv;repeat ((first|with_reducible apply f8 hA|rw [qL]|refine v7 hA [0,1] h0 ?_|refine v7 hA [0,1] h1 ?_|refine v7 hA [0,1] h2 ?_|refine v7 hA [0,1] h3 ?_|refine v7 hA [0,1] h4 ?_|refine v7 hA [0,1] h5 ?_|refine v7 hA [0,1] h6 ?_|refine rdx hA [] ho ?_|refine a7a hA [0,1,2,4,5,6] (by kernel_rfl) ?_);cbv))
 try simp (maxSteps:=4000000) only [nc] at *
 repeat' (first
  | (with_reducible apply And.intro)
  | ((with_reducible apply f8 hA);cbv)
  | (refine o6 hA [0,1] h0 ⟨rfl,rfl,rfl,rfl,rfl,rfl,rfl⟩ ?_;rintro _ _ ⟨rfl,rfl⟩;cbv)
  | (refine o6 hA [0,1] h1 ⟨rfl,rfl,rfl,rfl,rfl,rfl,rfl⟩ ?_;rintro _ _ ⟨rfl,rfl⟩;cbv)
  | (refine o6 hA [0,1] h2 ⟨rfl,rfl,rfl,rfl,rfl,rfl,rfl⟩ ?_;rintro _ _ ⟨rfl,rfl⟩;cbv)
  | (refine o6 hA [0,1] h3 ⟨rfl,rfl,rfl,rfl,rfl,rfl,rfl⟩ ?_;rintro _ _ ⟨rfl,rfl⟩;cbv)
  | (refine o6 hA [0,1] h4 ⟨rfl,rfl,rfl,rfl,rfl,rfl,rfl⟩ ?_;rintro _ _ ⟨rfl,rfl⟩;cbv)
  | (refine o6 hA [0,1] h5 ⟨rfl,rfl,rfl,rfl,rfl,rfl,rfl⟩ ?_;rintro _ _ ⟨rfl,rfl⟩;cbv)
  | (refine o6 hA [0,1] h6 ⟨rfl,rfl,rfl,rfl,rfl,rfl,rfl⟩ ?_;rintro _ _ ⟨rfl,rfl⟩;cbv)
  | (refine a8h hA [] ho ⟨rfl,rfl,rfl,rfl,rfl,rfl,rfl⟩ rfl ?_;rintro _ rfl;cbv)
  )
 all_goals exact j9 hA [0,1] ⟨rfl,rfl,rfl,rfl,rfl,rfl,rfl,rfl⟩ ⟨rfl,rfl⟩
theorem b7f {s0 s1 s2 s3 s4:ST} {x y z:Nat→D} {pl:Int} (ho:OvA 51 ⟨#[]⟩ ⟨#[]⟩ 0 true y pl [cE x] z) (hL1:0≤L) (hL2:L≤1048576) (h0:A7 37 [vi .i64 (L+1)] T s0 [.ag (y5 (cE x))] s1) (h1:A7 61 [vs ⟨#[58]⟩] T s1 [vb true] s2) (h2:A7 116 [vi .i64 (L+1)] T s2 [.ag (y5 (c4 y))] s3) (h3:A7 64 [vs ⟨#[41]⟩] T s3 [] s4):A7 140 [vi .i64 L,vi .i64 pl] T s0 [.ag (y5 (cE z))] s4:=by
 obtain ⟨_,_,_⟩:=s0
 obtain ⟨_,_,_⟩:=s1
 obtain ⟨_,_,_⟩:=s2
 obtain ⟨_,_,_⟩:=s3
 obtain ⟨_,_,_⟩:=s4
 obtain ⟨L1,hL⟩:∃L1,L1=L+1:=⟨_,rfl⟩
 rw [←hL] at h0 h2
 refine N9 Try.func140 rfl ?_;intro qa qb;intros;rename_i hA
 obtain ⟨e1,e2,e3,e4,e5,e6,e7,e8,e9⟩:=m6 hA
 obtain ⟨c1,c2,c3,c4_,c5,c6,c7⟩:=I3 hA
 have qL:qa .i64 (qb L 1)=L1:=by rw [e1,e2,IntWalk.i64_in _ (by omega)];exact hL.symm
 iterate 2 (try cbv;repeat ((first|with_reducible apply f8 hA|rw [qL]|refine v7 hA [0,1] h0 ?_|refine v7 hA [0,1] h1 ?_|refine v7 hA [0,1] h2 ?_|refine v7 hA [0,1] h3 ?_|refine rdx hA [] ho ?_|refine a7a hA [0,1,2,4,5] (by kernel_rfl) ?_);cbv))
 try simp (maxSteps:=4000000) only [nc] at *
 repeat' (first
  | (with_reducible apply And.intro)
  | ((with_reducible apply f8 hA);cbv)
  | (refine o6 hA [0,1] h0 ⟨rfl,rfl,rfl,rfl,rfl,rfl,rfl⟩ ?_;rintro _ _ ⟨rfl,rfl⟩;cbv)
  | (refine o6 hA [0,1] h1 ⟨rfl,rfl,rfl,rfl,rfl,rfl,rfl⟩ ?_;rintro _ _ ⟨rfl,rfl⟩;cbv)
  | (refine o6 hA [0,1] h2 ⟨rfl,rfl,rfl,rfl,rfl,rfl,rfl⟩ ?_;rintro _ _ ⟨rfl,rfl⟩;cbv)
  | (refine o6 hA [0,1] h3 ⟨rfl,rfl,rfl,rfl,rfl,rfl,rfl⟩ ?_;rintro _ _ ⟨rfl,rfl⟩;cbv)
  | (refine a8h hA [] ho ⟨rfl,rfl,rfl,rfl,rfl,rfl,rfl⟩ rfl ?_;rintro _ rfl;cbv)
  )
 all_goals exact j9 hA [0,1] ⟨rfl,rfl,rfl,rfl,rfl,rfl,rfl,rfl⟩ ⟨rfl,rfl⟩
end
end
def c0u (n:Nat) (l:List ResultVar) (Q:List V→List O→Prop) (m:Nat) (kl:List Nat):Vm.X→S→Prop
 | .exit _,_=>False
 | _,s=>y6 s.o m=.kl kl∧a4q f7 s l (fun vs=>f7.keep n Q vs ⟨s.t,G8 s.o m .dead⟩)
def b5E (os:List O) (I:Nat→Nat→Prop) (w:World) (g:Nat→Value) (Q:List V→List O→Prop) (e:Ending) (w':World):Prop:=∃us res os2 I' g',e=.returned (pkg us)∧Q res os2∧RelI I (Xof g os) ⟨w,g,os.length,[]⟩ I' g' ⟨res,os2⟩ { tmps:=us.toArray,defers:=[] } w'
theorem a8N {os:List O} {c2:Code} {n D:Nat} {fn:Func} {Q:List V→List O→Prop} {w:World} {g:Nat→Value} {I IN:Nat→Nat→Prop} {gN:Nat→Value} {t:List V} {oN:List O} {a:Act} {W:World} {kl:List Nat} (hc:o4 Try.prog c2=true) (hr:J9 fn.results.toList=true)
  (h:RelI I (Xof g os) ⟨w,g,os.length,[]⟩ IN gN ⟨t,oN⟩ a W) (hID:∀k,¬IN D k) (hD0:w.heap.size≤D) (hD:W.heap[D]?=some (.deferred (some [])))
  (hx:B4 f7 c2 ⟨t,r9 oN (.kl [])⟩ (fun x s=>c0u os.length fn.results.toList Q (m7 oN) kl x s)) :
  c2.wpIn (FW none) n Try.prog (bodyPostM (FW none) n Try.prog fn (b5E os I w g Q)) { a with defers:={ target:=.collected D,args:=#[] }::a.defers } W:=by
 obtain ⟨g',hg,hgn,h1⟩:=h.rebase h.tmp
 have hDt:D<W.heap.size:=(c9g.1 hD).1
 have hXD:¬Xof g' (r9 oN (.kl [])) D:=fun ⟨j,x,hj,hd,hb⟩=>a1r hD rfl (h1.obj j x hj) hd hb
 have h2:=h1.mark [{ target:=.collected D,args:=#[] }]
 have ea:({ ({ tmps:=a.tmps.toList.toArray,defers:=[] }:Act) with defers:=[{ target:=.collected D,args:=#[] }] }:Act)={ a with defers:={ target:=.collected D,args:=#[] }::a.defers }:=by
  have:=h.dfr.1
  cases a
  simp only at this
  subst this
  rfl
 rw [ea] at h2
 refine J2 c2 _ _ _ _ _ hc ⟨IN,g',h2⟩ hx fun e s2 a2 W2 hrel hk=>?_
 obtain ⟨I2,g2,h3⟩:=hrel
 have hD2:W2.heap[D]?=some (.deferred (some [])):=(h3.fr.block D hDt hXD).trans hD
 have hI2D:∀k,¬I2 D k:=fun k hk=>by
  rcases (h3.lt D k hk).2 hDt with h4|h4
  ·exact hID k h4
  ·exact hXD h4
 have key:(y6 s2.o (m7 oN)=.kl kl∧a4q f7 s2 fn.results.toList (fun vs=>f7.keep os.length Q vs ⟨s2.t,G8 s2.o (m7 oN) .dead⟩))→LeavesInM (FW none) n Try.prog fn a2.tmps (b5E os I w g Q) a2.defers .returning W2:=fun ⟨hkl,hres⟩=>by
  rw [h3.dfr.1]
  have h4:=h3.turnBoth (y':=.deferred none) hD2 rfl hD hI2D
  have h5:=h.turned (y':=.deferred none) hD rfl hD0 hID
  have h6:=h4.mark []
  have hkl:=A6 hkl (by simp)
  rw [o9] at hkl
  obtain ⟨_,h7⟩:=h5.unbase hg hgn h6 hkl
  obtain ⟨us,vs,r1,r2,ks,res',os',hko,hQ⟩:=a17 h4 hr hres
  refine ⟨by simp,.inl ⟨_,_,rfl,run_takeDeferred hD2,?_⟩⟩
  rw [G7,o9] at hko
  refine ⟨_,r1,us,res',os',I2,_,rfl,hQ,b45 (w0:=⟨w,g,os.length,[]⟩) h7 rfl ⟨hko.nd,hko.len,hko.head,hko.args,hko.objs,hko.low,hko.lowo,hko.nk⟩ r2⟩
 cases e with
 | normal=>exact key hk
 | exit i=>exact hk.elim
 | ret=>exact key hk
def a9p:List Code→Code→Code
 | [],d=>d
 | c::l,d=>.seq c (a9p l d)
theorem b5F {I0:Nat→Nat→Prop} {X:Nat→Prop} {w0:W0} {n bi:Nat} {cp r c2:Code} {Pre:S→Prop} {Q:Exit→Act→World→Prop} (hp:o4 Try.prog cp=true)
  (hmid:∀s a W,Rel I0 X w0 s a W→Pre s→r.wpIn (FW none) n Try.prog (Exit.inBlock bi (Exit.then (c2.wpIn (FW none) n Try.prog Q) Q)) a W):∀(cs:List Code) (s:S) (a:Act) (W:World),cs.all (o4 Try.prog)=true→Rel I0 X w0 s a W→B4 f7 (a9p cs cp) s (fun x s=>x=.normal∧Pre s)→(a9p cs (.seq (.seq cp (.block bi r)) c2)).wpIn (FW none) n Try.prog Q a W
 | [],s,a,W,_,hrel,hx=>by
  refine wpIn_seq (wpIn_seq (J2 (ro:=none) cp _ _ _ _ _ hp hrel hx fun e s3 a3 W3 hr3 hk3=>?_))
  obtain ⟨he,hP⟩:=hk3
  subst he
  exact wpIn_block (hmid s3 a3 W3 hr3 hP)
 | c::l,s,a,W,hc,hrel,hx=>by
  simp only [List.all_cons,c8Z] at hc
  refine wpIn_seq (J2 (ro:=none) c _ _ _ _ _ hc.1 hrel hx fun e s1 a1 W1 hr1 hk1=>?_)
  cases e with
  | normal =>
   obtain ⟨F1,hg1,hk1⟩:=hk1
   obtain ⟨z1,hf1,hr1'⟩:=hg1 _ _ _ _ _ hr1
   exact b5F hp hmid l z1 a1 W1 hc.2 hr1' (hk1 z1 hf1)
  | exit i=>exact absurd hk1.1 (by simp)
  | ret=>exact absurd hk1.1 (by simp)
theorem a6B {f:Nat} {fn:Func} {cs:List Code} {cp c2 r:Code} {bi:Nat} {vs:List V} {os:List O} {Q:List V→List O→Prop} {Pre:S→Prop} (hf:Try.prog.funcs[f]?=some fn)
  (hb:fn.body=some (a9p cs (.seq (.seq cp (.block bi r)) c2))) (hn:(fn.name != "runtime.NumGoroutine")=true) (hcs:cs.all (o4 Try.prog)=true) (hp:o4 Try.prog cp=true)
  (hpre:B4 f7 (a9p cs cp) (a1J vs os (fn.ntmps - C4 vs)) (fun x s=>x=.normal∧Pre s))
  (hmid:∀(I I':Nat→Nat→Prop) (g0 g:Nat→Value) (w W:World) (s:S) (a:Act),Pre s→RelI I (Xof g0 os) ⟨w,g0,os.length,[]⟩ I' g s a W →
   r.wpIn (FW none) 3 Try.prog (Exit.inBlock bi (Exit.then (c2.wpIn (FW none) 3 Try.prog (bodyPostM (FW none) 3 Try.prog fn (b5E os I w g0 Q)))
    (bodyPostM (FW none) 3 Try.prog fn (b5E os I w g0 Q)))) a W):n7 f vs os Q:=by
 refine ⟨by unfold a2q;rw [hf];simp only [hn,hb];rfl,?_⟩
 intro I w g args hrel
 have hv:j8 I w g args vs:=hrel.tmp
 have hsz:args.toArray.size=C4 vs:=by rw [H4];simp [hv.1]
 refine callsIn_wide.1 (callsIn_of_wp_marks (n:=3) hf hb trivial ?_)
 rw [hsz]
 have hst:RelI I (Xof g os) ⟨w,g,os.length,[]⟩ I g (a1J vs os (fn.ntmps - C4 vs)) { tmps:=args.toArray++Array.replicate (fn.ntmps - C4 vs) undef,defers:=[] } w:=by
  refine ⟨hrel.im,hrel.lt,hrel.fr,hrel.kp,hrel.lo,hrel.st,hrel.obj,hrel.dis,hrel.out,?_,rfl,hrel.dfr.2⟩
  show j8 I w _ (args.toArray++Array.replicate (fn.ntmps - C4 vs) undef).toList (a2G vs (uns (fn.ntmps - C4 vs)))
  rw [a0s,d06,a5Y]
  refine hv.append ?_
  rw [d0z]
  refine ⟨by simp,fun i u c hu hc=>?_⟩
  rw [d0l] at hu hc
  split at hu
  ·rename_i hi
   rw [c8Y hi] at hc
   injection hu with hu
   injection hc with hc
   subst hu;subst hc
   exact .tu [] [] rfl fun i u c hu _=>by simp at hu
  ·cases hu
 exact b5F hp (fun s a W ⟨I',g',h⟩ hP=>hmid I I' g g' w W s a hP h) cs _ _ _ hcs ⟨I,g,hst⟩ hpre
end Go.Proofs.Ytahpnackkmbmgaa.Vm
end
section
namespace Go.Proofs.Ytahpnackkmbmgaa.Vm
open Go.RowKit Go.Shelf Go.Proofs
attribute [local go_sem] Oper.semAt_some
set_option maxRecDepth 100000 in
set_option maxHeartbeats 4000000 in
theorem c0v (e:Nat→Nat→Value) (F:Fence) (n:Nat) (hf:F.fn 107) (hro:F.round=none) (hn:1≤n) (l Bs b off len cap:Nat) (hreach:len * 112≤140737488351232) (J:Nat→World→Prop) (Jx:Unit→World→Prop)
  (hY:∀(k:Nat) (W:World),k<len→J k W→YieldAt F (n - 1) Try.prog l #[.int .i64 ((len - 1 - k:Nat):Int),.agg #[e (len - 1 - k) 0,e (len - 1 - k) 1,e (len - 1 - k) 2,e (len - 1 - k) 3,e (len - 1 - k) 4,e (len - 1 - k) 5,e (len - 1 - k) 6]] W fun r W' =>
   (r=.returned (.bool true)∧J (k+1) W'∧KpB Bs b off (len * 7) W W')∨(r=.returned (.bool false)∧Jx () W'))
  (W:World) (hBs:W.cell? ⟨Bs,0,none⟩=some (.slice (some ⟨b,off,none⟩) len cap)) (hc:∀j,j<len→∀i,i<7→W.cell? ⟨b,off+(j * 7+i),none⟩=some (e j i)) (h0:J 0 W) :
  CallsIn F n Try.prog 107 #[.func (.yield l) #[] #[],.pointer (some ⟨Bs,0,none⟩)] W fun r W'=>(∃v,r=.returned v)∧(J len W'∨Jx () W'):=by
 refine callsIn_of_wp Try.func107 rfl hf ?_ hro
 simp only [Try.ntmps107,d0n,c9a,c9n,Nat.reduceAdd,Nat.reduceSub,d0u,d0v,d05,d0y,c9I,c9G]
 gi_wp2
 gi_loopw [3] (fun i wr=>∃k r:Nat,k+r=len∧i=.int .i64 ((r:Int) - 1)∧J k wr∧KpB Bs b off (len * 7) W wr)
  (fun i _=>(intOf i+1).toNat)
 case atStart=>exact ⟨0,len,by omega,rfl,h0,KpB.refl W⟩
 case round =>
  obtain ⟨k,r,hk,rfl,hJs,hnx⟩:=hrel
  have hbx:=hnx.1 _ hBs
  cases r with
  | succ q =>
   have eq:(((q+1:Nat):Int) - 1)=(q:Int):=by omega
   have hq:len - 1 - k=q:=by omega
   rw [eq]
   have hy0:=hY k wr (by omega) hJs
   rw [hq] at hy0
   obtain ⟨fn,tmps,assign,body,hy,hR⟩:=hy0
   have h2:∀i,i<7→wr.cell? ⟨b,off+q * 7+i,none⟩=some (e q i):=fun i hi=>by rw [c9S];exact hnx.2 _ (by omega) _ (hc q (by omega) i hi)
   have c0:=h2 0 (by omega)
   have c1:=h2 1 (by omega)
   have c2:=h2 2 (by omega)
   have c3:=h2 3 (by omega)
   have c4:=h2 4 (by omega)
   have c5:=h2 5 (by omega)
   have c6:=h2 6 (by omega)
   clear h2 hc hY
   simp only [d0g] at c0
   have hqn:(0:Int)≤(q:Int):=by omega
   have hql:(q:Int)<(len:Int):=by omega
   have hqlt:q<len:=by omega
   gi_wp2
   refine hR.mono ?_
   rintro r W3 (⟨rfl,hJ3,hk3⟩|⟨rfl,hJx3⟩)
   ·gi_wp2
    go_roundw
    case rel=>exact ⟨k+1,q,by omega,by simp,hJ3,hnx.trans hk3⟩
    case measure=>simp [intOf]
   ·gi_wp2
    refine bodyPost_ret (results_none rfl _ _ _) rfl ?_
    exact ⟨⟨_,rfl⟩,.inr hJx3⟩
  | zero =>
   obtain rfl:k=len:=by omega
   clear hY
   gi_wp2
   go_end0
   exact ⟨⟨_,rfl⟩,.inl hJs⟩
set_option maxRecDepth 100000 in
set_option maxHeartbeats 2000000 in
theorem b7g (A:Option Addr) (cap:Nat) (F:Fence) (n:Nat) (hf:F.fn 107) (hro:F.round=none) (l Bs:Nat) (J:World→Prop) (W:World) (hBs:W.cell? ⟨Bs,0,none⟩=some (.slice A 0 cap)) (h0:J W) :
  CallsIn F n Try.prog 107 #[.func (.yield l) #[] #[],.pointer (some ⟨Bs,0,none⟩)] W fun e W'=>(∃v,e=.returned v)∧J W':=by
 refine callsIn_of_wp Try.func107 rfl hf ?_ hro
 simp only [Try.ntmps107,d0n,c9a,c9n,Nat.reduceAdd,Nat.reduceSub,d0u,d0v,d05,d0y,c9I,c9G]
 gi_wp2
 gi_loopw [3] (fun i wr=>i=.int .i64 (-1)∧J wr) (fun _ _=>0)
 case atStart=>exact ⟨rfl,h0⟩
 case round =>
  obtain ⟨rfl,hJs⟩:=hrel
  gi_wp2
  go_end0
  exact ⟨⟨_,rfl⟩,hJs⟩
theorem b7h {I:Nat→Nat→Prop} {w:World} {v:Value} {rows:List (List D)} {Bs:Nat} (hlt:∀b h,I b h→b<w.heap.size) (hv:AtD I w v (.sl 7 rows)) (hBl:Bs<w.heap.size) (hBs:w.cell? ⟨Bs,0,none⟩=some v) (hreach:rows.length * 112≤140737488351232) :
    ∃(b off:Nat) (us:List Value),us.length=rows.length * 7∧(rows≠[]→Up I b (off+rows.length * 7))∧B0 I w us rows.flatten∧(∀r∈rows,r.length=7) ∧
      ∀(F:Fence) (n:Nat),F.fn 107→F.round=none→1≤n→b3V F n Try.prog 107 #[.pointer (some ⟨Bs,0,none⟩)] (fun k=>#[.int .i64 ((rows.length - 1 - k:Nat):Int),.agg (((us.drop ((rows.length - 1 - k) * 7)).take 7).toArray)]) (KpB Bs b off (rows.length * 7)) rows.length w:=by
  obtain ⟨A,cap,rfl,hcap,h⟩:=hv.slice
  rcases h with rfl|⟨b,off,us,rfl,hI,hr,hl,hc,hd⟩
  · exact ⟨0,0,[],rfl,fun h=>absurd rfl h,.nil I w,fun r hr=>(by cases hr),fun F n hf hro hn l J Jx W hW hY h0 =>
      (b7g A cap F n hf hro l Bs (J 0) W ((hW.cell (p:=⟨Bs,0,none⟩) hBl).trans hBs) h0).mono fun e W' h=>⟨h.1,.inl h.2⟩⟩
  · refine ⟨b,off,us,hl,fun _=>hI,hd,hr,fun F n hf hro hn l J Jx W hW hY h0=>?_⟩
    have hbl:b<w.heap.size:=by obtain ⟨k,h1,h2⟩:=hI;exact hlt _ _ h2
    refine c0v (fun j i=>us.getD (j * 7+i) undef) F n hf hro hn l Bs b off rows.length cap hreach J Jx (fun k W1 hk hj=>?_) W ((hW.cell (p:=⟨Bs,0,none⟩) hBl).trans hBs) (fun j hj i hi=>?_) h0
    · have:=hY k W1 hk hj
      have hlen:(rows.length - 1 - k) * 7+7≤us.length:=by rw [hl,←c9M];exact c9C _ (by omega)
      have e:((us.drop ((rows.length - 1 - k) * 7)).take 7)=[us.getD ((rows.length - 1 - k) * 7+0) undef,us.getD ((rows.length - 1 - k) * 7+1) undef,us.getD ((rows.length - 1 - k) * 7+2) undef,us.getD ((rows.length - 1 - k) * 7+3) undef,us.getD ((rows.length - 1 - k) * 7+4) undef,us.getD ((rows.length - 1 - k) * 7+5) undef,us.getD ((rows.length - 1 - k) * 7+6) undef]:=by
        apply d0j
        intro i
        rw [c91]
        split
        · rename_i hi
          rw [c9x]
          have h3:(rows.length - 1 - k) * 7+i<us.length:=by omega
          have hu:∀j,(rows.length - 1 - k) * 7+j<us.length→us[(rows.length - 1 - k) * 7+j]?=some (us.getD ((rows.length - 1 - k) * 7+j) undef):=fun j hj=>by rw [c9k,c8T hj];rfl
          rw [hu i h3]
          match i,hi with
          | 0,_=>rfl
           | 1,_=>rfl
           | 2,_=>rfl
           | 3,_=>rfl
           | 4,_=>rfl
           | 5,_=>rfl
           | 6,_=>rfl
          
        · rename_i hi
          rw [c9H (by simp;omega)]
      dsimp only at this
      rw [e] at this
      exact this
    · refine (hW.cell (p:=⟨b,off+(j * 7+i),none⟩) hbl).trans ?_
      have h3:j * 7+i<us.length:=by
        have h4:j * 7+7≤rows.length * 7:=by rw [←c9M];exact c9C _ (by omega)
        omega
      have:=hc (j * 7+i) _ (c8T h3)
      rw [this,c9k,c8T h3]
      rfl
set_option maxRecDepth 100000 in
set_option maxHeartbeats 4000000 in
theorem c0w (e:Nat→Nat→Value) (F:Fence) (n:Nat) (hf:F.fn 161) (hro:F.round=none) (hn:1≤n) (l Bs b off len cap:Nat) (hreach:len * 208≤140737488351232) (J:Nat→World→Prop) (Jx:Unit→World→Prop)
  (hY:∀(k:Nat) (W:World),k<len→J k W→YieldAt F (n - 1) Try.prog l #[.int .i64 ((len - 1 - k:Nat):Int),.agg #[e (len - 1 - k) 0,e (len - 1 - k) 1,e (len - 1 - k) 2,e (len - 1 - k) 3,e (len - 1 - k) 4,e (len - 1 - k) 5,e (len - 1 - k) 6,e (len - 1 - k) 7,e (len - 1 - k) 8,e (len - 1 - k) 9,e (len - 1 - k) 10,e (len - 1 - k) 11,e (len - 1 - k) 12]] W fun r W' =>
   (r=.returned (.bool true)∧J (k+1) W'∧KpB Bs b off (len * 13) W W')∨(r=.returned (.bool false)∧Jx () W'))
  (W:World) (hBs:W.cell? ⟨Bs,0,none⟩=some (.slice (some ⟨b,off,none⟩) len cap)) (hc:∀j,j<len→∀i,i<13→W.cell? ⟨b,off+(j * 13+i),none⟩=some (e j i)) (h0:J 0 W) :
  CallsIn F n Try.prog 161 #[.func (.yield l) #[] #[],.pointer (some ⟨Bs,0,none⟩)] W fun r W'=>(∃v,r=.returned v)∧(J len W'∨Jx () W'):=by
 refine callsIn_of_wp Try.func161 rfl hf ?_ hro
 simp only [Try.ntmps161,d0n,c9a,c9n,Nat.reduceAdd,Nat.reduceSub,d0u,d0v,d05,d0y,c9I,c9G]
 gi_wp2
 gi_loopw [3] (fun i wr=>∃k r:Nat,k+r=len∧i=.int .i64 ((r:Int) - 1)∧J k wr∧KpB Bs b off (len * 13) W wr)
  (fun i _=>(intOf i+1).toNat)
 case atStart=>exact ⟨0,len,by omega,rfl,h0,KpB.refl W⟩
 case round =>
  obtain ⟨k,r,hk,rfl,hJs,hnx⟩:=hrel
  have hbx:=hnx.1 _ hBs
  cases r with
  | succ q =>
   have eq:(((q+1:Nat):Int) - 1)=(q:Int):=by omega
   have hq:len - 1 - k=q:=by omega
   rw [eq]
   have hy0:=hY k wr (by omega) hJs
   rw [hq] at hy0
   obtain ⟨fn,tmps,assign,body,hy,hR⟩:=hy0
   have h2:∀i,i<13→wr.cell? ⟨b,off+q * 13+i,none⟩=some (e q i):=fun i hi=>by rw [c9S];exact hnx.2 _ (by omega) _ (hc q (by omega) i hi)
   have c0:=h2 0 (by omega)
   have c1:=h2 1 (by omega)
   have c2:=h2 2 (by omega)
   have c3:=h2 3 (by omega)
   have c4:=h2 4 (by omega)
   have c5:=h2 5 (by omega)
   have c6:=h2 6 (by omega)
   have c7:=h2 7 (by omega)
   have c8:=h2 8 (by omega)
   have c9:=h2 9 (by omega)
   have c10:=h2 10 (by omega)
   have c11:=h2 11 (by omega)
   have c12:=h2 12 (by omega)
   clear h2 hc hY
   simp only [d0g] at c0
   have hqn:(0:Int)≤(q:Int):=by omega
   have hql:(q:Int)<(len:Int):=by omega
   have hqlt:q<len:=by omega
   gi_wp2
   refine hR.mono ?_
   rintro r W3 (⟨rfl,hJ3,hk3⟩|⟨rfl,hJx3⟩)
   ·gi_wp2
    go_roundw
    case rel=>exact ⟨k+1,q,by omega,by simp,hJ3,hnx.trans hk3⟩
    case measure=>simp [intOf]
   ·gi_wp2
    refine bodyPost_ret (results_none rfl _ _ _) rfl ?_
    exact ⟨⟨_,rfl⟩,.inr hJx3⟩
  | zero =>
   obtain rfl:k=len:=by omega
   clear hY
   gi_wp2
   go_end0
   exact ⟨⟨_,rfl⟩,.inl hJs⟩
set_option maxRecDepth 100000 in
set_option maxHeartbeats 2000000 in
theorem b7i (A:Option Addr) (cap:Nat) (F:Fence) (n:Nat) (hf:F.fn 161) (hro:F.round=none) (l Bs:Nat) (J:World→Prop) (W:World) (hBs:W.cell? ⟨Bs,0,none⟩=some (.slice A 0 cap)) (h0:J W) :
  CallsIn F n Try.prog 161 #[.func (.yield l) #[] #[],.pointer (some ⟨Bs,0,none⟩)] W fun e W'=>(∃v,e=.returned v)∧J W':=by
 refine callsIn_of_wp Try.func161 rfl hf ?_ hro
 simp only [Try.ntmps161,d0n,c9a,c9n,Nat.reduceAdd,Nat.reduceSub,d0u,d0v,d05,d0y,c9I,c9G]
 gi_wp2
 gi_loopw [3] (fun i wr=>i=.int .i64 (-1)∧J wr) (fun _ _=>0)
 case atStart=>exact ⟨rfl,h0⟩
 case round =>
  obtain ⟨rfl,hJs⟩:=hrel
  gi_wp2
  go_end0
  exact ⟨⟨_,rfl⟩,hJs⟩
theorem b7j {I:Nat→Nat→Prop} {w:World} {v:Value} {rows:List (List D)} {Bs:Nat} (hlt:∀b h,I b h→b<w.heap.size) (hv:AtD I w v (.sl 13 rows)) (hBl:Bs<w.heap.size) (hBs:w.cell? ⟨Bs,0,none⟩=some v) (hreach:rows.length * 208≤140737488351232) :
    ∃(b off:Nat) (us:List Value),us.length=rows.length * 13∧(rows≠[]→Up I b (off+rows.length * 13))∧B0 I w us rows.flatten∧(∀r∈rows,r.length=13) ∧
      ∀(F:Fence) (n:Nat),F.fn 161→F.round=none→1≤n→b3V F n Try.prog 161 #[.pointer (some ⟨Bs,0,none⟩)] (fun k=>#[.int .i64 ((rows.length - 1 - k:Nat):Int),.agg (((us.drop ((rows.length - 1 - k) * 13)).take 13).toArray)]) (KpB Bs b off (rows.length * 13)) rows.length w:=by
  obtain ⟨A,cap,rfl,hcap,h⟩:=hv.slice
  rcases h with rfl|⟨b,off,us,rfl,hI,hr,hl,hc,hd⟩
  · exact ⟨0,0,[],rfl,fun h=>absurd rfl h,.nil I w,fun r hr=>(by cases hr),fun F n hf hro hn l J Jx W hW hY h0 =>
      (b7i A cap F n hf hro l Bs (J 0) W ((hW.cell (p:=⟨Bs,0,none⟩) hBl).trans hBs) h0).mono fun e W' h=>⟨h.1,.inl h.2⟩⟩
  · refine ⟨b,off,us,hl,fun _=>hI,hd,hr,fun F n hf hro hn l J Jx W hW hY h0=>?_⟩
    have hbl:b<w.heap.size:=by obtain ⟨k,h1,h2⟩:=hI;exact hlt _ _ h2
    refine c0w (fun j i=>us.getD (j * 13+i) undef) F n hf hro hn l Bs b off rows.length cap hreach J Jx (fun k W1 hk hj=>?_) W ((hW.cell (p:=⟨Bs,0,none⟩) hBl).trans hBs) (fun j hj i hi=>?_) h0
    · have:=hY k W1 hk hj
      have hlen:(rows.length - 1 - k) * 13+13≤us.length:=by rw [hl,←c9M];exact c9C _ (by omega)
      have e:((us.drop ((rows.length - 1 - k) * 13)).take 13)=[us.getD ((rows.length - 1 - k) * 13+0) undef,us.getD ((rows.length - 1 - k) * 13+1) undef,us.getD ((rows.length - 1 - k) * 13+2) undef,us.getD ((rows.length - 1 - k) * 13+3) undef,us.getD ((rows.length - 1 - k) * 13+4) undef,us.getD ((rows.length - 1 - k) * 13+5) undef,us.getD ((rows.length - 1 - k) * 13+6) undef,us.getD ((rows.length - 1 - k) * 13+7) undef,us.getD ((rows.length - 1 - k) * 13+8) undef,us.getD ((rows.length - 1 - k) * 13+9) undef,us.getD ((rows.length - 1 - k) * 13+10) undef,us.getD ((rows.length - 1 - k) * 13+11) undef,us.getD ((rows.length - 1 - k) * 13+12) undef]:=by
        apply d0j
        intro i
        rw [c91]
        split
        · rename_i hi
          rw [c9x]
          have h3:(rows.length - 1 - k) * 13+i<us.length:=by omega
          have hu:∀j,(rows.length - 1 - k) * 13+j<us.length→us[(rows.length - 1 - k) * 13+j]?=some (us.getD ((rows.length - 1 - k) * 13+j) undef):=fun j hj=>by rw [c9k,c8T hj];rfl
          rw [hu i h3]
          match i,hi with
          | 0,_=>rfl
           | 1,_=>rfl
           | 2,_=>rfl
           | 3,_=>rfl
           | 4,_=>rfl
           | 5,_=>rfl
           | 6,_=>rfl
           | 7,_=>rfl
           | 8,_=>rfl
           | 9,_=>rfl
           | 10,_=>rfl
           | 11,_=>rfl
           | 12,_=>rfl
          
        · rename_i hi
          rw [c9H (by simp;omega)]
      dsimp only at this
      rw [e] at this
      exact this
    · refine (hW.cell (p:=⟨b,off+(j * 13+i),none⟩) hbl).trans ?_
      have h3:j * 13+i<us.length:=by
        have h4:j * 13+13≤rows.length * 13:=by rw [←c9M];exact c9C _ (by omega)
        omega
      have:=hc (j * 13+i) _ (c8T h3)
      rw [this,c9k,c8T h3]
      rfl
end Go.Proofs.Ytahpnackkmbmgaa.Vm
end
section
namespace Go.Proofs.Ytahpnackkmbmgaa.Vm
open Go.RowKit
set_option maxRecDepth 100000
set_option maxHeartbeats 4000000
section
def c0x (f sz:Nat):Prop:=∀ {I:Nat→Nat→Prop} {w:World} {v:Value} {rows:List (List D)} {Bs:Nat},(∀b h,I b h→b<w.heap.size)→AtD I w v (.sl sz rows)→Bs<w.heap.size→w.cell? ⟨Bs,0,none⟩=some v→rows.length * (sz * 16)≤140737488351232 →
  ∃(b off:Nat) (us:List Value),us.length=rows.length * sz∧(rows≠[]→Up I b (off+rows.length * sz))∧B0 I w us rows.flatten∧(∀r∈rows,r.length=sz) ∧
   ∀(F:Fence) (n:Nat),F.fn f→F.round=none→1≤n→b3V F n Try.prog f #[.pointer (some ⟨Bs,0,none⟩)] (fun k=>#[.int .i64 ((rows.length - 1 - k:Nat):Int),.agg (((us.drop ((rows.length - 1 - k) * sz)).take sz).toArray)]) (KpB Bs b off (rows.length * sz)) rows.length w
theorem b5G {sz:Nat} {r:List D}:∀ {rows:List (List D)} {k:Nat},(∀r∈rows,r.length=sz)→rows[k]?=some r→∀i,i<sz→rows.flatten[k * sz+i]?=r[i]?
 | [],k,_,h,_,_=>by simp at h
 | x::l,0,hr,h,i,hi=>by
  have hx:=hr x (c8V ..)
  simp only [d0U,Option.some.injEq] at h
  subst h
  rw [c9F,d0e,c9L,c9l (by omega)]
 | x::l,k+1,hr,h,i,hi=>by
  have hx:=hr x (c8V ..)
  rw [d0w] at h
  have e:(k+1) * sz+i=sz+(k * sz+i):=by rw [c9M];omega
  rw [c9F,e,c9b (by omega),hx,Nat.add_sub_cancel_left]
  exact b5G (fun r hm=>hr r (c8X _ hm)) h i hi
theorem b7k {W:World} {b:Nat} {us:Array Value} {t:TypeId} {m:Nat×Nat} {i:Nat} (h:W.heap[b]?=some (.cells us t m)):W.cell? ⟨b,i,none⟩=us[i]?:=by
 show (match W.heap[b]? with|some (.cells c _ _)=>c[i]?|_=>none)=_
 rw [h]
section
variable {I0:Nat→Nat→Prop} {X:Nat→Prop} {w0:W0} {I:Nat→Nat→Prop} {g:Nat→Value} {a:Act} {w:World}
theorem b5H {f sz:Nat} (hS:c0x f sz) (eg:∀args w,(callFunc f args).run Try.prog w=.ok (.enter f args) w) {asg bdy:Code} {n p1 p2 gs kb:Nat} {rows:List (List D)} {t0 t:List V} {o0:List O} {st:Nat→List O} {Q:Exit→Act→World→Prop} {ks1 ks2:List Nat} (hA:o4 Try.prog asg=true) (hB:o4 Try.prog bdy=true)
  (h0:RelI I0 X w0 I g ⟨t0,o0⟩ a w) (hn:2≤n) (hgs:n6 t0 gs=.cl f [kb]) (hob:o0[kb]?=some (.box [.d (.sl sz rows)])) (hlen:rows.length * (sz * 16)≤140737488351232)
  (ht0:E6 t0 gs .jk=t) (hst:o0.set kb .dead=st 0) (ht:A2 ks2 t=t)
  (hx:∀k,k<rows.length→b3W ks1 ks2 asg bdy (E6 (E6 t p1 (vi .i64 ((rows.length - 1 - k:Nat):Int))) p2 (.ag (y5 (rows.getD (rows.length - 1 - k) [])))) (st k) (st (k+1)))
  (hQ:∀(D:Nat) (W:World) (I1:Nat→Nat→Prop) (g1:Nat→Value),w0.w.heap.size≤D→(∀k,¬I1 D k)→RelI I0 X w0 I1 g1 ⟨t,st rows.length⟩ a W→W.heap[D]?=some (.deferred (some []))→Q .normal { a with defers:={ target:=.collected D,args:=#[] }::a.defers } W) :
  (Code.rangeFunc (.tmp gs) #[p1,p2] asg bdy).wpIn (FW none) n Try.prog Q a w:=by
 have hcl0:=h0.get (.tmp gs)
 have h:RelI I0 X w0 I g ⟨t,o0⟩ a w:=by rw [←ht0];exact h0.reread (i:=gs) (x:=.jk) fun v _=>.jk v
 obtain ⟨b,us,ty,h1,h2,h3,h4⟩:=h.frzBox hob
 obtain ⟨v,us',rfl,hv,hnn⟩:=h3.uncons
 obtain rfl:=hnn.unnil
 have hvD:AtD I w v (.sl sz rows):=by cases hv with|d h=>exact h
 have hBs:w.cell? ⟨b,0,none⟩=some v:=b7k h2
 have hbl:b<w.heap.size:=(c9g.1 h2).1
 obtain ⟨bb,off,vs,hl,hup,hds,hr5,hseq⟩:=hS (fun b k hb=>(h.lt b k hb).1) hvD hbl hBs hlen
 have hcl:a.eval (.tmp gs)=.func (.func f) #[] #[.pointer (some ⟨b,0,none⟩)]:=by
  have h5:AtV I w g (a.eval (.tmp gs)) (.cl f [kb]):=by
   have e:(⟨t0,o0⟩:S).get (.tmp gs)=.cl f [kb]:=by
    exact hgs
   rw [←e]
   exact hcl0
  generalize a.eval (.tmp gs)=ax at h5 ⊢
  cases h5 with
  | cl f us ks hl hh =>
   match us,hl with
   | [u],_=>rw [(hh 0 u kb rfl rfl).1,h1]
 have hst0:RelI I0 X w0 (fun b' n=>I b' n∨(b'=b∧n≤1)) g ⟨t,st 0⟩ a w:=by
  rw [←hst]
  exact h4
 refine b2L (ks1:=ks1) (ks2:=ks2) (t:=t) (p1:=p1) (p2:=p2) (gf:=f) (N:=rows.length) (lb:=#[.pointer (some ⟨b,0,none⟩)])
  (u1:=fun k=>.int .i64 ((rows.length - 1 - k:Nat):Int)) (u2:=fun k=>.agg (((vs.drop ((rows.length - 1 - k) * sz)).take sz).toArray)) (Kp:=KpB b bb off (rows.length * sz)) (st:=st)
  (tk:=fun k=>E6 (E6 t p1 (vi .i64 ((rows.length - 1 - k:Nat):Int))) p2 (.ag (y5 (rows.getD (rows.length - 1 - k) []))))
  hA hB hst0 (by omega) hcl eg (hseq (FW none) (n - 1) trivial rfl (by omega)) KpB.trans (fun W l o o' _ hl ho _=>KpB.turn W l o o' hl ho) ?_ ?_ ht hx ?_
 ·intro W1 W2 hk
  refine ⟨fun v hv=>?_,fun i hi v hv=>?_⟩
  ·rw [hk b 1 (.inr ⟨rfl,c9c _⟩) 0 (by decide)]
   exact hv
  ·obtain ⟨n,hn1,hn2⟩:=hup (fun e=>by rw [e] at hi;simp at hi)
   rw [hk bb n (.inl hn2) (off+i) (by omega)]
   exact hv
 ·intro k W1 I1 g1 hk hI1 hk1 hvs
  have hlt:rows.length - 1 - k<rows.length:=by omega
  have e1:∀(ts:Array Value) (i:Nat) (u:Value),(ts.setIfInBounds i u).toList=ts.toList.set i u:=fun ts i u=>by simp
  rw [e1,e1,a0q,a0q]
  refine (hvs.set (.d (.sc _ rfl)) p1).set (M7 ?_) p2
  refine B0.toV g1 ?_
  have h5:=(hds.drop ((rows.length - 1 - k) * sz)).take sz
  have e2:(rows.flatten.drop ((rows.length - 1 - k) * sz)).take sz=rows.getD (rows.length - 1 - k) []:=by
   have hg:rows[rows.length - 1 - k]?=some (rows.getD (rows.length - 1 - k) []):=by rw [c9k,c8T hlt];rfl
   apply d0j
   intro i
   rw [c91]
   have h6:(rows.getD (rows.length - 1 - k) []).length=sz:=hr5 _ (c9h hg)
   split
   ·rename_i hi
    rw [c9x,b5G hr5 hg i hi]
   ·rename_i hi
    rw [c9H (by omega)]
  rw [e2] at h5
  exact h5.mono (fun b j hb=>hI1 b j (.inl hb)) (fun b j hb=>hk1 b j (.inl hb))
 ·rintro D W1 hD ⟨I1,g1,q1,q2,q3,q4⟩ hd
  exact hQ D W1 I1 g1 (by rw [hD];exact h.fr.size) (fun k=>by rw [hD];exact (q2 k).2) q3 hd
end
end
section
@[reducible] noncomputable def fnB:Code:=Try.f62.body.getD .skip
@[reducible] noncomputable def fnC:List Code:=[I7 fnB,I7 (o5 fnB),I7 (o5 (o5 fnB)),I7 (o5 (o5 (o5 fnB))),I7 (o5 (o5 (o5 (o5 fnB))))]
@[reducible] noncomputable def fnP:Code:=I7 (o5 (o5 (o5 (o5 (o5 fnB)))))
@[reducible] noncomputable def fnE:Code:=o5 (o5 (o5 (o5 (o5 (o5 fnB)))))
theorem c6X:Try.f62.body=some (a9p fnC (.seq (.seq (I7 fnP) (.block 0 (.rangeFunc (.tmp 26) #[27,28] (a1s (o5 fnP)) (a1t (o5 fnP))))) fnE)):=by kernel_rfl
theorem c6Y:(Try.f62.name != "runtime.NumGoroutine")=true:=by kernel_rfl
theorem c6Z:fnC.all (o4 Try.prog)=true:=by kernel_rfl
theorem c7a:o4 Try.prog (I7 fnP)=true:=by kernel_rfl
theorem c7b:o4 Try.prog fnE=true:=by kernel_rfl
theorem c7c:J9 Try.f62.results.toList=true:=by kernel_rfl
theorem c7d:o4 Try.prog (a1s (o5 fnP))=true:=by kernel_rfl
theorem c7e:o4 Try.prog (a1t (o5 fnP))=true:=by kernel_rfl
def fnT (L pl L1:Int) (r:Bool) (u v c:V) (rows:List (List D)) (x:Nat→D):List V:=[.ptr 0 0,vi .i64 L,vi .i64 pl,vb r,.tu [],.tu [],.ptr 2 0,.ptr 3 0,.ptr 4 0,.ptr 5 0,.d (.sl 7 rows),.ptr 6 0,.tu [],.tu [],.tu [],vb r,u,v,.ptr 0 0,vi .i64 L,.d (.sl 7 rows),.ptr 0 0,vi .i64 L,vi .i64 L1,.ag (y5 (cE x)),.d (.sl 7 rows),c,.tu [],.tu [],.tu [],.tu [],.tu [],.tu [],.tu [],.tu [],.tu [],.tu [],.tu [],.tu [],.tu [],.tu [],.tu [],.tu [],.tu [],.tu [],.tu [],.tu [],.tu [],.tu [],.tu [],.tu []]
def fnO (T:List (List D)) (s:ST) (pl:Int) (r:Bool) (w:ByteArray) (x:Nat→D) (b:O):List O:=[.box [.ptr 1 0,vi .u8 s.1,vi .i64 s.2.1],.box [.d (.sl 4 T),vi .i64 s.2.2],.box [vi .i64 pl],.box [vb r],.box [vi .u8 0,vs ⟨#[]⟩,vs ⟨#[]⟩,vi .i64 0,vb false,vi .u8 0,vs ⟨#[]⟩,vi .i64 0,.em,.em,.em],.box [vs w],.box (y5 (cE x)),.dead,b]
section
variable {T:List (List D)} {L pl L1:Int}
theorem c2B {s0 s2 s3:ST} {x:Nat→D} {rows:List (List D)} (hL1:0≤L) (hL2:L≤1048576) (hL:L1=L+1) (h2:A7 89 [vi .i64 L] T s0 [.d (.sl 7 rows)] s2) (h3:A7 37 [vi .i64 (L+1)] T s2 [.ag (y5 (cE x))] s3) (P:S→Prop) (hP:P ⟨fnT L pl L1 false (.tu []) (.tu []) (.cl 107 [8]) rows x,fnO T s3 pl false ⟨#[]⟩ x (.box [.d (.sl 7 rows)])⟩):∀qa qb qc qd qe qg qh qi qj qk ql qm qo qp qq qt qu qv qw qx qy qz va vc vd ve vf vg vh vj vk vl vm vn vo vp vq vr vt vu vv vw vx,Ar.mk qa qb qc qd qe qg qh qi qj qk ql qm qo qp qq qt qu qv qw qx qy qz va vc vd ve vf vg vh vj vk vl vm vn vo vp vq vr vt vu vv vw vx=f7→B4 (Ar.mk qa qb qc qd qe qg qh qi qj qk ql qm qo qp qq qt qu qv qw qx qy qz va vc vd ve vf vg vh vj vk vl vm vn vo vp vq vr vt vu vv vw vx) (a9p fnC (I7 fnP)) (a1J [.ptr 0 0,vi .i64 L,vi .i64 pl,vb false] (eyT T s0) (Try.f62.ntmps - C4 [V.ptr 0 0,vi .i64 L,vi .i64 pl,vb false])) (fun x s=>x=.normal∧P s):=by
 intro qa qb qc qd qe qg qh qi qj qk ql qm qo qp qq qt qu qv qw qx qy qz va vc vd ve vf vg vh vj vk vl vm vn vo vp vq vr vt vu vv vw vx hA
 obtain ⟨_,_,_⟩:=s0
 obtain ⟨_,_,_⟩:=s2
 obtain ⟨_,_,_⟩:=s3
 rw [←hL] at h3
 obtain ⟨e1,e2,e3,e4,e5,e6,e7,e8,e9⟩:=m6 hA
 have qL:qa .i64 (qb L 1)=L1:=by rw [e1,e2,IntWalk.i64_in _ (by omega)];exact hL.symm
 iterate 2 (try cbv;repeat ((first|with_reducible apply f8 hA|rw [qL]|refine v7 hA [0,1] h2 ?_|refine v7 hA [0,1] h3 ?_|refine a8f hA Try.func90 rfl (by kernel_rfl) (by kernel_rfl) (by kernel_rfl) ?_);cbv))
 try simp (maxSteps:=4000000) only [nc] at *
 exact hP
theorem c2C {s0 s1 s2 s3:ST} {w:ByteArray} {x:Nat→D} {rows:List (List D)} (hL1:0≤L) (hL2:L≤1048576) (hL:L1=L+1) (h1:A7 63 [] T s0 [vs w] s1) (h2:A7 89 [vi .i64 L] T s1 [.d (.sl 7 rows)] s2) (h3:A7 37 [vi .i64 (L+1)] T s2 [.ag (y5 (cE x))] s3) (P:S→Prop) (hP:P ⟨fnT L pl L1 true (.ptr 0 0) (vs w) (.cl 107 [8]) rows x,fnO T s3 pl true w x (.box [.d (.sl 7 rows)])⟩):∀qa qb qc qd qe qg qh qi qj qk ql qm qo qp qq qt qu qv qw qx qy qz va vc vd ve vf vg vh vj vk vl vm vn vo vp vq vr vt vu vv vw vx,Ar.mk qa qb qc qd qe qg qh qi qj qk ql qm qo qp qq qt qu qv qw qx qy qz va vc vd ve vf vg vh vj vk vl vm vn vo vp vq vr vt vu vv vw vx=f7→B4 (Ar.mk qa qb qc qd qe qg qh qi qj qk ql qm qo qp qq qt qu qv qw qx qy qz va vc vd ve vf vg vh vj vk vl vm vn vo vp vq vr vt vu vv vw vx) (a9p fnC (I7 fnP)) (a1J [.ptr 0 0,vi .i64 L,vi .i64 pl,vb true] (eyT T s0) (Try.f62.ntmps - C4 [V.ptr 0 0,vi .i64 L,vi .i64 pl,vb true])) (fun x s=>x=.normal∧P s):=by
 intro qa qb qc qd qe qg qh qi qj qk ql qm qo qp qq qt qu qv qw qx qy qz va vc vd ve vf vg vh vj vk vl vm vn vo vp vq vr vt vu vv vw vx hA
 obtain ⟨_,_,_⟩:=s0
 obtain ⟨_,_,_⟩:=s1
 obtain ⟨_,_,_⟩:=s2
 obtain ⟨_,_,_⟩:=s3
 rw [←hL] at h3
 obtain ⟨e1,e2,e3,e4,e5,e6,e7,e8,e9⟩:=m6 hA
 have qL:qa .i64 (qb L 1)=L1:=by rw [e1,e2,IntWalk.i64_in _ (by omega)];exact hL.symm
 iterate 2 (try cbv;repeat ((first|with_reducible apply f8 hA|rw [qL]|refine v7 hA [0,1] h1 ?_|refine v7 hA [0,1] h2 ?_|refine v7 hA [0,1] h3 ?_|refine a8f hA Try.func90 rfl (by kernel_rfl) (by kernel_rfl) (by kernel_rfl) ?_);cbv))
 try simp (maxSteps:=4000000) only [nc] at *
 exact hP
theorem c7f {s:ST} {rows:List (List D)} {u v:V} {w nm:ByteArray} {an:Bool} {x0 x z y:Nat→D} {at_ i:Int} {r:Bool} (hi:i≠0) (ho:OvA 35 ⟨#[]⟩ nm 0 an y at_ [cE x] z):∀qa qb qc qd qe qg qh qi qj qk ql qm qo qp qq qt qu qv qw qx qy qz va vc vd ve vf vg vh vj vk vl vm vn vo vp vq vr vt vu vv vw vx,Ar.mk qa qb qc qd qe qg qh qi qj qk ql qm qo qp qq qt qu qv qw qx qy qz va vc vd ve vf vg vh vj vk vl vm vn vo vp vq vr vt vu vv vw vx=f7→B4 (Ar.mk qa qb qc qd qe qg qh qi qj qk ql qm qo qp qq qt qu qv qw qx qy qz va vc vd ve vf vg vh vj vk vl vm vn vo vp vq vr vt vu vv vw vx) (a1s (o5 fnP)) ⟨E6 (E6 (fnT L pl L1 r u v .jk rows x0) 27 (vi .i64 i)) 28 (.ag (y5 [.sc (.string nm),.sc (.bool an),y 0,y 1,y 2,y 3,.sc (.int .i64 at_)])),r9 (fnO T s pl r w x .dead) (.kl [])⟩
  (fun e s1=>e=.normal∧a0O (fnO T s pl r w x .dead) s1.o=true∧B4 (Ar.mk qa qb qc qd qe qg qh qi qj qk ql qm qo qp qq qt qu qv qw qx qy qz va vc vd ve vf vg vh vj vk vl vm vn vo vp vq vr vt vu vv vw vx) (a1t (o5 fnP)) ⟨s1.t,r9 s1.o (.kl [])⟩ (fun e s2=>e=.normal∧a8A [] [] 9 (fnO T s pl r w x .dead) (fnO T s pl r w z .dead) (m7 s1.o) s2)):=by
 intro qa qb qc qd qe qg qh qi qj qk ql qm qo qp qq qt qu qv qw qx qy qz va vc vd ve vf vg vh vj vk vl vm vn vo vp vq vr vt vu vv vw vx hA
 obtain ⟨_,_,_⟩:=s
 obtain ⟨e1,e2,e3,e4,e5,e6,e7,e8,e9⟩:=m6 hA
 have q1:qk i 0=false:=by rw [e9];exact c9d hi
 have o0:=ho;exact T1
theorem c7g {s:ST} {rows:List (List D)} {u v:V} {w nm:ByteArray} {an:Bool} {x0 x z y:Nat→D} {at_  : Int} (ho:OvA 35 ⟨#[]⟩ nm 0 an y pl [cE x] z):∀qa qb qc qd qe qg qh qi qj qk ql qm qo qp qq qt qu qv qw qx qy qz va vc vd ve vf vg vh vj vk vl vm vn vo vp vq vr vt vu vv vw vx,Ar.mk qa qb qc qd qe qg qh qi qj qk ql qm qo qp qq qt qu qv qw qx qy qz va vc vd ve vf vg vh vj vk vl vm vn vo vp vq vr vt vu vv vw vx=f7→B4 (Ar.mk qa qb qc qd qe qg qh qi qj qk ql qm qo qp qq qt qu qv qw qx qy qz va vc vd ve vf vg vh vj vk vl vm vn vo vp vq vr vt vu vv vw vx) (a1s (o5 fnP)) ⟨E6 (E6 (fnT L pl L1 false u v .jk rows x0) 27 (vi .i64 0)) 28 (.ag (y5 [.sc (.string nm),.sc (.bool an),y 0,y 1,y 2,y 3,.sc (.int .i64 at_)])),r9 (fnO T s pl false w x .dead) (.kl [])⟩
  (fun e s1=>e=.normal∧a0O (fnO T s pl false w x .dead) s1.o=true∧B4 (Ar.mk qa qb qc qd qe qg qh qi qj qk ql qm qo qp qq qt qu qv qw qx qy qz va vc vd ve vf vg vh vj vk vl vm vn vo vp vq vr vt vu vv vw vx) (a1t (o5 fnP)) ⟨s1.t,r9 s1.o (.kl [])⟩ (fun e s2=>e=.normal∧a8A [] [] 9 (fnO T s pl false w x .dead) (fnO T s pl false w z .dead) (m7 s1.o) s2)):=by
 intro qa qb qc qd qe qg qh qi qj qk ql qm qo qp qq qt qu qv qw qx qy qz va vc vd ve vf vg vh vj vk vl vm vn vo vp vq vr vt vu vv vw vx hA
 obtain ⟨_,_,_⟩:=s
 obtain ⟨e1,e2,e3,e4,e5,e6,e7,e8,e9⟩:=m6 hA
 have q1:qk 0 0=true:=by rw [e9];rfl
 have o0:=ho;exact T1
theorem c7h {s:ST} {rows:List (List D)} {u v:V} {w nm:ByteArray} {an:Bool} {x0 x z y:Nat→D} {at_  : Int} (ho:OvA 36 w nm 0 an y pl [cE x] z):∀qa qb qc qd qe qg qh qi qj qk ql qm qo qp qq qt qu qv qw qx qy qz va vc vd ve vf vg vh vj vk vl vm vn vo vp vq vr vt vu vv vw vx,Ar.mk qa qb qc qd qe qg qh qi qj qk ql qm qo qp qq qt qu qv qw qx qy qz va vc vd ve vf vg vh vj vk vl vm vn vo vp vq vr vt vu vv vw vx=f7→B4 (Ar.mk qa qb qc qd qe qg qh qi qj qk ql qm qo qp qq qt qu qv qw qx qy qz va vc vd ve vf vg vh vj vk vl vm vn vo vp vq vr vt vu vv vw vx) (a1s (o5 fnP)) ⟨E6 (E6 (fnT L pl L1 true u v .jk rows x0) 27 (vi .i64 0)) 28 (.ag (y5 [.sc (.string nm),.sc (.bool an),y 0,y 1,y 2,y 3,.sc (.int .i64 at_)])),r9 (fnO T s pl true w x .dead) (.kl [])⟩
  (fun e s1=>e=.normal∧a0O (fnO T s pl true w x .dead) s1.o=true∧B4 (Ar.mk qa qb qc qd qe qg qh qi qj qk ql qm qo qp qq qt qu qv qw qx qy qz va vc vd ve vf vg vh vj vk vl vm vn vo vp vq vr vt vu vv vw vx) (a1t (o5 fnP)) ⟨s1.t,r9 s1.o (.kl [])⟩ (fun e s2=>e=.normal∧a8A [] [] 9 (fnO T s pl true w x .dead) (fnO T s pl true w z .dead) (m7 s1.o) s2)):=by
 intro qa qb qc qd qe qg qh qi qj qk ql qm qo qp qq qt qu qv qw qx qy qz va vc vd ve vf vg vh vj vk vl vm vn vo vp vq vr vt vu vv vw vx hA
 obtain ⟨_,_,_⟩:=s
 obtain ⟨e1,e2,e3,e4,e5,e6,e7,e8,e9⟩:=m6 hA
 have q1:qk 0 0=true:=by rw [e9];rfl
 iterate 2 (try cbv;repeat ((first|with_reducible apply f8 hA|rw [q1]|refine rdx hA [] ho ?_|refine C2 hA true ?_|refine a7a hA [] (by kernel_rfl) ?_);cbv))
 try simp (maxSteps:=4000000) only [nc] at *
 repeat' (first
  | (with_reducible apply And.intro)
  | ((with_reducible apply f8 hA);cbv)
  | (refine a8h hA [] ho ⟨rfl,rfl,rfl,rfl,rfl,rfl,rfl⟩ rfl ?_;rintro _ rfl;cbv)
  | (refine C2 hA true ?_;cbv)
  )
theorem c5x {s:ST} {rows:List (List D)} {u v:V} {r:Bool} {w:ByteArray} {x0 z:Nat→D}:∀qa qb qc qd qe qg qh qi qj qk ql qm qo qp qq qt qu qv qw qx qy qz va vc vd ve vf vg vh vj vk vl vm vn vo vp vq vr vt vu vv vw vx,Ar.mk qa qb qc qd qe qg qh qi qj qk ql qm qo qp qq qt qu qv qw qx qy qz va vc vd ve vf vg vh vj vk vl vm vn vo vp vq vr vt vu vv vw vx=f7→B4 (Ar.mk qa qb qc qd qe qg qh qi qj qk ql qm qo qp qq qt qu qv qw qx qy qz va vc vd ve vf vg vh vj vk vl vm vn vo vp vq vr vt vu vv vw vx) fnE ⟨fnT L pl L1 r u v .jk rows x0,r9 (fnO T s pl r w z .dead) (.kl [])⟩
  (fun x s2=>c0u 2 Try.f62.results.toList (fun res os=>res=[.ag (y5 (cE z))]∧os=eyT T s) 9 [] x s2):=by
 intro _ _ _ _ _ _ _ _ _ _ _ _ _ _ _ _ _ _ _ _ _ _ _ _ _ _ _ _ _ _ _ _ _ _ _ _ _ _ _ _ _ vw _ hA
 obtain ⟨_,_,_⟩:=s
 try cbv;refine gr ?_;try simp only [nc] at *
 exact ⟨[0,1],[.ag (y5 (cE z))],_,⟨rfl,rfl,rfl,rfl,rfl,rfl,rfl,rfl⟩,rfl,rfl⟩
theorem c2D:c0x 107 7:=fun h1 h2 h3 h4 h5=>b7h h1 h2 h3 h4 h5
theorem b2X {s0 s1 s2 s3:ST} {r:Bool} {w:ByteArray} {rows:List (List D)} (acc:Nat→Nat→D) (hN:rows.length≤1048576) (hL1:0≤L) (hL2:L≤1048576)
  (hst:∀k,k<rows.length→∃(nm:ByteArray) (an:Bool) (y:Nat→D) (at_:Int),rows[rows.length - 1 - k]?=some [.sc (.string nm),.sc (.bool an),y 0,y 1,y 2,y 3,.sc (.int .i64 at_)] ∧
   OvA (if rows.length - 1 - k=0∧r=true then 36 else 35) (if rows.length - 1 - k=0∧r=true then w else ⟨#[]⟩) nm 0 an y (if rows.length - 1 - k=0 then pl else at_) [cE (acc k)] (acc (k+1)))
  (h1:r=false∧w=⟨#[]⟩∧s1=s0∨r=true∧A7 63 [] T s0 [vs w] s1) (h2:A7 89 [vi .i64 L] T s1 [.d (.sl 7 rows)] s2) (h3:A7 37 [vi .i64 (L+1)] T s2 [.ag (y5 (cE (acc 0)))] s3) :
  A7 62 [vi .i64 L,vi .i64 pl,vb r] T s0 [.ag (y5 (cE (acc rows.length)))] s3:=by
 refine a6B (Pre:=fun s=>∃u v,s=⟨fnT L pl (L+1) r u v (.cl 107 [8]) rows (acc 0),fnO T s3 pl r w (acc 0) (.box [.d (.sl 7 rows)])⟩) Try.func62 c6X c6Y c6Z c7a ?_ ?_
 ·rcases h1 with ⟨rfl,rfl,rfl⟩|⟨rfl,h1⟩
  ·exact c2B hL1 hL2 rfl h2 h3 _ ⟨_,_,rfl⟩ _ _ _ _ _ _ _ _ _ _ _ _ _ _ _ _ _ _ _ _ _ _ _ _ _ _ _ _ _ _ _ _ _ _ _ _ _ _ _ _ _ _ _ rfl
  ·exact c2C hL1 hL2 rfl h1 h2 h3 _ ⟨_,_,rfl⟩ _ _ _ _ _ _ _ _ _ _ _ _ _ _ _ _ _ _ _ _ _ _ _ _ _ _ _ _ _ _ _ _ _ _ _ _ _ _ _ _ _ _ _ rfl
 ·intro I I' g0 g w1 W s a hP h
  obtain ⟨u,v,rfl⟩:=hP
  refine b5H (ks1:=[]) (ks2:=[]) (st:=fun k=>fnO T s3 pl r w (acc k) .dead) (rows:=rows) (kb:=8) (gs:=26) c2D (enters_of Try.func107 (by kernel_rfl) rfl) c7d c7e h (by decide) rfl rfl (by omega) rfl rfl rfl ?_ ?_
  ·intro k hk
   obtain ⟨nm,an,y,at_,hr,ho⟩:=hst k hk
   have hg:rows.getD (rows.length - 1 - k) []=[.sc (.string nm),.sc (.bool an),y 0,y 1,y 2,y 3,.sc (.int .i64 at_)]:=by rw [c9k,hr];rfl
   rw [hg]
   by_cases hz:rows.length - 1 - k=0
   ·rw [hz] at ho ⊢
    cases r with
    | false =>
     rw [c8W (by simp),c8W (by simp),c8Y rfl] at ho
     exact c7g ho _ _ _ _ _ _ _ _ _ _ _ _ _ _ _ _ _ _ _ _ _ _ _ _ _ _ _ _ _ _ _ _ _ _ _ _ _ _ _ _ _ _ _ rfl
    | true =>
     rw [c8Y (by simp),c8Y (by simp),c8Y rfl] at ho
     exact c7h ho _ _ _ _ _ _ _ _ _ _ _ _ _ _ _ _ _ _ _ _ _ _ _ _ _ _ _ _ _ _ _ _ _ _ _ _ _ _ _ _ _ _ _ rfl
   ·rw [c8W (fun h=>hz h.1),c8W (fun h=>hz h.1),c8W hz] at ho
    exact c7f (by omega) ho _ _ _ _ _ _ _ _ _ _ _ _ _ _ _ _ _ _ _ _ _ _ _ _ _ _ _ _ _ _ _ _ _ _ _ _ _ _ _ _ _ _ _ rfl
  ·intro D W1 I1 g1 hD0 hID q3 hd
   refine a8N (kl:=[]) c7b c7c q3 hID hD0 hd ?_
   exact c5x _ _ _ _ _ _ _ _ _ _ _ _ _ _ _ _ _ _ _ _ _ _ _ _ _ _ _ _ _ _ _ _ _ _ _ _ _ _ _ _ _ _ _ rfl
end
end
section
@[reducible] noncomputable def fdB:Code:=Try.f153.body.getD .skip
@[reducible] noncomputable def fdC:List Code:=[I7 fdB,I7 (o5 fdB),I7 (o5 (o5 fdB)),I7 (o5 (o5 (o5 fdB))),I7 (o5 (o5 (o5 (o5 fdB)))),I7 (o5 (o5 (o5 (o5 (o5 fdB))))),I7 (o5 (o5 (o5 (o5 (o5 (o5 fdB))))))]
@[reducible] noncomputable def fdP:Code:=I7 (o5 (o5 (o5 (o5 (o5 (o5 (o5 fdB)))))))
@[reducible] noncomputable def fdE:Code:=o5 (o5 (o5 (o5 (o5 (o5 (o5 (o5 fdB)))))))
theorem c7i:Try.f153.body=some (a9p fdC (.seq (.seq (I7 fdP) (.block 2 (.rangeFunc (.tmp 56) #[57,58] (a1s (o5 fdP)) (a1t (o5 fdP))))) fdE)):=by kernel_rfl
theorem c7j:(Try.f153.name != "runtime.NumGoroutine")=true:=by kernel_rfl
theorem c7k:fdC.all (o4 Try.prog)=true:=by kernel_rfl
theorem c7l:o4 Try.prog (I7 fdP)=true:=by kernel_rfl
theorem c7m:o4 Try.prog fdE=true:=by kernel_rfl
theorem c7n:J9 Try.f153.results.toList=true:=by kernel_rfl
theorem c7o:o4 Try.prog (a1s (o5 fdP))=true:=by kernel_rfl
theorem c7p:o4 Try.prog (a1t (o5 fdP))=true:=by kernel_rfl
abbrev c13 (w:ByteArray) (p:Int) (x:Nat→D):List D:=.sc (.string w)::.sc (.int .i64 p)::cE x
abbrev E5:ByteArray:=⟨#[61]⟩
abbrev Q6:ByteArray:=⟨#[44]⟩
abbrev N1:ByteArray:=⟨#[124]⟩
abbrev Z1:ByteArray:=⟨#[125]⟩
def c7q (T:List (List D)) (L:Int) (inv:ST→List (List D)→Nat→Prop) (e q a:Int) (R:List (List D)) (m:Nat):Prop:=∃(s3 s4 s5 s6:ST) (p3:Int) (w3:ByteArray) (y:Nat→D) (m2:Nat),A7 61 [vs Q6] T (e,q,a) [vb true] s3∧A7 60 [] T s3 [vi .i64 p3] s3∧A7 63 [] T s3 [vs w3] s4∧A7 64 [vs E5] T s4 [] s5∧A7 37 [vi .i64 (L+1)] T s5 [.ag (y5 (cE y))] s6∧inv s6 (R++[c13 w3 p3 y]) m2∧m2<m
def c3G (T:List (List D)) (L:Int) (sf:ST) (z:Nat→D) (e q a:Int):Prop:=∃(s7:ST) (p:Int) (z0:Nat→D),A7 61 [vs Q6] T (e,q,a) [vb false] (e,q,a)∧A7 60 [] T (e,q,a) [vi .i64 p] (e,q,a)∧LfN 41 ⟨#[]⟩ 0 p z0∧(A7 61 [vs N1] T (e,q,a) [vb false] (e,q,a)∧s7=(e,q,a)∧z=z0∨∃s6,A7 61 [vs N1] T (e,q,a) [vb true] s6∧A7 37 [vi .i64 (L+1)] T s6 [.ag (y5 (cE z))] s7)∧A7 64 [vs Z1] T s7 [] sf
def fdT (c:V) (u:Nat→V):List V:=[u 0,u 1,u 2,u 3,u 4,u 5,u 6,u 7,.ptr 2 0,u 9,u 10,.ptr 4 0,u 12,u 13,u 14,u 15,u 16,u 17,u 18,u 19,u 20,u 21,u 22,u 23,u 24,u 25,u 26,u 27,u 28,u 29,u 30,u 31,u 32,u 33,u 34,u 35,u 36,u 37,u 38,u 39,u 40,u 41,u 42,u 43,u 44,u 45,u 46,u 47,u 48,u 49,u 50,u 51,u 52,u 53,u 54,u 55,c,u 57,u 58,u 59,u 60,u 61,u 62,u 63,u 64,u 65,u 66,u 67,u 68,u 69]
def fdO (T:List (List D)) (s:ST) (rows:List (List D)) (x:Nat→D) (b:O):List O:=[.box [.ptr 1 0,vi .u8 s.1,vi .i64 s.2.1],.box [.d (.sl 4 T),vi .i64 s.2.2],.box [vi .u8 0,vs ⟨#[]⟩,vs ⟨#[]⟩,vi .i64 0,vb false,vi .u8 0,vs ⟨#[]⟩,vi .i64 0,.em,.em,.em],.row true 207 rows,.box (y5 (cE x)),.dead,b]
section
variable {T:List (List D)} {L pl:Int}
theorem c5y {s0 s1 s2 sf:ST} {w:ByteArray} {x z:Nat→D} {Rf:List (List D)} {m0:Nat} (hL1:0≤L) (hL2:L≤1048576) (inv:ST→List (List D)→Nat→Prop) (h0:A7 64 [vs E5] T s0 [] s1) (h1:A7 37 [vi .i64 (L+1)] T s1 [.ag (y5 (cE x))] s2) (hi0:inv s2 [c13 w pl x] m0)
  (hst:∀(e q a:Int) (R:List (List D)) (m:Nat),inv (e,q,a) R m→R.length<1048576∧(c7q T L inv e q a R m∨c3G T L sf z e q a∧R=Rf)) (P:S→Prop) (hP:∀tt,tt=fdT (.cl 161 [6]) (n6 tt)→P ⟨tt,fdO T sf Rf z (.box [.d (.sl 13 Rf)])⟩) :
  ∀qa qb qc qd qe qg qh qi qj qk ql qm qo qp qq qt qu qv qw qx qy qz va vc vd ve vf vg vh vj vk vl vm vn vo vp vq vr vt vu vv vw vx,Ar.mk qa qb qc qd qe qg qh qi qj qk ql qm qo qp qq qt qu qv qw qx qy qz va vc vd ve vf vg vh vj vk vl vm vn vo vp vq vr vt vu vv vw vx=f7→B4 (Ar.mk qa qb qc qd qe qg qh qi qj qk ql qm qo qp qq qt qu qv qw qx qy qz va vc vd ve vf vg vh vj vk vl vm vn vo vp vq vr vt vu vv vw vx) (a9p fdC (I7 fdP)) (a1J [.ptr 0 0,vi .i64 L,vi .i64 pl,vs w] (eyT T s0) (Try.f153.ntmps - C4 [V.ptr 0 0,vi .i64 L,vi .i64 pl,vs w])) (fun x s=>x=.normal∧P s):=by
 intro qa qb qc qd qe qg qh qi qj qk ql qm qo qp qq qt qu qv qw qx qy qz va vc vd ve vf vg vh vj vk vl vm vn vo vp vq vr vt vu vv vw vx hA
 obtain ⟨_,_,_⟩:=s0
 obtain ⟨_,_,_⟩:=s1
 obtain ⟨a2,b2,d2⟩:=s2
 obtain ⟨_,_,_⟩:=sf
 obtain ⟨L1,hL⟩:∃L1,L1=L+1:=⟨_,rfl⟩
 rw [←hL] at h1
 obtain ⟨e1,e2,e3,e4,e5,e6,e7,e8,e9⟩:=m6 hA
 obtain ⟨r1,r2,r3,r4⟩:=C7 hA
 have qL:qa .i64 (qb L 1)=L1:=by rw [e1,e2,IntWalk.i64_in _ (by omega)];exact hL.symm
 iterate 2 (try cbv;repeat ((first|with_reducible apply f8 hA|rw [qL]|refine v7 hA [0,1] h0 ?_|refine v7 hA [0,1] h1 ?_|refine C2 hA false ?_|refine a2x hA true ?_);cbv))
 try simp (maxSteps:=4000000) only [nc] at *
 refine o7 hA (γ:=ST×List (List D)×Nat) (fun x=>[(9,.own 3),(10,.jk),(23,.jk)]) (fun x=>[(0,.box [.ptr 1 0,vi .u8 x.1.1,vi .i64 x.1.2.1]),(1,.box [.d (.sl 4 T),vi .i64 x.1.2.2]),(3,.row true 207 x.2.1)]) (fun x=>inv x.1 x.2.1 x.2.2) (fun x=>x.2.2) ((a2,b2,d2),[c13 w pl x],m0) ?_ ?_ ?_
 ·exact hi0
 ·cbv
 ·intro x hinv
  obtain ⟨⟨e,q,a⟩,R,m⟩:=x
  obtain ⟨hlen,hs⟩:=hst e q a R m hinv
  rcases hs with ⟨s3,s4,s5,s6,p3,w3,y,m2,k1,k2,k3,k4,k5,hi2,hm2⟩|⟨⟨s7,p,z0,k1,k2,k3,k4,k5⟩,hR⟩
  ·obtain ⟨_,_,_⟩:=s3
   obtain ⟨_,_,_⟩:=s4
   obtain ⟨_,_,_⟩:=s5
   obtain ⟨a6,b6,d6⟩:=s6
   rw [←hL] at k5
   have g3:ve R [c13 w3 p3 y]=R++[c13 w3 p3 y]:=by rw [r4]
   obtain ⟨R2,hR2⟩:∃R2,R2=R++[c13 w3 p3 y]:=⟨_,rfl⟩
   rw [←hR2] at g3 hi2
   iterate 2 (try cbv;repeat ((first|with_reducible apply f8 hA|rw [g3]|rw [qL]|refine v7 hA [0,1] k1 ?_|refine v7 hA [0,1] k2 ?_|refine v7 hA [0,1] k3 ?_|refine v7 hA [0,1] k4 ?_|refine v7 hA [0,1] k5 ?_|refine C2 hA true ?_|(refine E2 hA (by simp only [c9a,c9n];omega) ?_));cbv))
   try simp (maxSteps:=4000000) only [nc] at *
   refine ⟨((a6,b6,d6),R2,m2),hi2,hm2,?_⟩
   cbv
  ·subst hR
   obtain ⟨_,_,_⟩:=s7
   rcases k4 with ⟨k4,hs7,rfl⟩|⟨s6,k4,k6⟩
   ·injection hs7 with f1 f2
    injection f2 with f2 f3
    subst f1 f2 f3
    iterate 2 (try cbv;repeat ((first|refine a2c hA 9 3 (.sl 13 R) rfl rfl ?_|with_reducible apply f8 hA|refine v7 hA [0,1] k1 ?_|refine v7 hA [0,1] k2 ?_|refine v7 hA [0,1] k4 ?_|refine v7 hA [0,1] k5 ?_|refine rdx hA [] k3 ?_|refine a8f hA Try.func159 rfl (by kernel_rfl) (by kernel_rfl) (by kernel_rfl) ?_);cbv))
    try simp (maxSteps:=4000000) only [nc] at *
    exact hP _ rfl
   ·obtain ⟨_,_,_⟩:=s6
    rw [←hL] at k6
    iterate 2 (try cbv;repeat ((first|refine a2c hA 9 3 (.sl 13 R) rfl rfl ?_|with_reducible apply f8 hA|rw [qL]|refine v7 hA [0,1] k1 ?_|refine v7 hA [0,1] k2 ?_|refine v7 hA [0,1] k4 ?_|refine v7 hA [0,1] k6 ?_|refine v7 hA [0,1] k5 ?_|refine rdx hA [] k3 ?_|refine a8f hA Try.func159 rfl (by kernel_rfl) (by kernel_rfl) (by kernel_rfl) ?_);cbv))
    try simp (maxSteps:=4000000) only [nc] at *
    exact hP _ rfl
theorem c0z {s:ST} {rows:List (List D)} {u:Nat→V} {nm:ByteArray} {x z y:Nat→D} {at_ i:Int} (ho:OvN 42 nm ⟨#[]⟩ 0 false at_ [cE y,cE x] z):∀qa qb qc qd qe qg qh qi qj qk ql qm qo qp qq qt qu qv qw qx qy qz va vc vd ve vf vg vh vj vk vl vm vn vo vp vq vr vt vu vv vw vx,Ar.mk qa qb qc qd qe qg qh qi qj qk ql qm qo qp qq qt qu qv qw qx qy qz va vc vd ve vf vg vh vj vk vl vm vn vo vp vq vr vt vu vv vw vx=f7→B4 (Ar.mk qa qb qc qd qe qg qh qi qj qk ql qm qo qp qq qt qu qv qw qx qy qz va vc vd ve vf vg vh vj vk vl vm vn vo vp vq vr vt vu vv vw vx) (a1s (o5 fdP)) ⟨E6 (E6 (fdT .jk u) 57 (vi .i64 i)) 58 (.ag (y5 (c13 nm at_ y))),r9 (fdO T s rows x .dead) (.kl [])⟩
  (fun e s1=>e=.normal∧a0O (fdO T s rows x .dead) s1.o=true∧B4 (Ar.mk qa qb qc qd qe qg qh qi qj qk ql qm qo qp qq qt qu qv qw qx qy qz va vc vd ve vf vg vh vj vk vl vm vn vo vp vq vr vt vu vv vw vx) (a1t (o5 fdP)) ⟨s1.t,r9 s1.o (.kl [])⟩ (fun e s2=>e=.normal∧a8A [] [] 7 (fdO T s rows x .dead) (fdO T s rows z .dead) (m7 s1.o) s2)):=by
 intro _ _ _ _ _ _ _ _ _ _ _ _ _ _ _ _ _ _ _ _ _ _ _ _ _ _ _ _ _ _ _ _ _ _ _ _ _ _ _ _ _ vw _ hA
 obtain ⟨_,_,_⟩:=s
 have o0:=ho;exact T1
theorem c5z {s:ST} {rows:List (List D)} {u:Nat→V} {z:Nat→D}:∀qa qb qc qd qe qg qh qi qj qk ql qm qo qp qq qt qu qv qw qx qy qz va vc vd ve vf vg vh vj vk vl vm vn vo vp vq vr vt vu vv vw vx,Ar.mk qa qb qc qd qe qg qh qi qj qk ql qm qo qp qq qt qu qv qw qx qy qz va vc vd ve vf vg vh vj vk vl vm vn vo vp vq vr vt vu vv vw vx=f7→B4 (Ar.mk qa qb qc qd qe qg qh qi qj qk ql qm qo qp qq qt qu qv qw qx qy qz va vc vd ve vf vg vh vj vk vl vm vn vo vp vq vr vt vu vv vw vx) fdE ⟨fdT .jk u,r9 (fdO T s rows z .dead) (.kl [])⟩
  (fun x s2=>c0u 2 Try.f153.results.toList (fun res os=>res=[.ag (y5 (cE z))]∧os=eyT T s) 7 [] x s2):=by
 intro _ _ _ _ _ _ _ _ _ _ _ _ _ _ _ _ _ _ _ _ _ _ _ _ _ _ _ _ _ _ _ _ _ _ _ _ _ _ _ _ _ vw _ hA
 obtain ⟨_,_,_⟩:=s
 try cbv;refine gr ?_;try simp only [nc] at *
 exact ⟨[0,1],[.ag (y5 (cE z))],_,⟨rfl,rfl,rfl,rfl,rfl,rfl,rfl,rfl⟩,rfl,rfl⟩
theorem c2G:c0x 161 13:=fun h1 h2 h3 h4 h5=>b7j h1 h2 h3 h4 h5
theorem b7l {s0 s1 s2 sf:ST} {w:ByteArray} {x:Nat→D} {Rf:List (List D)} {m0:Nat} (acc:Nat→Nat→D) (hN:Rf.length≤1048576) (hL1:0≤L) (hL2:L≤1048576) (inv:ST→List (List D)→Nat→Prop) (h0:A7 64 [vs E5] T s0 [] s1) (h1:A7 37 [vi .i64 (L+1)] T s1 [.ag (y5 (cE x))] s2) (hi0:inv s2 [c13 w pl x] m0)
  (hst:∀(e q a:Int) (R:List (List D)) (m:Nat),inv (e,q,a) R m→R.length<1048576∧(c7q T L inv e q a R m∨c3G T L sf (acc 0) e q a∧R=Rf))
  (hR:∀k,k<Rf.length→∃(nm:ByteArray) (at_:Int) (y:Nat→D),Rf[Rf.length - 1 - k]?=some (c13 nm at_ y)∧OvN 42 nm ⟨#[]⟩ 0 false at_ [cE y,cE (acc k)] (acc (k+1))) :
  A7 153 [vi .i64 L,vi .i64 pl,vs w] T s0 [.ag (y5 (cE (acc Rf.length)))] sf:=by
 refine a6B (Pre:=fun s=>∃tt,tt=fdT (.cl 161 [6]) (n6 tt)∧s=⟨tt,fdO T sf Rf (acc 0) (.box [.d (.sl 13 Rf)])⟩) Try.func153 c7i c7j c7k c7l ?_ ?_
 ·exact c5y hL1 hL2 inv h0 h1 hi0 hst _ (fun tt h=>⟨tt,h,rfl⟩) _ _ _ _ _ _ _ _ _ _ _ _ _ _ _ _ _ _ _ _ _ _ _ _ _ _ _ _ _ _ _ _ _ _ _ _ _ _ _ _ _ _ _ rfl
 ·intro I I' g0 g w1 W s a hP h
  obtain ⟨tt,htt,rfl⟩:=hP
  obtain ⟨u,hu⟩:∃u,u=n6 tt:=⟨_,rfl⟩
  rw [←hu] at htt
  subst htt
  refine b5H (ks1:=[]) (ks2:=[]) (st:=fun k=>fdO T sf Rf (acc k) .dead) (rows:=Rf) (kb:=6) (gs:=56) (t:=fdT .jk u) c2G (enters_of Try.func161 (by kernel_rfl) rfl) c7o c7p h (by decide) rfl rfl (by omega) rfl rfl rfl ?_ ?_
  ·intro k hk
   obtain ⟨nm,at_,y,hr,ho⟩:=hR k hk
   have hg:Rf.getD (Rf.length - 1 - k) []=c13 nm at_ y:=by rw [c9k,hr];rfl
   rw [hg]
   exact c0z ho _ _ _ _ _ _ _ _ _ _ _ _ _ _ _ _ _ _ _ _ _ _ _ _ _ _ _ _ _ _ _ _ _ _ _ _ _ _ _ _ _ _ _ rfl
  ·intro D W1 I1 g1 hD0 hID q3 hd
   refine a8N (kl:=[]) c7m c7n q3 hID hD0 hd ?_
   exact c5z _ _ _ _ _ _ _ _ _ _ _ _ _ _ _ _ _ _ _ _ _ _ _ _ _ _ _ _ _ _ _ _ _ _ _ _ _ _ _ _ _ _ _ rfl
end
end
def fnW (pl:Int) (r:Bool) (w:ByteArray) (x:PL):Bool→List Pm→PL
 | _,[]=>x
 | f,m::l=>C0 (if f=true∧r=true then 36 else 35) (if f=true∧r=true then w else ⟨#[]⟩) m.1 0 m.2.1 m.2.2.1 (if f=true then pl else m.2.2.2) [fnW pl r w x false l]
theorem a7g {pl:Int} {r:Bool} {w:ByteArray} {x:PL}:∀(f:Bool) (l:List Pm),(fnW pl r w x f l).2.length=l.length+x.2.length
 | _,[]=>by rw [fnW,c9n,c9L]
 | f,m::l=>by
  rw [fnW]
  unfold C0
  simp only [c9q,c9y,c9i,c9a]
  rw [a7g false l]
  omega
def a8O (pl:Int) (r:Bool) (w:ByteArray) (x:PL) (l:List Pm) (k:Nat):PL:=fnW pl r w x (decide (k=l.length)) (l.drop (l.length - k))
theorem b7m {pl:Int} {r:Bool} {w:ByteArray} {x:PL} {l:List Pm} {k:Nat} {m:Pm} (hk:k<l.length) (hm:l[l.length - 1 - k]?=some m):a8O pl r w x l (k+1)=C0 (if l.length - 1 - k=0∧r=true then 36 else 35) (if l.length - 1 - k=0∧r=true then w else ⟨#[]⟩) m.1 0 m.2.1 m.2.2.1 (if l.length - 1 - k=0 then pl else m.2.2.2) [a8O pl r w x l k]:=by
 have h1:l.length - (k+1)<l.length:=by omega
 have e1:l.length - 1 - k=l.length - (k+1):=by omega
 rw [e1,c8T h1] at hm
 have hd:l.drop (l.length - (k+1))=m::l.drop (l.length - k):=by
  rw [c98 h1,Option.some.inj hm,show l.length - (k+1)+1=l.length - k by omega]
 have ef:decide (k=l.length)=false:=c9d (by omega)
 unfold a8O
 rw [hd,fnW,ef]
 by_cases hz:l.length - 1 - k=0
 ·rw [show decide (k+1=l.length)=true from c9j (by omega),hz]
  simp
 ·rw [show decide (k+1=l.length)=false from c9d (by omega)]
  simp [hz]
def H2 (ts:List Tok) (n:Nat) (ex:PF) (pl:Int) (r:Bool) (p:PE):PL×PE :=
 (fnW pl r (if r=true then (i7 ts p).1 else ⟨#[]⟩) (ex (F9 ts n (if r=true then (i7 ts p).2 else p)).2).1 true (F9 ts n (if r=true then (i7 ts p).2 else p)).1,(ex (F9 ts n (if r=true then (i7 ts p).2 else p)).2).2)
theorem a8P {ts:List Tok} (hE:m8 ts) (n:Nat) (p0:Nat):∀(k:Nat) (s:List Pm×PE),s.2.1<ts.length→p0≤s.2.1→s.1.length+p0≤s.2.1+1→(s.2.2=0→s.1.length+p0≤s.2.1)→(F8 ts n k s).2.1<ts.length∧p0≤(F8 ts n k s).2.1∧(F8 ts n k s).1.length+p0≤(F8 ts n k s).2.1+1∧((F8 ts n k s).2.2=0→s.2.2=0∧(F8 ts n k s).1.length+p0≤(F8 ts n k s).2.1)
 | 0,s,h1,h2,h3,h4=>⟨h1,h2,h3,fun h=>⟨h,h4 h⟩⟩
 | k+1,s,h1,h2,h3,h4=>by
  rw [F8]
  split
  ·rename_i hc
   obtain ⟨a1,a2,a3⟩:=a1h hE n h1
   have h5:=h4 hc.1
   obtain ⟨b1,b2,b3,b4⟩:=a8P hE n p0 k (s.1++[(B1 ts n s.2).1],(B1 ts n s.2).2) a1 (by show p0≤(B1 ts n s.2).2.1;omega) (by simp only [c8U,c9a,c9n];omega) (fun h=>by have:=(a3 h).2;simp only [c8U,c9a,c9n];omega)
   exact ⟨b1,b2,b3,fun h=>⟨hc.1,(b4 h).2⟩⟩
  ·exact ⟨h1,h2,h3,fun h=>⟨h,h4 h⟩⟩
theorem a46 {ts:List Tok} (hE:m8 ts) (n:Nat) {p:PE} (hp:p.1<ts.length):(F9 ts n p).2.1<ts.length∧p.1≤(F9 ts n p).2.1∧(F9 ts n p).1.length+p.1≤(F9 ts n p).2.1+1∧((F9 ts n p).2.2=0→p.2=0∧(F9 ts n p).1.length+p.1+1≤(F9 ts n p).2.1):=by
 obtain ⟨a1,a2,a3⟩:=a1h hE n hp
 obtain ⟨b1,b2,b3,b4⟩:=a8P hE n p.1 ts.length ([(B1 ts n p).1],(B1 ts n p).2) a1 a2 (by simp only [c9a,c9n];omega) (fun h=>by have:=(a3 h).2;simp only [c9a,c9n];omega)
 unfold F9
 generalize F8 ts n ts.length ([(B1 ts n p).1],(B1 ts n p).2)=rr at *
 obtain ⟨c1,c2,c3⟩:=j7 (s:=a1z) hE b1
 refine ⟨c1,by simp only;omega,by simp only;omega,fun h=>?_⟩
 obtain ⟨d1,d2⟩:=c3 h
 obtain ⟨f1,f2⟩:=b4 d1
 exact ⟨(a3 f1).1,by simp only;omega⟩
theorem b0q {ts:List Tok} (hE:m8 ts) (n:Nat) {ex:PF} (hf:B6 ts ex) (he:∀p:PE,p.2≠0→ex p=(zPL,p)) (pl:Int) (r:Bool) {p:PE} (hp:p.1<ts.length):FitP ts p (H2 ts n ex pl r p):=by
 have hq:(if r=true then (i7 ts p).2 else p).1<ts.length∧p.1≤(if r=true then (i7 ts p).2 else p).1∧((if r=true then (i7 ts p).2 else p).2=0→p.2=0):=by
  cases r with
  | true =>
   obtain ⟨b1,b2,b3⟩:=w9 hE hp
   exact ⟨b1,b2,fun h=>(b3 h).1⟩
  | false=>exact ⟨hp,c9c _,fun h=>h⟩
 unfold H2
 generalize (if r=true then (i7 ts p).2 else p)=q at *
 obtain ⟨q1,q2,q3⟩:=hq
 obtain ⟨a1,a2,a3,a4⟩:=a46 hE n q1
 generalize F9 ts n q=ps at *
 have hb:=hf ps.2 a1
 have hl:=hb.lo
 have hs:=hb.sz
 refine ⟨by simp only;omega,hb.hi,?_,fun h=>?_⟩
 ·simp only
  rw [a7g]
  by_cases h0:ps.2.2=0
  ·have:=(a4 h0).2
   omega
  ·rw [he _ h0]
   show ps.1.length+0+2 * p.1≤2 * ps.2.1+2
   omega
 ·obtain ⟨h0,h2⟩:=hb.ok h
  obtain ⟨h3,h4⟩:=a4 h0
  refine ⟨q3 h3,?_⟩
  simp only
  rw [a7g]
  omega
theorem a8Q {ts:List Tok} (hE:m8 ts) (hN:T5 ts) (hl:ts.length≤65537) (n:Nat) (L:Int) (hv:a1y n L) (hL:L≤1048575) {ex:PF} (hf:B6 ts ex) (hx:∀p:PE,p.1<ts.length→G9 37 [vi .i64 (L+1)] ts p [.ag (y5 (cP (ex p).1))] (ex p).2) (pl:Int) (r:Bool) {p:PE} (hp:p.1<ts.length) :
  G9 62 [vi .i64 L,vi .i64 pl,vb r] ts p [.ag (y5 (cP (H2 ts n ex pl r p).1))] (H2 ts n ex pl r p).2:=by
 have hl2:ts.length≤1048576:=by omega
 obtain ⟨q,hq⟩:∃q,q=(if r=true then (i7 ts p).2 else p):=⟨_,rfl⟩
 obtain ⟨w,hw⟩:∃w,w=(if r=true then (i7 ts p).1 else ⟨#[]⟩):=⟨_,rfl⟩
 have hq1:q.1<ts.length:=by
  rw [hq]
  cases r with
  | true=>exact (w9 hE hp).1
  | false=>exact hp
 have hw1:r=false∧w=⟨#[]⟩∧U8 ts q=U8 ts p∨r=true∧A7 63 [] (H8 ts) (U8 ts p) [vs w] (U8 ts q):=by
  cases r with
  | true=>exact .inr ⟨rfl,by rw [hw,hq];exact a0L hl2 hp⟩
  | false=>exact .inl ⟨rfl,by rw [hw];rfl,by rw [hq];rfl⟩
 unfold H2
 rw [←hq,←hw]
 obtain ⟨a1,a2,a3,a4⟩:=a46 hE n hq1
 have hps:=c0t hE hN hl n L hv hL hq1
 generalize F9 ts n q=ps at *
 have hex:=hx ps.2 a1
 have hb:=hf ps.2 a1
 have hbs:=hb.sz
 have hbh:=hb.hi
 obtain ⟨acc,hacc⟩:∃acc:Nat→Nat→D,∀k,cP (a8O pl r w (ex ps.2).1 ps.1 k)=cE (acc k):=⟨fun k=>(A8 _).choose,fun k=>(A8 _).choose_spec⟩
 have h0:a8O pl r w (ex ps.2).1 ps.1 0=(ex ps.2).1:=by
  unfold a8O
  rw [c9R (by omega),fnW]
 have hlast:fnW pl r w (ex ps.2).1 true ps.1=a8O pl r w (ex ps.2).1 ps.1 ps.1.length:=by
  unfold a8O
  rw [d0h,d07,c9j rfl]
 unfold G9 at hex hps ⊢
 rw [hlast,hacc]
 rw [←h0,hacc] at hex
 have hlen:(ps.1.map cPm).length=ps.1.length:=c9r ..
 have key:=b2X (T:=H8 ts) (L:=L) (pl:=pl) (s1:=U8 ts q) (s3:=U8 ts (ex ps.2).2) (r:=r) (w:=w) (rows:=ps.1.map cPm) acc (by rw [hlen];omega) (a27 hv hL).1 (a27 hv hL).2 (fun k hk=>by
  rw [hlen] at hk ⊢
  obtain ⟨m,hm⟩:∃m,ps.1[ps.1.length - 1 - k]?=some m:=⟨_,c8T (by omega)⟩
  obtain ⟨y,hy⟩:=b26 m.2.2.1
  refine ⟨m.1,m.2.1,y,m.2.2.2,by rw [c9v,hm];unfold cPm;rw [d0b,hy];rfl,?_⟩
  have ho:=b9W (if ps.1.length - 1 - k=0∧r=true then 36 else 35) (if ps.1.length - 1 - k=0∧r=true then w else ⟨#[]⟩) m.1 0 m.2.1 m.2.2.1 y hy (if ps.1.length - 1 - k=0 then pl else m.2.2.2) [a8O pl r w (ex ps.2).1 ps.1 k] (by simp) (by
   simp only [c9q,c9y,c9i]
   unfold a8O
   rw [a7g,c9z]
   omega)
  rw [←b7m hk hm,hacc,show rP [a8O pl r w (ex ps.2).1 ps.1 k]=[cE (acc k)] by unfold rP;rw [c9m,c9O,hacc]] at ho
  exact ho) hw1 hps hex
 rw [hlen] at key
 exact key
abbrev Fd:=ByteArray×Int×PL
def cFd (f:Fd):List D:=.sc (.string f.1)::.sc (.int .i64 f.2.1)::cP f.2.2
def fdW (x:PL):List Fd→PL
 | []=>x
 | f::l=>C0 42 f.1 ⟨#[]⟩ 0 false s8 f.2.1 [f.2.2,fdW x l]
def fdN:List Fd→Nat
 | []=>0
 | f::l=>1+f.2.2.2.length+fdN l
theorem b2Y (f:Fd):∀l:List Fd,fdN (l++[f])=fdN l+(1+f.2.2.2.length)
 | []=>by simp [fdN]
 | x::l=>by rw [c9G,fdN,fdN,b2Y f l];omega
theorem b2Z:∀(l:List Fd) (n:Nat),fdN (l.drop n)≤fdN l
 | [],n=>by simp
 | x::l,0=>c9c _
 | x::l,n+1=>by
  rw [List.drop_succ_cons,fdN]
  have:=b2Z l n
  omega
theorem a3I {x:PL}:∀l:List Fd,(fdW x l).2.length=fdN l+x.2.length
 | []=>by rw [fdW,fdN,c9L]
 | f::l=>by
  rw [fdW,fdN]
  unfold C0
  simp only [c9q,c9y,c9i,c9a,c8U]
  rw [a3I l]
  omega
def J3 (ts:List Tok) (ex:PF):Nat→List Fd×PE→List Fd×PE
 | 0,s=>s
 | k+1,s=>if B3 ts Q6 s.2=true then J3 ts ex k (s.1++[((i7 ts (s.2.1+1,0)).1,(l9 ts (s.2.1+1)).at_,(ex (j0 ts E5 (i7 ts (s.2.1+1,0)).2)).1)],(ex (j0 ts E5 (i7 ts (s.2.1+1,0)).2)).2) else s
theorem a8R {ts:List Tok} {ex:PF} {s:List Fd×PE} (h:B3 ts Q6 s.2=false):∀k,J3 ts ex k s=s
 | 0=>rfl
 | k+1=>by rw [J3,c8W (by rw [h];decide)]
def L6 (ts:List Tok) (ex:PF) (p:PE):PL×PE:=if B3 ts N1 p=true then ex (p.1+1,0) else (a1u 41 ⟨#[]⟩ 0 (l9 ts p.1).at_,p)
abbrev a9r (ts:List Tok) (ex:PF) (pl:Int) (w:ByteArray) (p:PE):List Fd×PE:=J3 ts ex ts.length ([(w,pl,(ex (j0 ts E5 p)).1)],(ex (j0 ts E5 p)).2)
def Z2 (ts:List Tok) (ex:PF) (pl:Int) (w:ByteArray) (p:PE):PL×PE:=(fdW (L6 ts ex (a9r ts ex pl w p).2).1 (a9r ts ex pl w p).1,j0 ts Z1 (L6 ts ex (a9r ts ex pl w p).2).2)
def SzF (ts:List Tok) (p0:Nat) (s:List Fd×PE):Prop:=s.2.1<ts.length∧p0≤s.2.1∧fdN s.1+2 * p0≤2 * s.2.1+1∧(s.2.2=0→fdN s.1+2 * p0+2≤2 * s.2.1)
theorem n9 {ts:List Tok} {s:ByteArray} {p:PE} (hE:m8 ts) (hp:p.1<ts.length) (h:B3 ts s p=true):p.1+1<ts.length∧p.2=0:=by
 have h1:=b1u hE hp h
 exact ⟨by have:=h1.1;have:=h1.2.1;omega,h1.2.2⟩
theorem b5J {ts:List Tok} (hE:m8 ts) {ex:PF} (hf:B6 ts ex) (he:∀p:PE,p.2≠0→ex p=(zPL,p)) {p0:Nat} {s:List Fd×PE} (hs:SzF ts p0 s) (h:B3 ts Q6 s.2=true):SzF ts p0 (s.1++[((i7 ts (s.2.1+1,0)).1,(l9 ts (s.2.1+1)).at_,(ex (j0 ts E5 (i7 ts (s.2.1+1,0)).2)).1)],(ex (j0 ts E5 (i7 ts (s.2.1+1,0)).2)).2)∧s.2.1+1≤(ex (j0 ts E5 (i7 ts (s.2.1+1,0)).2)).2.1:=by
 obtain ⟨h1,h2,h3,h4⟩:=hs
 obtain ⟨k1,k2⟩:=n9 hE h1 h
 have h4:=h4 k2
 obtain ⟨b1,b2,b3⟩:=w9 hE (p:=(s.2.1+1,0)) k1
 obtain ⟨c1,c2,c3⟩:=j7 (s:=E5) hE b1
 generalize (i7 ts (s.2.1+1,0)).1=w at *
 generalize (i7 ts (s.2.1+1,0)).2=q at *
 generalize j0 ts E5 q=r at *
 have hb:=hf r c1
 have l1:=hb.lo
 have l2:=hb.sz
 have l3:=hb.hi
 have l4:=hb.ok
 simp only at b2 b3
 unfold SzF
 rw [b2Y]
 simp only
 refine ⟨⟨l3,by omega,?_,fun h0=>?_⟩,by omega⟩
 ·by_cases h0:r.2=0
  ·have:=c3 h0
   have:=b3 this.1
   omega
  ·rw [he r h0]
   show fdN s.1+(1+0)+2 * p0≤2 * r.1+1
   omega
 ·have:=l4 h0
  have:=c3 this.1
  omega
theorem a47 {ts:List Tok} (hE:m8 ts) {ex:PF} (hf:B6 ts ex) (he:∀p:PE,p.2≠0→ex p=(zPL,p)) (p0:Nat):∀(k:Nat) (s:List Fd×PE),SzF ts p0 s→SzF ts p0 (J3 ts ex k s)∧((J3 ts ex k s).2.2=0→s.2.2=0)
 | 0,s,hs=>⟨hs,fun h=>h⟩
 | k+1,s,hs=>by
  rw [J3]
  split
  ·rename_i h
   exact ⟨(a47 hE hf he p0 k _ (b5J hE hf he hs h).1).1,fun _=>(n9 hE hs.1 h).2⟩
  ·exact ⟨hs,fun h=>h⟩
theorem c00 {ts:List Tok} (hE:m8 ts) {ex:PF} (hf:B6 ts ex) (he:∀p:PE,p.2≠0→ex p=(zPL,p)) (pl:Int) (w:ByteArray) {p:PE} (hp:p.1<ts.length):SzF ts p.1 ([(w,pl,(ex (j0 ts E5 p)).1)],(ex (j0 ts E5 p)).2)∧((ex (j0 ts E5 p)).2.2=0→p.2=0):=by
 obtain ⟨c1,c2,c3⟩:=j7 (s:=E5) hE hp
 generalize j0 ts E5 p=r at *
 have hb:=hf r c1
 have l1:=hb.lo
 have l2:=hb.sz
 have l3:=hb.hi
 have l4:=hb.ok
 unfold SzF
 rw [fdN,fdN]
 simp only
 refine ⟨⟨l3,by omega,?_,fun h0=>?_⟩,fun h0=>(c3 (l4 h0).1).1⟩
 ·by_cases h0:r.2=0
  ·have:=c3 h0
   omega
  ·rw [he r h0]
   show 1+0+0+2 * p.1≤2 * r.1+1
   omega
 ·have:=l4 h0
  have:=c3 this.1
  omega
theorem b3a {ts:List Tok} (hE:m8 ts) {ex:PF} (hf:B6 ts ex) (he:∀p:PE,p.2≠0→ex p=(zPL,p)) (pl:Int) (w:ByteArray) {p:PE} (hp:p.1<ts.length):FitP ts p (Z2 ts ex pl w p):=by
 obtain ⟨a1,a2⟩:=c00 hE hf he pl w hp
 have hB:=a47 hE hf he p.1 ts.length _ a1
 obtain ⟨s,hs⟩:∃s,s=J3 ts ex ts.length ([(w,pl,(ex (j0 ts E5 p)).1)],(ex (j0 ts E5 p)).2):=⟨_,rfl⟩
 have e:Z2 ts ex pl w p=(fdW (L6 ts ex s.2).1 s.1,j0 ts Z1 (L6 ts ex s.2).2):=by rw [hs];rfl
 rw [←hs] at hB
 rw [e]
 obtain ⟨⟨b1,b2,b3,b4⟩,b5⟩:=hB
 unfold L6
 split
 ·rename_i h
  obtain ⟨k1,k2⟩:=n9 hE b1 h
  have hb:=hf (s.2.1+1,0) k1
  have l1:=hb.lo
  have l2:=hb.sz
  have l3:=hb.hi
  have l4:=hb.ok
  simp only at l1 l2 l4
  obtain ⟨c1,c2,c3⟩:=j7 (s:=Z1) hE l3
  have b4:=b4 k2
  refine ⟨by simp only;omega,c1,by simp only;rw [a3I];omega,fun h0=>⟨a2 (b5 k2),?_⟩⟩
  simp only at h0 ⊢
  rw [a3I]
  obtain ⟨d1,d2⟩:=c3 h0
  have:=(l4 d1).2
  omega
 ·obtain ⟨c1,c2,c3⟩:=j7 (s:=Z1) hE b1
  refine ⟨by simp only;omega,c1,by simp only;rw [a3I];show fdN s.1+1+2 * p.1≤_;omega,fun h0=>?_⟩
  simp only at h0 ⊢
  obtain ⟨d1,d2⟩:=c3 h0
  have:=b4 d1
  rw [a3I]
  exact ⟨a2 (b5 d1),by show fdN s.1+1+2 * p.1+1≤_;omega⟩
def c3J (ts:List Tok) (ex:PF) (p0:Nat) (rr:List Fd×PE) (s:ST) (R:List (List D)) (m:Nat):Prop:=∃(l:List Fd) (p:PE) (k:Nat),s=U8 ts p∧R=l.map cFd∧SzF ts p0 (l,p)∧l.length≤p.1+1∧(p.2=0→ts.length - p.1≤k)∧m=ts.length - p.1∧rr=J3 ts ex k (l,p)
theorem b5K:∀l:List Fd,l.length≤fdN l
 | []=>c9c _
 | f::l=>by rw [fdN,c9a];have:=b5K l;omega
abbrev a8S (x:PL) (l:List Fd) (k:Nat):PL:=fdW x (l.drop (l.length - k))
theorem b0r {x:PL} {l:List Fd} {k:Nat} {f:Fd} (hk:k<l.length) (hf:l[l.length - 1 - k]?=some f):a8S x l (k+1)=C0 42 f.1 ⟨#[]⟩ 0 false s8 f.2.1 [f.2.2,a8S x l k]:=by
 have h1:l.length - (k+1)<l.length:=by omega
 have e1:l.length - 1 - k=l.length - (k+1):=by omega
 rw [e1,c8T h1] at hf
 have hd:l.drop (l.length - (k+1))=f::l.drop (l.length - k):=by
  rw [c98 h1,Option.some.inj hf,show l.length - (k+1)+1=l.length - k by omega]
 unfold a8S
 rw [hd,fdW]
theorem c01 {ts:List Tok} (hE:m8 ts) (hl:ts.length≤65537) {L:Int} (hL1:0≤L) (hL2:L≤1048576) {ex:PF} (hf:B6 ts ex) (he:∀p:PE,p.2≠0→ex p=(zPL,p)) (hx:∀p:PE,p.1<ts.length→G9 37 [vi .i64 (L+1)] ts p [.ag (y5 (cP (ex p).1))] (ex p).2) (pl:Int) (w:ByteArray) {p:PE} (hp:p.1<ts.length) :
  G9 153 [vi .i64 L,vi .i64 pl,vs w] ts p [.ag (y5 (cP (Z2 ts ex pl w p).1))] (Z2 ts ex pl w p).2:=by
 have hl2:ts.length≤1048576:=by omega
 obtain ⟨a1,a2⟩:=c00 hE hf he pl w hp
 have hB:=(a47 hE hf he p.1 ts.length _ a1).1
 obtain ⟨s,hs⟩:∃s,s=J3 ts ex ts.length ([(w,pl,(ex (j0 ts E5 p)).1)],(ex (j0 ts E5 p)).2):=⟨_,rfl⟩
 have e:Z2 ts ex pl w p=(fdW (L6 ts ex s.2).1 s.1,j0 ts Z1 (L6 ts ex s.2).2):=by rw [hs];rfl
 rw [←hs] at hB
 rw [e]
 obtain ⟨b1,b2,b3,b4⟩:=hB
 have h0:=I5 hl2 hp E5
 obtain ⟨c1,_,_⟩:=j7 (s:=E5) hE hp
 have h1:=hx _ c1
 obtain ⟨x,hxx⟩:=A8 (ex (j0 ts E5 p)).1
 obtain ⟨acc,hacc⟩:∃acc:Nat→Nat→D,∀k,cP (a8S (L6 ts ex s.2).1 s.1 k)=cE (acc k):=⟨fun k=>(A8 _).choose,fun k=>(A8 _).choose_spec⟩
 have hz0:a8S (L6 ts ex s.2).1 s.1 0=(L6 ts ex s.2).1:=by
  unfold a8S
  rw [c9R (by omega),fdW]
 have hlast:fdW (L6 ts ex s.2).1 s.1=a8S (L6 ts ex s.2).1 s.1 s.1.length:=by
  unfold a8S
  rw [d0h,d07]
 have hbl:(L6 ts ex s.2).1.2.length≤2 * ts.length+2:=by
  unfold L6
  split
  ·rename_i h
   have hb:=hf (s.2.1+1,0) (n9 hE b1 h).1
   have i1:=hb.sz
   have i2:=hb.hi
   omega
  ·show 1≤_
   omega
 have hi0:c3J ts ex p.1 s (U8 ts (ex (j0 ts E5 p)).2) [c13 w pl x] (ts.length - (ex (j0 ts E5 p)).2.1):=⟨[(w,pl,(ex (j0 ts E5 p)).1)],(ex (j0 ts E5 p)).2,ts.length,rfl,by rw [c9m,c9O];unfold cFd;rw [hxx],a1,by simp,fun _=>by omega,rfl,hs⟩
 unfold G9 at h0 h1 ⊢
 rw [hlast,hacc]
 rw [hxx] at h1
 have hlen:(s.1.map cFd).length=s.1.length:=c9r ..
 have hsl:=b5K s.1
 have key:=b7l (T:=H8 ts) (L:=L) (pl:=pl) (sf:=U8 ts (j0 ts Z1 (L6 ts ex s.2).2)) (Rf:=s.1.map cFd) acc (by rw [hlen];omega) hL1 hL2 (c3J ts ex p.1 s) h0 h1 hi0 (fun e1 q1 a1' R m hinv=>by
  obtain ⟨l,p',k,hst,hR,hsz,hlen2,hk,hm,hr⟩:=hinv
  have hp':p'.1<ts.length:=hsz.1
  refine ⟨by rw [hR,c9r];omega,?_⟩
  have hsk:=Y9 hl2 hp' Q6
  unfold G9 at hsk
  rw [←hst] at hsk
  by_cases hc:B3 ts Q6 p'=true
  ·obtain ⟨k1,k2⟩:=n9 hE hp' hc
   rw [hc,show skP ts Q6 p'=(p'.1+1,0) by unfold skP;rw [c8Y hc]] at hsk
   obtain ⟨d1,d2⟩:=b5J hE hf he hsz hc
   have k3:=a4c hl2 (p:=(p'.1+1,0)) k1
   have k4:=a0L hl2 (p:=(p'.1+1,0)) k1
   obtain ⟨f1,_,_⟩:=w9 hE (p:=(p'.1+1,0)) k1
   have k5:=I5 hl2 f1 E5
   obtain ⟨g1,_,_⟩:=j7 (s:=E5) hE f1
   have k6:=hx _ g1
   obtain ⟨y,hy⟩:=A8 (ex (j0 ts E5 (i7 ts (p'.1+1,0)).2)).1
   unfold G9 at k3 k4 k5 k6
   rw [hy] at k6
   have hkk:=hk k2
   match k,hkk,hr with
   | 0,hkk,_=>omega
   | k+1,hkk,hr =>
    rw [J3,c8Y hc] at hr
    refine .inl ⟨_,_,_,_,_,_,y,ts.length - (ex (j0 ts E5 (i7 ts (p'.1+1,0)).2)).2.1,hsk,k3,k4,k5,k6,⟨_,_,k,rfl,?_,d1,?_,fun _=>?_,rfl,hr⟩,?_⟩
    ·rw [hR,c9Y,c9m,c9O]
     unfold cFd
     rw [hy]
    ·simp only [c8U,c9a,c9n]
     simp only at d2
     omega
    ·simp only at d2
     omega
    ·simp only at d2
     omega
  ·replace hc:B3 ts Q6 p'=false:=by simpa using hc
   rw [hc,show skP ts Q6 p'=p' by unfold skP;rw [hc];rfl,←hst] at hsk
   have hr2:s=(l,p'):=by rw [hr];exact a8R hc k
   have hs2:s.2=p':=by rw [hr2]
   have k3:=a4c hl2 hp'
   obtain ⟨z0,hz⟩:=A8 (a1u 41 ⟨#[]⟩ 0 (l9 ts p'.1).at_)
   have k4:=b4f 41 ⟨#[]⟩ 0 (l9 ts p'.1).at_
   rw [hz] at k4
   have k5:=Y9 hl2 hp' N1
   unfold G9 at k3 k5
   rw [←hst] at k3 k5
   have ha0:=hacc 0
   rw [hz0,hs2] at ha0
   refine .inr ⟨?_,by rw [hR,hr2]⟩
   rw [hs2]
   unfold L6 at ha0 ⊢
   by_cases hb:B3 ts N1 p'=true
   ·obtain ⟨k1,k2⟩:=n9 hE hp' hb
    rw [c8Y hb] at ha0 ⊢
    rw [hb,show skP ts N1 p'=(p'.1+1,0) by unfold skP;rw [c8Y hb]] at k5
    have k6:=hx (p'.1+1,0) k1
    unfold G9 at k6
    rw [ha0] at k6
    have k7:=I5 hl2 (hf (p'.1+1,0) k1).hi Z1
    exact ⟨_,_,z0,hsk,k3,k4,.inr ⟨_,k5,k6⟩,k7⟩
   ·replace hb:B3 ts N1 p'=false:=by simpa using hb
    rw [c8W (by rw [hb];decide)] at ha0 ⊢
    rw [hb,show skP ts N1 p'=p' by unfold skP;rw [hb];rfl,←hst] at k5
    have k7:=I5 hl2 hp' Z1
    unfold G9 at k7
    rw [←hst] at k7
    rw [ha0] at hz
    exact ⟨_,_,acc 0,hsk,k3,by rw [←hz] at k4;exact k4,.inl ⟨k5,rfl,rfl⟩,k7⟩) (fun k hk=>by
  rw [hlen] at hk ⊢
  obtain ⟨f,hfd⟩:∃f,s.1[s.1.length - 1 - k]?=some f:=⟨_,c8T (by omega)⟩
  obtain ⟨y,hy⟩:=A8 f.2.2
  refine ⟨f.1,f.2.1,y,by rw [c9v,hfd];unfold cFd;rw [d0b,hy],?_⟩
  have ho:=a1v 42 f.1 ⟨#[]⟩ 0 false f.2.1 [f.2.2,a8S (L6 ts ex s.2).1 s.1 k] (by simp) (by
   have e1:=b0r (x:=(L6 ts ex s.2).1) hk hfd
   have e2:(a8S (L6 ts ex s.2).1 s.1 (k+1)).2.length=_:=a3I _
   rw [e1] at e2
   unfold C0 at e2
   simp only [c9a] at e2
   have:=b2Z s.1 (s.1.length - (k+1))
   omega)
  rw [←b0r hk hfd,hacc,show rP [f.2.2,a8S (L6 ts ex s.2).1 s.1 k]=[cE y,cE (acc k)] by unfold rP;rw [c9m,c9m,c9O,hacc,hy]] at ho
  exact ho)
 rw [hlen] at key
 exact key
section
abbrev cO (o:Int) (x:Nat→D):List D:=[.sc (.int .u8 o),x 1,x 2,x 3,x 4,x 5,x 6,x 7,x 8,x 9,x 10]
abbrev a28:ByteArray:=⟨#[111,102]⟩
abbrev Z3:ByteArray:=⟨#[101,110,100]⟩
abbrev b0s:ByteArray:=⟨#[59]⟩
abbrev c50 (pl:Int) (z:Nat→D) (R:List (List D)):Prop:=OvN 48 ⟨#[]⟩ ⟨#[]⟩ 0 false pl R z
def c8u (T:List (List D)) (L pl:Int) (sf:ST) (z:Nat→D) (inv:ST→List (List D)→Bool→Nat→Prop) (e q a:Int) (R:List (List D)) (b:Bool) (m:Nat):Prop:=A7 38 [] T (e,q,a) [vb true] (e,q,a)∧IsN T a Z3 false∧∃(s3 s4:ST) (o:Int) (y:Nat→D),(b=true∧s3=(e,q,a)∨b=false∧A7 64 [vs b0s] T (e,q,a) [] s3)∧A7 154 [vi .i64 L] T s3 [.ag (y5 (cO o y))] s4 ∧
 ((o≠50∧∃m2,inv s4 (R++[cO o y]) false m2∧m2<m)∨(o=50∧A7 64 [vs Z3] T s4 [] sf∧c50 pl z (R++[cO o y])))
def c7s (T:List (List D)) (pl:Int) (sf:ST) (z:Nat→D) (e q a:Int) (R:List (List D)):Prop:=(A7 38 [] T (e,q,a) [vb false] (e,q,a)∨A7 38 [] T (e,q,a) [vb true] (e,q,a)∧IsN T a Z3 true)∧A7 64 [vs Z3] T (e,q,a) [] sf∧c50 pl z R
section
variable {T:List (List D)} {L pl:Int}
theorem b7n {s0 s1 s2 sf:ST} {x z:Nat→D} {m0:Nat} (hL1:0≤L) (hL2:L≤1048576) (inv:ST→List (List D)→Bool→Nat→Prop) (h0:A7 37 [vi .i64 (L+1)] T s0 [.ag (y5 (cE x))] s1) (h1:A7 64 [vs a28] T s1 [] s2) (hi0:inv s2 [cE x] true m0)
  (hst:∀(e q a:Int) (R:List (List D)) (b:Bool) (m:Nat),inv (e,q,a) R b m→R.length<1048576∧(c8u T L pl sf z inv e q a R b m∨c7s T pl sf z e q a R)) :
  A7 142 [vi .i64 L,vi .i64 pl] T s0 [.ag (y5 (cE z))] sf:=by
 obtain ⟨_,_,_⟩:=s0
 obtain ⟨_,_,_⟩:=s1
 obtain ⟨a2,b2,d2⟩:=s2
 obtain ⟨_,_,_⟩:=sf
 obtain ⟨L1,hL⟩:∃L1,L1=L+1:=⟨_,rfl⟩
 rw [←hL] at h0
 refine N9 Try.func142 rfl ?_;intro qa qb _ _ _ _ _ _ _ qk _ _ _ _ _ _ _ _ _ _ _ _ _ _ _ ve;intros;rename_i hA
 obtain ⟨e1,e2,e3,e4,e5,e6,e7,e8,e9⟩:=m6 hA
 obtain ⟨r1,r2,r3,r4⟩:=C7 hA
 have qL:qa .i64 (qb L 1)=L1:=by rw [e1,e2,IntWalk.i64_in _ (by omega)];exact hL.symm
 have q50:qk 50 50=true:=by rw [e9];rfl
 iterate 2 (try cbv;repeat ((first|with_reducible apply f8 hA|rw [qL]|refine v7 hA [0,1] h0 ?_|refine v7 hA [0,1] h1 ?_|refine C2 hA false ?_|refine a2x hA true ?_);cbv))
 try simp (maxSteps:=4000000) only [nc] at *
 refine o7 hA (γ:=ST×List (List D)×Bool×Nat) (fun x=>[(7,.own 3),(8,vb x.2.2.1),(9,.jk),(14,.jk)]) (fun x=>[(0,.box [.ptr 1 0,vi .u8 x.1.1,vi .i64 x.1.2.1]),(1,.box [.d (.sl 4 T),vi .i64 x.1.2.2]),(3,.row true 85 x.2.1)]) (fun x=>inv x.1 x.2.1 x.2.2.1 x.2.2.2) (fun x=>x.2.2.2) ((a2,b2,d2),[cE x],true,m0) ?_ ?_ ?_
 ·exact hi0
 ·cbv
 ·intro x hinv
  obtain ⟨⟨e,q,a⟩,R,b,m⟩:=x
  obtain ⟨hlen,hs⟩:=hst e q a R b m hinv
  rcases hs with ⟨hok,his,s3,s4,o,y2,hw,hp,hrest⟩|⟨he,hw,ho⟩
  ·obtain ⟨_,_,_⟩:=s3
   obtain ⟨a4,b4,d4⟩:=s4
   have g3:ve R [cO o y2]=R++[cO o y2]:=by rw [r4]
   obtain ⟨R2,hR2⟩:∃R2,R2=R++[cO o y2]:=⟨_,rfl⟩
   rw [←hR2] at g3 hrest
   rcases hrest with ⟨hne,m2,hi2,hm2⟩|⟨rfl,hwe,ho⟩
   ·have qn:qk o 50=false:=by rw [e9];exact c9d hne
    rcases hw with ⟨rfl,hse⟩|⟨rfl,hw⟩
    ·injection hse with f1 f2
     injection f2 with f2 f3
     subst f1 f2 f3
     iterate 2 (try cbv;repeat ((first|with_reducible apply f8 hA|rw [g3]|rw [qn]|refine v7 hA [0,1] hok ?_|refine rdx hA [1] his ?_|refine v7 hA [0,1] hp ?_|refine C2 hA true ?_|(refine E2 hA (by simp only [c9a,c9n];omega) ?_));cbv))
     try simp (maxSteps:=4000000) only [nc] at *
     refine ⟨((a4,b4,d4),R2,false,m2),hi2,hm2,?_⟩
     cbv
    ·iterate 2 (try cbv;repeat ((first|with_reducible apply f8 hA|rw [g3]|rw [qn]|refine v7 hA [0,1] hok ?_|refine rdx hA [1] his ?_|refine v7 hA [0,1] hw ?_|refine v7 hA [0,1] hp ?_|refine C2 hA true ?_|(refine E2 hA (by simp only [c9a,c9n];omega) ?_));cbv))
     try simp (maxSteps:=4000000) only [nc] at *
     refine ⟨((a4,b4,d4),R2,false,m2),hi2,hm2,?_⟩
     cbv
   ·rcases hw with ⟨rfl,hse⟩|⟨rfl,hw⟩
    ·injection hse with f1 f2
     injection f2 with f2 f3
     subst f1 f2 f3
     iterate 2 (try cbv;repeat ((first|refine a2c hA 7 3 (.sl 11 R2) rfl rfl ?_|with_reducible apply f8 hA|rw [g3]|rw [q50]|refine v7 hA [0,1] hok ?_|refine rdx hA [1] his ?_|refine v7 hA [0,1] hp ?_|refine v7 hA [0,1] hwe ?_|refine C2 hA true ?_|(refine E2 hA (by simp only [c9a,c9n];omega) ?_)|refine rdx hA [] ho ?_);cbv))
     try simp (maxSteps:=4000000) only [nc] at *
     exact j9 hA [0,1] ⟨rfl,rfl,rfl,rfl,rfl,rfl,rfl,rfl⟩ ⟨rfl,rfl⟩
    ·iterate 2 (try cbv;repeat ((first|refine a2c hA 7 3 (.sl 11 R2) rfl rfl ?_|with_reducible apply f8 hA|rw [g3]|rw [q50]|refine v7 hA [0,1] hok ?_|refine rdx hA [1] his ?_|refine v7 hA [0,1] hw ?_|refine v7 hA [0,1] hp ?_|refine v7 hA [0,1] hwe ?_|refine C2 hA true ?_|(refine E2 hA (by simp only [c9a,c9n];omega) ?_)|refine rdx hA [] ho ?_);cbv))
     try simp (maxSteps:=4000000) only [nc] at *
     exact j9 hA [0,1] ⟨rfl,rfl,rfl,rfl,rfl,rfl,rfl,rfl⟩ ⟨rfl,rfl⟩
  ·rcases he with hok|⟨hok,his⟩
   ·iterate 2 (try cbv;repeat ((first|refine a2c hA 7 3 (.sl 11 R) rfl rfl ?_|with_reducible apply f8 hA|refine v7 hA [0,1] hok ?_|refine v7 hA [0,1] hw ?_|refine rdx hA [] ho ?_);cbv))
    try simp (maxSteps:=4000000) only [nc] at *
    exact j9 hA [0,1] ⟨rfl,rfl,rfl,rfl,rfl,rfl,rfl,rfl⟩ ⟨rfl,rfl⟩
   ·iterate 2 (try cbv;repeat ((first|refine a2c hA 7 3 (.sl 11 R) rfl rfl ?_|with_reducible apply f8 hA|refine v7 hA [0,1] hok ?_|refine rdx hA [1] his ?_|refine v7 hA [0,1] hw ?_|refine rdx hA [] ho ?_);cbv))
    try simp (maxSteps:=4000000) only [nc] at *
    exact j9 hA [0,1] ⟨rfl,rfl,rfl,rfl,rfl,rfl,rfl,rfl⟩ ⟨rfl,rfl⟩
end
end
abbrev U7:ByteArray:=⟨#[101,108,115,101]⟩
def a0X (ts:List Tok) (ex:PF) (p:PE):PL×PE :=
 if B3 ts U7 p=true then (y7 50 ⟨#[]⟩ (i7 ts (p.1+1,0)).1 (l9 ts p.1).at_ [(ex (j0 ts a1z (i7 ts (p.1+1,0)).2)).1],(ex (j0 ts a1z (i7 ts (p.1+1,0)).2)).2)
 else (y7 49 (i7 ts p).1 (i7 ts (i7 ts p).2).1 (l9 ts p.1).at_ [(ex (j0 ts a1z (i7 ts (i7 ts p).2).2)).1],(ex (j0 ts a1z (i7 ts (i7 ts p).2).2)).2)
theorem c7t {ts:List Tok} (hE:m8 ts) {ex:PF} (hf:B6 ts ex) (he:∀p:PE,p.2≠0→ex p=(zPL,p)) {p:PE} (hp:p.1<ts.length):FitP ts p (a0X ts ex p):=by
 have key:∀(q:PE) (op:Int) (nm ar:ByteArray) (a:Int),q.1<ts.length→p.1≤q.1→(q.2=0→p.2=0∧p.1+1≤q.1)→FitP ts p (y7 op nm ar a [(ex q).1],(ex q).2):=fun q op nm ar a h1 h2 h3=>by
  have hb:=hf q h1
  have l1:=hb.lo
  have l2:=hb.sz
  have l4:=hb.ok
  unfold y7 C0
  refine ⟨by simp only;omega,hb.hi,?_,fun h0=>?_⟩
  ·simp only [c9q,c9y,c9i,c9a]
   by_cases h0:q.2=0
   ·have:=(h3 h0).2
    omega
   ·rw [he q h0]
    show 0+1+2 * p.1≤2 * q.1+2
    omega
  ·obtain ⟨d1,d2⟩:=l4 h0
   obtain ⟨d3,d4⟩:=h3 d1
   simp only [c9q,c9y,c9i,c9a]
   exact ⟨d3,by omega⟩
 unfold a0X
 split
 ·rename_i h
  obtain ⟨k1,k2⟩:=n9 hE hp h
  obtain ⟨b1,b2,b3⟩:=w9 hE (p:=(p.1+1,0)) k1
  obtain ⟨c1,c2,c3⟩:=j7 (s:=a1z) hE b1
  simp only at b2 b3
  exact key _ _ _ _ _ c1 (by omega) fun h0=>⟨k2,by omega⟩
 ·obtain ⟨a1,a2,a3⟩:=w9 hE hp
  obtain ⟨b1,b2,b3⟩:=w9 hE a1
  obtain ⟨c1,c2,c3⟩:=j7 (s:=a1z) hE b1
  exact key _ _ _ _ _ c1 (by omega) fun h0=>⟨(a3 (b3 (c3 h0).1).1).1,by have:=(c3 h0).2;omega⟩
theorem c7u {ts:List Tok} (hE:m8 ts) (hl:ts.length≤65537) {L:Int} (hL1:0≤L) (hL2:L≤1048576) {ex:PF} (hf:B6 ts ex) (hx:∀p:PE,p.1<ts.length→G9 37 [vi .i64 (L+1)] ts p [.ag (y5 (cP (ex p).1))] (ex p).2) {p:PE} (hp:p.1<ts.length) :
  G9 154 [vi .i64 L] ts p [.ag (y5 (cP (a0X ts ex p).1))] (a0X ts ex p).2:=by
 have hl2:ts.length≤1048576:=by omega
 have h0:=a4c hl2 hp
 have h1:=Y9 hl2 hp U7
 have hov:∀(op:Int) (nm ar:ByteArray) (a:Int) (q:PE),q.1<ts.length→∃(x z:Nat→D),cP (ex q).1=cE x∧cP (y7 op nm ar a [(ex q).1])=cE z∧OvN op nm ar 0 false a [cE x] z:=fun op nm ar a q hq=>by
  obtain ⟨x,hx1⟩:=A8 (ex q).1
  obtain ⟨z,hz⟩:=A8 (y7 op nm ar a [(ex q).1])
  have hb:=hf q hq
  have i1:=hb.sz
  have i2:=hb.hi
  have ho:=a1v op nm ar 0 false a [(ex q).1] (by simp) (by simp only [c9q,c9y,c9i];omega)
  rw [show rP [(ex q).1]=[cE x] by unfold rP;rw [c9m,c9O,hx1]] at ho
  rw [show cP (C0 op nm ar 0 false s8 a [(ex q).1])=cE z from hz] at ho
  exact ⟨x,z,hx1,hz,ho⟩
 unfold a0X
 by_cases h:B3 ts U7 p=true
 ·rw [c8Y h]
  obtain ⟨k1,k2⟩:=n9 hE hp h
  rw [h,show skP ts U7 p=(p.1+1,0) by unfold skP;rw [c8Y h]] at h1
  obtain ⟨b1,_,_⟩:=w9 hE (p:=(p.1+1,0)) k1
  obtain ⟨c1,_,_⟩:=j7 (s:=a1z) hE b1
  have h2:=a0L hl2 (p:=(p.1+1,0)) k1
  have h3:=I5 hl2 b1 a1z
  have h4:=hx _ c1
  obtain ⟨x,z,e1,e2,ho⟩:=hov 50 ⟨#[]⟩ (i7 ts (p.1+1,0)).1 (l9 ts p.1).at_ _ c1
  rw [e1] at h4
  simp only
  rw [e2]
  exact b9O ho hL1 hL2 h0 h1 h2 h3 h4
 ·rw [c8W h]
  replace h:B3 ts U7 p=false:=by simpa using h
  rw [h,show skP ts U7 p=p by unfold skP;rw [h];rfl] at h1
  obtain ⟨a1,_,_⟩:=w9 hE hp
  obtain ⟨b1,_,_⟩:=w9 hE a1
  obtain ⟨c1,_,_⟩:=j7 (s:=a1z) hE b1
  have h2:=a0L hl2 hp
  have h3:=a0L hl2 a1
  have h4:=I5 hl2 b1 a1z
  have h5:=hx _ c1
  obtain ⟨x,z,e1,e2,ho⟩:=hov 49 (i7 ts p).1 (i7 ts (i7 ts p).2).1 (l9 ts p.1).at_ _ c1
  rw [e1] at h5
  simp only
  rw [e2]
  exact b9P ho hL1 hL2 h0 h1 h2 h3 h4 h5
theorem c2H (ts:List Tok) (ex:PF) (q:PE):∃y,cP (a0X ts ex q).1=cO (if B3 ts U7 q=true then 50 else 49) y:=by
 have key:∀(op:Int) (nm ar:ByteArray) (a:Int) (ks:List PL),∃y,cP (y7 op nm ar a ks)=cO op y:=fun op nm ar a ks=>by
  obtain ⟨x,hx⟩:=A8 (y7 op nm ar a ks)
  have h0:(cP (y7 op nm ar a ks)).head?=some (.sc (.int .u8 op)):=by
   unfold cP y7 C0
   rw [cM]
   rfl
  rw [hx] at h0
  have h0:x 0=.sc (.int .u8 op):=Option.some.inj h0
  exact ⟨x,by rw [hx];show x 0::_=_;rw [h0]⟩
 unfold a0X
 split
 ·exact key _ _ _ _ _
 ·exact key _ _ _ _ _
def chQ (ts:List Tok) (f:Bool) (p:PE):PE:=if f=true then p else j0 ts b0s p
def chL (ts:List Tok) (ex:PF):Nat→Bool→List PL×PE→List PL×PE
 | 0,_,s=>s
 | k+1,f,s=>if s.2.2=0∧Z7 (l9 ts s.2.1) Z3=false then
   if B3 ts U7 (chQ ts f s.2)=true then (s.1++[(a0X ts ex (chQ ts f s.2)).1],(a0X ts ex (chQ ts f s.2)).2)
   else chL ts ex k false (s.1++[(a0X ts ex (chQ ts f s.2)).1],(a0X ts ex (chQ ts f s.2)).2)
  else s
theorem c02 {ts:List Tok} {ex:PF} {f:Bool} {s:List PL×PE} (h:¬(s.2.2=0∧Z7 (l9 ts s.2.1) Z3=false)):∀k,chL ts ex k f s=s
 | 0=>rfl
 | k+1=>by rw [chL,c8W h]
def Q7 (ts:List Tok) (ex:PF) (pl:Int) (p:PE):PL×PE:=(y7 48 ⟨#[]⟩ ⟨#[]⟩ pl (chL ts ex ts.length true ([(ex p).1],j0 ts a28 (ex p).2)).1,j0 ts Z3 (chL ts ex ts.length true ([(ex p).1],j0 ts a28 (ex p).2)).2)
abbrev chN (l:List PL):Nat:=(l.flatMap fun p=>p.2).length
theorem b3b (l:List PL) (x:PL):chN (l++[x])=chN l+x.2.length:=by
 unfold chN
 rw [d1m,c8U]
 simp
structure SzC (ts:List Tok) (p0:Nat) (s:List PL×PE):Prop where
 hi:s.2.1<ts.length
 lo:p0≤s.2.1
 sz:chN s.1+2 * p0≤2 * s.2.1+2
 ln:s.1.length≤s.2.1+1
 ok:s.2.2=0→chN s.1+2 * p0+3≤2 * s.2.1∧s.1.length≤s.2.1
theorem b5L {ts:List Tok} (hE:m8 ts) {ex:PF} (hf:B6 ts ex) (he:∀p:PE,p.2≠0→ex p=(zPL,p)) {p0:Nat} {f:Bool} {s:List PL×PE} (hs:SzC ts p0 s) (h0:s.2.2=0):(chQ ts f s.2).1<ts.length∧SzC ts p0 (s.1++[(a0X ts ex (chQ ts f s.2)).1],(a0X ts ex (chQ ts f s.2)).2)∧s.2.1≤(a0X ts ex (chQ ts f s.2)).2.1∧((a0X ts ex (chQ ts f s.2)).2.2=0→s.2.1+1≤(a0X ts ex (chQ ts f s.2)).2.1):=by
 have hq:(chQ ts f s.2).1<ts.length∧s.2.1≤(chQ ts f s.2).1:=by
  unfold chQ
  cases f with
  | true=>exact ⟨hs.hi,c9c _⟩
  | false =>
   obtain ⟨c1,c2,c3⟩:=j7 (s:=b0s) hE hs.hi
   exact ⟨c1,c2⟩
 generalize chQ ts f s.2=q at *
 have ha:=c7t hE hf he hq.1
 obtain ⟨o1,o2⟩:=hs.ok h0
 have l1:=ha.lo
 have l2:=ha.sz
 have l4:=ha.ok
 have s1:=hs.lo
 refine ⟨hq.1,⟨ha.hi,by simp only;omega,by simp only;rw [b3b];omega,by simp only [c8U,c9a,c9n];omega,fun h=>?_⟩,by omega,fun h=>by have:=(l4 h).2;omega⟩
 have:=(l4 h).2
 simp only
 rw [b3b]
 simp only [c8U,c9a,c9n]
 omega
theorem b1v {ts:List Tok} (hE:m8 ts) {ex:PF} (hf:B6 ts ex) (he:∀p:PE,p.2≠0→ex p=(zPL,p)) (p0:Nat):∀(k:Nat) (f:Bool) (s:List PL×PE),SzC ts p0 s→SzC ts p0 (chL ts ex k f s)∧((chL ts ex k f s).2.2=0→s.2.2=0)
 | 0,f,s,hs=>⟨hs,fun h=>h⟩
 | k+1,f,s,hs=>by
  rw [chL]
  split
  ·rename_i h
   have hst:=(b5L (f:=f) hE hf he hs h.1).2.1
   split
   ·exact ⟨hst,fun _=>h.1⟩
   ·exact ⟨(b1v hE hf he p0 k false _ hst).1,fun _=>h.1⟩
  ·exact ⟨hs,fun h=>h⟩
theorem b4l {ts:List Tok} (hE:m8 ts) {ex:PF} (hf:B6 ts ex) {p:PE} (hp:p.1<ts.length):SzC ts p.1 ([(ex p).1],j0 ts a28 (ex p).2)∧((j0 ts a28 (ex p).2).2=0→p.2=0):=by
 have hb:=hf p hp
 obtain ⟨c1,c2,c3⟩:=j7 (s:=a28) hE hb.hi
 have l1:=hb.lo
 have l2:=hb.sz
 have l4:=hb.ok
 refine ⟨⟨c1,by simp only;omega,?_,by simp,fun h=>?_⟩,fun h=>(l4 (c3 h).1).1⟩
 ·simp only [chN,c9q,c9y,c9i]
  omega
 ·obtain ⟨d1,d2⟩:=c3 h
  have:=(l4 d1).2
  simp only [chN,c9q,c9y,c9i,c9a,c9n]
  omega
theorem c2J {ts:List Tok} (hE:m8 ts) {ex:PF} (hf:B6 ts ex) (he:∀p:PE,p.2≠0→ex p=(zPL,p)) (pl:Int) {a:Nat} (hp:a+1<ts.length):FitP ts (a,0) (Q7 ts ex pl (a+1,0)):=by
 obtain ⟨a1,a2⟩:=b4l hE hf (p:=(a+1,0)) hp
 have hB:=(b1v hE hf he (a+1) ts.length true _ a1).1
 unfold Q7
 generalize chL ts ex ts.length true ([(ex (a+1,0)).1],j0 ts a28 (ex (a+1,0)).2)=s at *
 obtain ⟨c1,c2,c3⟩:=j7 (s:=Z3) hE hB.hi
 have l1:=hB.lo
 have l2:=hB.sz
 have l4:=hB.ok
 have e:(y7 48 ⟨#[]⟩ ⟨#[]⟩ pl s.1).2.length=chN s.1+1:=rfl
 refine ⟨by simp only;omega,c1,by simp only;omega,fun h=>⟨rfl,?_⟩⟩
 obtain ⟨d1,d2⟩:=c3 h
 have:=(l4 d1).1
 simp only
 omega
def c3K (ts:List Tok) (ex:PF) (p0:Nat) (rr:List PL×PE) (s:ST) (R:List (List D)) (b:Bool) (m:Nat):Prop:=∃(l:List PL) (p:PE) (k:Nat),s=U8 ts p∧R=rP l∧SzC ts p0 (l,p)∧(p.2=0→ts.length - p.1≤k)∧m=2 * (ts.length - p.1)+(if p.2=0 then 1 else 0)∧rr=chL ts ex k b (l,p)
theorem c2K (l:List PL) (x:PL):rP (l++[x])=rP l++[cP x]:=by unfold rP;rw [c9Y];rfl
theorem c03 {ts:List Tok} (hE:m8 ts) (hl:ts.length≤65537) {L:Int} (hL1:0≤L) (hL2:L≤1048576) {ex:PF} (hf:B6 ts ex) (he:∀p:PE,p.2≠0→ex p=(zPL,p)) (hx:∀p:PE,p.1<ts.length→G9 37 [vi .i64 (L+1)] ts p [.ag (y5 (cP (ex p).1))] (ex p).2) (pl:Int) {p:PE} (hp:p.1<ts.length) :
  G9 142 [vi .i64 L,vi .i64 pl] ts p [.ag (y5 (cP (Q7 ts ex pl p).1))] (Q7 ts ex pl p).2:=by
 have hl2:ts.length≤1048576:=by omega
 obtain ⟨a1,a2⟩:=b4l hE hf hp
 have hB:=(b1v hE hf he p.1 ts.length true _ a1).1
 obtain ⟨rr,hrr⟩:∃rr,rr=chL ts ex ts.length true ([(ex p).1],j0 ts a28 (ex p).2):=⟨_,rfl⟩
 unfold Q7
 rw [←hrr] at hB ⊢
 obtain ⟨z,hz⟩:=A8 (y7 48 ⟨#[]⟩ ⟨#[]⟩ pl rr.1)
 obtain ⟨x,hxx⟩:=A8 (ex p).1
 have hb:=hf p hp
 have h0:=hx p hp
 have h1:=I5 hl2 hb.hi a28
 have j1:=hB.hi
 have j2:=hB.sz
 have j3:=hB.ln
 have hov:c50 pl z (rP rr.1):=by
  have h48:chN rr.1≤1048576:=by omega
  have ho:=a1v 48 ⟨#[]⟩ ⟨#[]⟩ 0 false pl rr.1 (by omega) h48
  rw [show cP (C0 48 ⟨#[]⟩ ⟨#[]⟩ 0 false s8 pl rr.1)=cE z from hz] at ho
  exact ho
 have hi0:c3K ts ex p.1 rr (U8 ts (j0 ts a28 (ex p).2)) [cE x] true (2 * (ts.length - (j0 ts a28 (ex p).2).1)+(if (j0 ts a28 (ex p).2).2=0 then 1 else 0)):=⟨[(ex p).1],_,ts.length,rfl,by unfold rP;rw [c9m,c9O,hxx],a1,fun _=>by omega,rfl,hrr⟩
 unfold G9 at h0 h1 ⊢
 simp only
 rw [hz]
 rw [hxx] at h0
 refine b7n hL1 hL2 (c3K ts ex p.1 rr) h0 h1 hi0 fun e1 q1 b1 R f m hinv=>?_
 obtain ⟨l,p',k,hst,hR,hsz,hk,hm,hr⟩:=hinv
 have hp':p'.1<ts.length:=hsz.hi
 have hln:l.length≤p'.1+1:=hsz.ln
 refine ⟨by rw [hR,b9u];omega,?_⟩
 have hok:=okP hl2 hp'
 have ha:b1=(p'.1:Int):=congrArg (fun s:ST=>s.2.2) hst
 have his:=c3D hl2 (a:=p'.1) hp' Z3
 rw [←ha] at his
 unfold G9 at hok
 rw [←hst] at hok
 by_cases hc:p'.2=0∧Z7 (l9 ts p'.1) Z3=false
 ·rw [hc.1] at hok
  rw [hc.2] at his
  obtain ⟨c1,c2,c3,c4⟩:=b5L (f:=f) (s:=(l,p')) hE hf he hsz hc.1
  obtain ⟨y,hy⟩:=c2H ts ex (chQ ts f p')
  have harm:=c7u hE hl hL1 hL2 hf hx c1
  have hkk:=hk hc.1
  have hq:f=true∧U8 ts (chQ ts f p')=(e1,q1,b1)∨f=false∧A7 64 [vs b0s] (H8 ts) (e1,q1,b1) [] (U8 ts (chQ ts f p')):=by
   cases f with
   | true=>exact .inl ⟨rfl,hst.symm⟩
   | false =>
    have hw:=I5 hl2 hp' b0s
    unfold G9 at hw
    rw [←hst] at hw
    exact .inr ⟨rfl,hw⟩
  unfold G9 at harm
  simp only at c2 c3 c4 harm
  rw [hy] at harm
  have hR2:R++[cO (if B3 ts U7 (chQ ts f p')=true then 50 else 49) y]=rP (l++[(a0X ts ex (chQ ts f p')).1]):=by rw [c2K,hR,hy]
  match k,hkk,hr with
  | 0,hkk,_=>omega
  | k+1,hkk,hr =>
   rw [chL,c8Y hc] at hr
   simp only at hr
   refine .inl ⟨hok,his,_,_,_,y,hq,harm,?_⟩
   rw [hR2]
   by_cases hel:B3 ts U7 (chQ ts f p')=true
   ·rw [c8Y hel] at hr ⊢
    have hw:=I5 hl2 (p:=(a0X ts ex (chQ ts f p')).2) c2.hi Z3
    refine .inr ⟨rfl,?_,by rw [hr] at hov;exact hov⟩
    rw [hr]
    exact hw
   ·rw [c8W hel] at hr ⊢
    refine .inl ⟨by decide,2 * (ts.length - (a0X ts ex (chQ ts f p')).2.1)+(if (a0X ts ex (chQ ts f p')).2.2=0 then 1 else 0),⟨_,_,k,rfl,rfl,c2,fun h=>by have:=c4 h;omega,rfl,hr⟩,?_⟩
    rw [hm,c8Y hc.1]
    split
    ·rename_i h
     have:=c4 h
     omega
    ·omega
 ·rw [c02 hc] at hr
  have hw:=I5 hl2 hp' Z3
  unfold G9 at hw
  rw [←hst] at hw
  refine .inr ⟨?_,by rw [hr];exact hw,by rw [hr] at hov;rw [hR];exact hov⟩
  by_cases h0:p'.2=0
  ·rw [h0] at hok
   have h1:Z7 (l9 ts p'.1) Z3=true:=by
    cases hg:Z7 (l9 ts p'.1) Z3 with
    | true=>rfl
    | false=>exact absurd ⟨h0,hg⟩ hc
   rw [h1] at his
   exact .inr ⟨hok,his⟩
  ·rw [c9f h0] at hok
   exact .inl hok
theorem a5z {ts:List Tok} {s:ByteArray} {p:PE} (h:B3 ts s p=true):skP ts s p=(p.1+1,0):=by unfold skP;rw [c8Y h]
theorem a50 {ts:List Tok} {s:ByteArray} {p:PE} (h:B3 ts s p=false):skP ts s p=p:=by unfold skP;rw [h];rfl
def a0N (ts:List Tok) (n:Nat) (ex:PF) (pl:Int) (p:PE):PL×PE :=
 if B3 ts a5y (ex p).2=true then (C0 51 ⟨#[]⟩ ⟨#[]⟩ 0 true (a0E ts (n - 1) ((ex p).2.1+1,0)).1 pl [(ex p).1],j0 ts a2D (a0E ts (n - 1) ((ex p).2.1+1,0)).2) else ((ex p).1,j0 ts a2D (ex p).2)
theorem c2L {ts:List Tok} (hE:m8 ts) (n:Nat) {ex:PF} (hf:B6 ts ex) (pl:Int) {a:Nat} (hp:a+1<ts.length):FitP ts (a,0) (a0N ts n ex pl (a+1,0)):=by
 have hb:=hf (a+1,0) hp
 have l1:=hb.lo
 have l2:=hb.sz
 have l3:=hb.hi
 have l4:=hb.ok
 simp only at l1 l2 l4
 unfold a0N
 split
 ·rename_i h
  obtain ⟨k1,k2⟩:=n9 hE l3 h
  have:=(l4 k2).2
  obtain ⟨d1,d2,d3⟩:=a3v hE (n - 1) (p:=((ex (a+1,0)).2.1+1,0)) k1
  obtain ⟨c1,c2,c3⟩:=j7 (s:=a2D) hE d1
  simp only at d2
  have e:(C0 51 ⟨#[]⟩ ⟨#[]⟩ 0 true (a0E ts (n - 1) ((ex (a+1,0)).2.1+1,0)).1 pl [(ex (a+1,0)).1]).2.length=(ex (a+1,0)).1.2.length+1:=by simp [C0]
  exact ⟨by simp only;omega,c1,by simp only;omega,fun h=>⟨rfl,by simp only;omega⟩⟩
 ·obtain ⟨c1,c2,c3⟩:=j7 (s:=a2D) hE l3
  refine ⟨by simp only;omega,c1,by simp only;omega,fun h=>⟨rfl,?_⟩⟩
  obtain ⟨d1,d2⟩:=c3 h
  have:=(l4 d1).2
  simp only
  omega
theorem c2M {ts:List Tok} (hE:m8 ts) (hN:T5 ts) (hl:ts.length≤65537) (n:Nat) (L:Int) (hv:a1y n L) (hL:L≤1048575) {ex:PF} (hf:B6 ts ex) (hx:∀p:PE,p.1<ts.length→G9 37 [vi .i64 (L+1)] ts p [.ag (y5 (cP (ex p).1))] (ex p).2) (pl:Int) {p:PE} (hp:p.1<ts.length) :
  G9 140 [vi .i64 L,vi .i64 pl] ts p [.ag (y5 (cP (a0N ts n ex pl p).1))] (a0N ts n ex pl p).2:=by
 have hl2:ts.length≤1048576:=by omega
 have hb:=hf p hp
 have i1:=hb.sz
 have i2:=hb.hi
 have h0:=hx p hp
 have h1:=Y9 hl2 hb.hi a5y
 obtain ⟨x,hxx⟩:=A8 (ex p).1
 rw [hxx] at h0
 unfold a0N
 by_cases h:B3 ts a5y (ex p).2=true
 ·rw [c8Y h]
  obtain ⟨k1,k2⟩:=n9 hE hb.hi h
  rw [h,a5z h] at h1
  have h2:=c0r hE hN hl (n - 1) (L+1) (b1t hv) (p:=((ex p).2.1+1,0)) k1
  obtain ⟨d1,_,_⟩:=a3v hE (n - 1) (p:=((ex p).2.1+1,0)) k1
  have h3:=I5 hl2 d1 a2D
  generalize a0E ts (n - 1) ((ex p).2.1+1,0)=kw at *
  obtain ⟨y,hy⟩:=b26 kw.1
  obtain ⟨z,hz⟩:=A8 (C0 51 ⟨#[]⟩ ⟨#[]⟩ 0 true kw.1 pl [(ex p).1])
  have ho:=b9W 51 ⟨#[]⟩ ⟨#[]⟩ 0 true kw.1 y hy pl [(ex p).1] (by simp) (by simp only [c9q,c9y,c9i];omega)
  rw [hz,show rP [(ex p).1]=[cE x] by unfold rP;rw [c9m,c9O,hxx]] at ho
  rw [hy] at h2
  simp only
  rw [hz]
  exact b7f ho (a27 hv hL).1 (a27 hv hL).2 h0 h1 h2 h3
 ·rw [c8W h]
  replace h:B3 ts a5y (ex p).2=false:=by simpa using h
  rw [h,a50 h] at h1
  simp only
  rw [hxx]
  exact b9Q (a27 hv hL).1 (a27 hv hL).2 h0 h1 (I5 hl2 hb.hi a2D)
abbrev c2N:ByteArray:=⟨#[58,61]⟩
def Q8 (ts:List Tok) (ex:PF) (pl:Int) (p:PE):PL×PE :=
 if B3 ts Z1 p=true then (a1u 41 ⟨#[]⟩ 0 pl,(p.1+1,0))
 else if B3 ts c2N (i7 ts p).2=true then
  (y7 45 (i7 ts p).1 ⟨#[]⟩ pl [(ex ((i7 ts p).2.1+1,0)).1,(ex (j0 ts N1 (ex ((i7 ts p).2.1+1,0)).2)).1],j0 ts Z1 (ex (j0 ts N1 (ex ((i7 ts p).2.1+1,0)).2)).2)
 else Z2 ts ex pl (i7 ts p).1 (i7 ts p).2
theorem c04 {ts:List Tok} (hE:m8 ts) (hl:ts.length≤65537) {L:Int} (hL1:0≤L) (hL2:L≤1048576) {ex:PF} (hf:B6 ts ex) (he:∀p:PE,p.2≠0→ex p=(zPL,p)) (hx:∀p:PE,p.1<ts.length→G9 37 [vi .i64 (L+1)] ts p [.ag (y5 (cP (ex p).1))] (ex p).2) (pl:Int) {p:PE} (hp:p.1<ts.length) :
  G9 141 [vi .i64 L,vi .i64 pl] ts p [.ag (y5 (cP (Q8 ts ex pl p).1))] (Q8 ts ex pl p).2:=by
 have hl2:ts.length≤1048576:=by omega
 have h0:=Y9 hl2 hp Z1
 unfold Q8
 by_cases h:B3 ts Z1 p=true
 ·rw [c8Y h]
  rw [h,a5z h] at h0
  obtain ⟨z,hz⟩:=A8 (a1u 41 ⟨#[]⟩ 0 pl)
  have ho:=b4f 41 ⟨#[]⟩ 0 pl
  rw [hz] at ho
  simp only
  rw [hz]
  exact c2y ho h0
 ·rw [c8W h]
  replace h:B3 ts Z1 p=false:=by simpa using h
  rw [h,a50 h] at h0
  have h1:=a0L hl2 hp
  obtain ⟨b1,_,_⟩:=w9 hE hp
  have h2:=Y9 hl2 b1 c2N
  by_cases h3:B3 ts c2N (i7 ts p).2=true
  ·rw [c8Y h3]
   obtain ⟨k1,k2⟩:=n9 hE b1 h3
   rw [h3,a5z h3] at h2
   have h4:=hx ((i7 ts p).2.1+1,0) k1
   have hb:=hf ((i7 ts p).2.1+1,0) k1
   have h5:=I5 hl2 hb.hi N1
   obtain ⟨c1,_,_⟩:=j7 (s:=N1) hE hb.hi
   have h6:=hx _ c1
   have hb2:=hf _ c1
   have h7:=I5 hl2 hb2.hi Z1
   obtain ⟨x,hxx⟩:=A8 (ex ((i7 ts p).2.1+1,0)).1
   obtain ⟨y,hyy⟩:=A8 (ex (j0 ts N1 (ex ((i7 ts p).2.1+1,0)).2)).1
   obtain ⟨z,hz⟩:=A8 (y7 45 (i7 ts p).1 ⟨#[]⟩ pl [(ex ((i7 ts p).2.1+1,0)).1,(ex (j0 ts N1 (ex ((i7 ts p).2.1+1,0)).2)).1])
   have i1:=hb.sz
   have i2:=hb.hi
   have i3:=hb2.sz
   have i4:=hb2.hi
   have ho:=a1v 45 (i7 ts p).1 ⟨#[]⟩ 0 false pl [(ex ((i7 ts p).2.1+1,0)).1,(ex (j0 ts N1 (ex ((i7 ts p).2.1+1,0)).2)).1] (by simp) (by simp only [c9q,c9y,c9i,c8U];omega)
   rw [show cP (C0 45 (i7 ts p).1 ⟨#[]⟩ 0 false s8 pl [(ex ((i7 ts p).2.1+1,0)).1,(ex (j0 ts N1 (ex ((i7 ts p).2.1+1,0)).2)).1])=cE z from hz,show rP [(ex ((i7 ts p).2.1+1,0)).1,(ex (j0 ts N1 (ex ((i7 ts p).2.1+1,0)).2)).1]=[cE x,cE y] by unfold rP;rw [c9m,c9m,c9O,hxx,hyy]] at ho
   rw [hxx] at h4
   rw [hyy] at h6
   simp only
   rw [hz]
   exact c2A ho hL1 hL2 h0 h1 h2 h4 h5 h6 h7
  ·rw [c8W h3]
   replace h3:B3 ts c2N (i7 ts p).2=false:=by simpa using h3
   rw [h3,a50 h3] at h2
   have h4:=c01 hE hl hL1 hL2 hf he hx pl (i7 ts p).1 b1
   obtain ⟨x,hxx⟩:=A8 (Z2 ts ex pl (i7 ts p).1 (i7 ts p).2).1
   rw [hxx] at h4 ⊢
   exact c2z h0 h1 h2 h4
theorem c05 {ts:List Tok} (hE:m8 ts) {ex:PF} (hf:B6 ts ex) (he:∀p:PE,p.2≠0→ex p=(zPL,p)) (pl:Int) {a:Nat} (hp:a+1<ts.length):FitP ts (a,0) (Q8 ts ex pl (a+1,0)):=by
 unfold Q8
 split
 ·rename_i h
  obtain ⟨k1,k2⟩:=n9 hE (p:=(a+1,0)) hp h
  exact ⟨by show a≤a+1+1;omega,k1,by show 1+2 * a≤2 * (a+1+1)+2;omega,fun _=>⟨rfl,by show 1+2 * a+1≤2 * (a+1+1);omega⟩⟩
 ·obtain ⟨b1,b2,b3⟩:=w9 hE (p:=(a+1,0)) hp
  simp only at b2 b3
  split
  ·rename_i h
   obtain ⟨k1,k2⟩:=n9 hE b1 h
   have b3:=(b3 k2).2
   generalize (i7 ts (a+1,0)).2=w at *
   have hb:=hf (w.1+1,0) k1
   generalize ex (w.1+1,0)=e1 at *
   obtain ⟨c1,c2,c3⟩:=j7 (s:=N1) hE hb.hi
   have hb2:=hf _ c1
   have he2:=he (j0 ts N1 e1.2)
   generalize j0 ts N1 e1.2=r at *
   obtain ⟨d1,d2,d3⟩:=j7 (s:=Z1) hE hb2.hi
   have l1:=hb.lo
   have l2:=hb.sz
   have l4:=hb.ok
   have m1:=hb2.lo
   have m2:=hb2.sz
   have m4:=hb2.ok
   simp only at l1 l2 l4
   have e:(y7 45 (i7 ts (a+1,0)).1 ⟨#[]⟩ pl [e1.1,(ex r).1]).2.length=e1.1.2.length+(ex r).1.2.length+1:=by simp [y7,C0]
   refine ⟨by simp only;omega,d1,?_,fun h=>⟨rfl,?_⟩⟩
   ·simp only
    by_cases h0:r.2=0
    ·have:=(l4 (c3 h0).1).2
     omega
    ·have e0:=he2 h0
     rw [e0] at e d2 m1 ⊢
     have:(zPL:PL).2.length=0:=rfl
     simp only at e d2 ⊢
     omega
   ·obtain ⟨g1,g2⟩:=d3 h
    have h5:=m4 g1
    have:=(l4 (c3 h5.1).1).2
    simp only
    omega
  ·have h1:=b3a hE hf he pl (i7 ts (a+1,0)).1 b1
   refine ⟨by have:=h1.lo;simp only;omega,h1.hi,by have:=h1.sz;simp only;omega,fun h=>⟨rfl,by have:=(h1.ok h).2;simp only;omega⟩⟩
abbrev b5M:ByteArray:=⟨#[116,114,117,101]⟩
abbrev b1w:ByteArray:=⟨#[102,97,108,115,101]⟩
abbrev b1x:ByteArray:=⟨#[123]⟩
abbrev b5N:ByteArray:=⟨#[99,97,115,101]⟩
abbrev a6n:List ByteArray:=[b5M,b1w,a0Q,b1x,b5N]
def K3 (ts:List Tok) (n:Nat) (ex:PF) (p:PE):PL×PE :=
 if p.2≠0 then (zPL,p)
 else if (l9 ts p.1).kind=1 then (a1u 32 (l9 ts p.1).text 0 (l9 ts p.1).at_,(p.1+1,0))
 else if (l9 ts p.1).kind=2 then (a1u 33 ⟨#[]⟩ (l9 ts p.1).n (l9 ts p.1).at_,(p.1+1,0))
 else if B3 ts b5M p=true then (a1u 34 ⟨#[]⟩ 1 (l9 ts p.1).at_,(p.1+1,0))
 else if B3 ts b1w p=true then (a1u 34 ⟨#[]⟩ 0 (l9 ts p.1).at_,(p.1+1,0))
 else if B3 ts a0Q p=true then a0N ts n ex (l9 ts p.1).at_ (p.1+1,0)
 else if B3 ts b1x p=true then Q8 ts ex (l9 ts p.1).at_ (p.1+1,0)
 else if B3 ts b5N p=true then Q7 ts ex (l9 ts p.1).at_ (p.1+1,0)
 else (zPL,C5 5 p)
theorem b1y {ts:List Tok} (hE:m8 ts) (n:Nat) {ex:PF} (hf:B6 ts ex) (he:∀p:PE,p.2≠0→ex p=(zPL,p)) {p:PE} (hp:p.1<ts.length):FitP ts p (K3 ts n ex p):=by
 obtain ⟨a,c⟩:=p
 have leaf:∀(op:Int) (nm:ByteArray) (m at_:Int),c=0→a+1<ts.length→FitP ts (a,c) (a1u op nm m at_,(a+1,0)):=fun op nm m at_ h1 h2=>⟨by show a≤a+1;omega,h2,by show 1+2 * a≤2 * (a+1)+2;omega,fun _=>⟨h1,by show 1+2 * a+1≤2 * (a+1);omega⟩⟩
 have none:∀q:PE,q.1=a→q.2≠0→FitP ts (a,c) (zPL,q):=fun q h1 h2=>⟨by simp only;omega,by show q.1<_;omega,by show 0+2 * a≤2 * q.1+2;omega,fun h=>absurd h h2⟩
 unfold K3
 by_cases h0:c=0
 ·subst h0
  rw [c8W (by simp)]
  simp only at hp ⊢
  by_cases k1:(l9 ts a).kind=1
  ·rw [c8Y k1]
   exact leaf _ _ _ _ rfl (hE _ hp (by rw [k1];decide))
  rw [c8W k1]
  by_cases k2:(l9 ts a).kind=2
  ·rw [c8Y k2]
   exact leaf _ _ _ _ rfl (hE _ hp (by rw [k2];decide))
  rw [c8W k2]
  split
  ·rename_i h;exact leaf _ _ _ _ rfl (n9 hE (p:=(a,0)) hp h).1
  split
  ·rename_i h;exact leaf _ _ _ _ rfl (n9 hE (p:=(a,0)) hp h).1
  split
  ·rename_i h;exact c2L hE n hf _ (n9 hE (p:=(a,0)) hp h).1
  split
  ·rename_i h;exact c05 hE hf he _ (n9 hE (p:=(a,0)) hp h).1
  split
  ·rename_i h;exact c2J hE hf he _ (n9 hE (p:=(a,0)) hp h).1
  ·obtain ⟨f1,f2⟩:=C8 5 (by decide) (a,0)
   exact none _ f1 f2
 ·rw [c8Y h0]
  exact none (a,c) rfl h0
theorem c51 {ts:List Tok} (hE:m8 ts) (hN:T5 ts) (hl:ts.length≤65537) (n:Nat) (L:Int) (hv:a1y n L) (hL:L≤1048575) {ex:PF} (hf:B6 ts ex) (he:∀p:PE,p.2≠0→ex p=(zPL,p)) (hx:∀p:PE,p.1<ts.length→G9 37 [vi .i64 (L+1)] ts p [.ag (y5 (cP (ex p).1))] (ex p).2) {p:PE} (hp:p.1<ts.length) :
  G9 130 [vi .i64 L] ts p [.ag (y5 (cP (K3 ts n ex p).1))] (K3 ts n ex p).2:=by
 have hl2:ts.length≤1048576:=by omega
 have hok:=okP hl2 hp
 obtain ⟨hb1,hb2⟩:=a27 hv hL
 obtain ⟨a,c⟩:=p
 by_cases h0:c=0
 ·subst h0
  have hpk:=b9t hl2 (a:=a) hp
  have hta:=c64 hl2 (a:=a) hp
  have hsg:=a8E hl2 (p:=(a,0)) hp a6n (by decide)
  have hleaf:∀(op:Int) (nm:ByteArray) (m:Int),∃z,cP (a1u op nm m (l9 ts a).at_)=cE z∧LfN op nm m (l9 ts a).at_ z:=fun op nm m=>by
   obtain ⟨z,hz⟩:=A8 (a1u op nm m (l9 ts a).at_)
   have ho:=b4f op nm m (l9 ts a).at_
   rw [hz] at ho
   exact ⟨z,hz,ho⟩
  unfold K3
  rw [c8W (by simp)]
  simp only
  unfold G9 at hok hsg ⊢
  rw [c4S] at hok hsg ⊢
  by_cases k1:(l9 ts a).kind=1
  ·rw [c8Y k1]
   rw [k1] at hpk hta
   obtain ⟨z,hz,ho⟩:=hleaf 32 (l9 ts a).text 0
   simp only
   rw [hz]
   exact c22 hok hpk hta ho
  rw [c8W k1]
  by_cases k2:(l9 ts a).kind=2
  ·rw [c8Y k2]
   rw [k2] at hpk hta
   obtain ⟨z,hz,ho⟩:=hleaf 33 ⟨#[]⟩ (l9 ts a).n
   simp only
   rw [hz]
   exact c5h hok hpk hta ho
  rw [c8W k2]
  unfold a1A at hsg
  by_cases s1:B3 ts b5M (a,0)=true
  ·rw [c8Y s1]
   rw [show r7 ts a6n (a,0)=some b5M by unfold a6n;rw [r7,c8Y s1]] at hsg
   obtain ⟨z,hz,ho⟩:=hleaf 34 ⟨#[]⟩ 1
   simp only
   rw [hz]
   exact c23 (s2:=(0,0,0)) k1 k2 hok hpk hsg ho
  rw [c8W s1]
  by_cases s2:B3 ts b1w (a,0)=true
  ·rw [c8Y s2]
   rw [show r7 ts a6n (a,0)=some b1w by unfold a6n;rw [r7,c8W s1,r7,c8Y s2]] at hsg
   obtain ⟨z,hz,ho⟩:=hleaf 34 ⟨#[]⟩ 0
   simp only
   rw [hz]
   exact b9U (s2:=(0,0,0)) k1 k2 hok hpk hsg ho
  rw [c8W s2]
  by_cases s3:B3 ts a0Q (a,0)=true
  ·rw [c8Y s3]
   rw [show r7 ts a6n (a,0)=some a0Q by unfold a6n;rw [r7,c8W s1,r7,c8W s2,r7,c8Y s3]] at hsg
   have h2:=c2M hE hN hl n L hv hL hf hx (l9 ts a).at_ (p:=(a+1,0)) (n9 hE (p:=(a,0)) hp s3).1
   obtain ⟨z,hz⟩:=A8 (a0N ts n ex (l9 ts a).at_ (a+1,0)).1
   rw [hz] at h2 ⊢
   exact b9V k1 k2 hok hpk hsg h2
  rw [c8W s3]
  by_cases s4:B3 ts b1x (a,0)=true
  ·rw [c8Y s4]
   rw [show r7 ts a6n (a,0)=some b1x by unfold a6n;rw [r7,c8W s1,r7,c8W s2,r7,c8W s3,r7,c8Y s4]] at hsg
   have h2:=c04 hE hl hb1 hb2 hf he hx (l9 ts a).at_ (p:=(a+1,0)) (n9 hE (p:=(a,0)) hp s4).1
   obtain ⟨z,hz⟩:=A8 (Q8 ts ex (l9 ts a).at_ (a+1,0)).1
   rw [hz] at h2 ⊢
   exact b6V k1 k2 hok hpk hsg h2
  rw [c8W s4]
  by_cases s5:B3 ts b5N (a,0)=true
  ·rw [c8Y s5]
   rw [show r7 ts a6n (a,0)=some b5N by unfold a6n;rw [r7,c8W s1,r7,c8W s2,r7,c8W s3,r7,c8W s4,r7,c8Y s5]] at hsg
   have h2:=c03 hE hl hb1 hb2 hf he hx (l9 ts a).at_ (p:=(a+1,0)) (n9 hE (p:=(a,0)) hp s5).1
   obtain ⟨z,hz⟩:=A8 (Q7 ts ex (l9 ts a).at_ (a+1,0)).1
   rw [hz] at h2 ⊢
   exact b6W k1 k2 hok hpk hsg h2
  rw [c8W s5]
  rw [show r7 ts a6n (a,0)=none by unfold a6n;rw [r7,c8W s1,r7,c8W s2,r7,c8W s3,r7,c8W s4,r7,c8W s5,r7]] at hsg
  have h2:=b3O hl2 (p:=(a,0)) hp 5 (by decide)
  simp only
  rw [b0h]
  exact c24 k1 k2 hok hpk hsg h2
 ·unfold K3
  rw [c8Y h0]
  unfold G9 at hok ⊢
  rw [c9f (show ((a,c):PE).2≠0 from h0)] at hok
  simp only
  rw [b0h]
  exact c5g hok
abbrev gAt:ByteArray:=⟨#[64]⟩
abbrev a8T:ByteArray:=⟨#[94]⟩
def a6K (ts:List Tok) (m:Nat) (op:Int) (pr:PF) (p:PE):PL×PE :=
 if m=0∨(i7 ts (p.1+1,0)).2.2≠0 then (zPL,M3 m (i7 ts (p.1+1,0)).2)
 else (y7 op (i7 ts (p.1+1,0)).1 ⟨#[]⟩ (l9 ts p.1).at_ [(pr (i7 ts (p.1+1,0)).2).1],(pr (i7 ts (p.1+1,0)).2).2)
def a51 (ts:List Tok) (m:Nat) (nx pr:PF) (p:PE):PL×PE :=
 if B3 ts gAt p=true then a6K ts m 46 pr p else if B3 ts a8T p=true then a6K ts m 47 pr p else nx p
theorem c7v {ts:List Tok} (hE:m8 ts) (m:Nat) {nx pr:PF} (hn:B6 ts nx) (hf:B6 ts pr):B6 ts (a51 ts m nx pr):=fun p hp=>by
 have key:∀(s:ByteArray) (op:Int),B3 ts s p=true→FitP ts p (a6K ts m op pr p):=fun s op h=>by
  obtain ⟨k1,k2⟩:=n9 hE hp h
  obtain ⟨b1,b2,b3⟩:=w9 hE (p:=(p.1+1,0)) k1
  simp only at b2 b3
  unfold a6K
  generalize (i7 ts (p.1+1,0)).1=w at *
  generalize (i7 ts (p.1+1,0)).2=q at *
  split
  ·rename_i hd
   have hq:(M3 m q).1=q.1∧(M3 m q).2≠0:=by
    unfold M3
    by_cases hm:m=0
    ·rw [c8Y hm]
     exact C8 6 (by decide) q
    ·rw [c8W hm]
     exact ⟨rfl,hd.resolve_left hm⟩
   exact ⟨by simp only;omega,by simp only;omega,by show 0+2 * p.1≤2 * (M3 m q).1+2;omega,fun h=>absurd h hq.2⟩
  ·rename_i hd
   have hq:q.2=0:=by
    by_cases h0:q.2=0
    ·exact h0
    ·exact absurd (.inr h0) hd
   have hb3:=(b3 hq).2
   have hb:=hf q b1
   have l1:=hb.lo
   have l2:=hb.sz
   have l4:=hb.ok
   have e:(y7 op w ⟨#[]⟩ (l9 ts p.1).at_ [(pr q).1]).2.length=(pr q).1.2.length+1:=by simp [y7,C0]
   exact ⟨by simp only;omega,hb.hi,by simp only;omega,fun h=>⟨k2,by have:=(l4 h).2;simp only;omega⟩⟩
 unfold a51
 split
 ·rename_i h;exact key _ _ h
 split
 ·rename_i h;exact key _ _ h
 ·exact hn p hp
end Go.Proofs.Ytahpnackkmbmgaa.Vm
end
