/- Part 12 of the proof. Conditions: none. -/
import Derived.Test.YtlofmibkljoapaaDoorO4
import Derived.Test.YtlofmibkljoapaaDoorO8
import Derived.Test.YtlofmibkljoapaaDoorO11
import Derived.Shelf.Strings.Builder1
import Derived.Shelf.Small.Strs
import Derived.Shelf.Strconv.Itoa0
import Derived.Shelf.Strconv.Itoa1
import Derived.Shelf.LaysM
import Derived.Shelf.Strconv.Itoa2
import Derived.Shelf.Strconv.Itoa3
import Derived.Test.YtlofmibkljoapaaDoorProg
import Derived.IntWalk
import Derived.RangeFuncNested
import Derived.RangeFuncBound
import Derived.RangeFuncCalls
import Derived.RangeFuncLeaves
import Derived.RangeFuncFrom
import Derived.Shelf.Abstract
import Derived.WalkKit
import Derived.OwnWalkIn
import Derived.TacticsInMore
import Derived.LoopNIn
import Derived.LoopIn
import Derived.Test.YtlofmibkljoapaaDoorO0
set_option linter.all false
set_option linter.unusedVariables false
set_option linter.unusedSimpArgs false
section
namespace Go.Proofs
open Go.Shelf
def Tryd.lays106_ren:Go.Shelf.Ren:=⟨fun|106=>78|213=>88|265=>95|n=>n,fun|9=>9|3=>3|n=>n,fun|n=>n⟩
theorem Tryd.lays106:Go.Proofs.Lays.n106 Tryd.prog Tryd.lays106_ren:={
 mixed:=by kernel_rfl
 f106:=Tryd.func78.trans (congrArg some (by kernel_rfl))
 f213:=Tryd.func88.trans (congrArg some (by kernel_rfl))
 f265:=Tryd.func95.trans (congrArg some (by kernel_rfl))
 t3:=Tryd.underlying3
 a3:=Tryd.isAgg3
 z3:=Tryd.sizeOf3
 v3:=Tryd.zeroValue3
 t9:=Tryd.underlying9
 a9:=Tryd.isAgg9
 z9:=Tryd.sizeOf9
 v9:=Tryd.zeroValue9 }
open Go.RowKit in
theorem Tryd.strings_Compare (a b:ByteArray) (w:World) :
  Calls Tryd.prog 78 #[.string a,.string b] w λe w'=>e=.returned (.int .i64 (Lib.compareBytes a.data.toList b.data.toList))/\w'=w:=Any.strings_Compare Tryd.lays106 a b w
end Go.Proofs
end
section
namespace Go.Proofs.YtlofmibkljoapaaDoor.Vm
open Go.RowKit
set_option maxRecDepth 100000
set_option maxHeartbeats 4000000
theorem c14 (a b:ByteArray):m6 78 [.one (.sc (.string a)),.one (.sc (.string b))] [.one (.sc (.int .i64 (Lib.compareBytes a.data.toList b.data.toList)))]:=by
 refine⟨by kernel_rfl,λI w args hI hat=>?_⟩
 match args,hat with
 | [v1,v2],⟨h1,h2,_⟩ =>
  have h1:AtD I w v1 (.sc (.string a)):=h1;have h2:AtD I w v2 (.sc (.string b)):=h2;cases h1;cases h2;refine(Tryd.strings_Compare a b w).mono ?_
  rintro e w' ⟨rfl,rfl⟩
  exact⟨_,rfl,.sc _ rfl,Below.refl _ _⟩
theorem a74:∀a b:List UInt8,Lib.compareBytes a b=a2q a b
 | [],[]=>rfl
 | [],_::_=>by simp[Lib.compareBytes,a2q,Op.bytesLess]
 | _::_,[]=>by simp[Lib.compareBytes,a2q,Op.bytesLess]
 | x::a,y::b=>by
  rw[Lib.compareBytes,a74 a b];unfold a2q;simp only[Op.bytesLess]
  by_cases h1:x<y
  ·simp[h1]
  ·by_cases h2:y<x
   ·have hne:x≠y:=λe=>by rw[e] at h2;exact h1 (by rw[e];exact h2)
    simp[h1,h2,hne]
   ·have e:x=y:=by
     rw[c3Y] at h1 h2;exact c42.1 (by omega)
    subst e
    simp[h1]
theorem b8P:a8m 77:=by
 intro n m x1 x2 x3 x4 y1 y2 y3 y4;have hc:=c14 n m;rw[a74,<-ByteArray.toList_eq,<-ByteArray.toList_eq] at hc;generalize a2q n.toList m.toList=cv at *;refine Y8 Tryd.func77 rfl ?_;intros;rename_i hA;cbv
 repeat ((with_reducible apply b5 hA);cbv)
 refine b9 hA _ hc ?_ ?_
 ·rfl
 cbv
 repeat ((with_reducible apply b5 hA);cbv)

section
section
variable {I0:Nat->Nat->Prop} {X:Nat->Prop} {w0:W0} {I:Nat->Nat->Prop} {g:Nat->Value} {s:S} {a:Act} {w:World}
theorem f9.reset {us:List Value} {cs:List V} {i:Nat} {x:V} (h:f9 I w g us cs) (hx:∀v,us[i]?=some v->AtV I w g v x):f9 I w g us (cs.set i x):=by
 refine⟨by rw[c2K];exact h.1,λj v y hv hy=>?_⟩
 by_cases hji:i=j
 ·subst hji;have hlt:i<cs.length:=by have:=(c25.1 hy).1;rw[c2K] at this;exact this
  rw[c2S hlt] at hy;cases hy;exact hx v hv
 ·rw[c2L hji] at hy;exact h.2 j v y hv hy
theorem RelI.rebox (h:RelI I0 X w0 I g s a w) {k:Nat} {cs ds:List V} (hk:s.o[k]?=some (.box cs)) (hd:∀us,f9 I w g us cs->f9 I w g us ds):RelI I0 X w0 I g ⟨s.t,s.o.set k (.box ds)⟩ a w:=by
 have hlt:=(c25.1 hk).1
 have a1T:∀i,A1 ⟨s.t,s.o.set k (.box ds)⟩ i->A1 s i:=λi hl=>by
  obtain⟨o,ho,hdd⟩:=hl
  by_cases hik:k=i
  ·subst hik;exact⟨_,hk,by simp⟩
  ·simp only[c2L hik] at ho;exact⟨o,ho,hdd⟩
 refine⟨h.im,h.lt,h.fr,h.kp,by simp only[c2K];exact h.lo,h.st,λi o ho=>?_,λi j b hi hj=>h.dis i j b (a1T i hi) (a1T j hj),λi hi=>h.out i (by simpa using hi),h.tmp,h.dfr⟩
 by_cases hik:k=i
 ·subst hik;simp only[c2S hlt] at ho;cases ho;obtain⟨b,us,t,h1,h2,h3,h4⟩:=h.obj k _ hk;exact⟨b,us,t,h1,h2,hd us h3,h4⟩
 ·simp only[c2L hik] at ho;exact h.obj i o ho
end
theorem v7.ownBox (s:S) (k i e:Nat) (z:Bool) {cs:List V} (hk:m5 s.o k=.box cs) (hi:m8 cs i=.em):v7 s ⟨s.t,A2 (o6 s.o (.row z e [])) k (.box (G7 cs i (.own (j2 s.o))))⟩:=by
 rintro I0 X w0 a w ⟨I,g,h⟩
 have hk2:=j1 hk (by simp);have hlt:=(c25.1 hk2).1;have h2:=h.newObj (.row z e []) (.slice none 0 0) ⟨[],by rw[d9];exact World.ownsRow_nil w 0 e _,by simp,s8.nil I w,λb hb=>by rw[d9] at hb;cases hb⟩ (λj b _ _ hb=>by cases hb);have h3:RelI I0 X w0 I (upd g s.o.length (.slice none 0 0)) ⟨s.t,o6 s.o (.row z e [])⟩ a w:=h2;refine⟨I,upd g s.o.length (.slice none 0 0),?_⟩;rw[x5,N7];refine h3.rebox (cs:=cs) (by show (o6 s.o _)[k]?=_;rw[a0m,c2R hlt];exact hk2) λus hus=>hus.reset λv hv=>?_
 have hs:=Q0 hi (by simp);have h4:=hus.2 i v _ hv hs;rw[h4.unem];exact .own _ _ _ _ (by rw[m7,d9];rfl)
section
variable {qa:_} {qb:_} {qc:_} {qd:_} {qe:_} {qf:_} {qg:_} {qh:_} {qi:_} {qj:_} {qk:_} {ql:_} {qm:_} {qo:_} {qp:_} {qq:_} {qs:_} {qt:_} {qu:_} {qv:_} {qw:_} {qx:_} {qy:_} {qz:_} {va:_} {vc:_} {vd:_} {ve:_} {vf:_} {vg:_} {vh:_} {vj:_} {vk:_} {vl:_} {vp:_} {vq:_} {vr:_} {vt:_} {vu:_} {vv:_} {vw:_} {vx:_} {vy:_} (hA:Ar.mk qa qb qc qd qe qf qg qh qi qj qk ql qm qo qp qq qs qt qu qv qw qx qy qz va vc vd ve vf vg vh vj vk vl vp vq vr vt vu vv vw vx vy=a7)
include hA
theorem b5t {N:S->Prop} {s:S} (k i e:Nat) (z:Bool) {cs:List V} (hk:m5 s.o k=.box cs) (hi:m8 cs i=.em) (h:N ⟨s.t,A2 (o6 s.o (.row z e [])) k (.box (G7 cs i (.own (j2 s.o))))⟩):vv N s:=A4 hA _ (v7.ownBox s k i e z hk hi) h
end
end
theorem a6v {ks:List Ty} {k:Nat} {x:Ty} (h:ks[k]?=some x):rT (ks.take (k+1))=rT (ks.take k)++[cT x]:=by
 obtain⟨hi,e⟩:=c25.1 h;rw[a2T,a2T,c4i hi,e,c3G];rfl
theorem a1F:∀t:Ty,t.parts.length<=1048576->m6 69 [.ag (cT t)] [.ag (cT t)]:=by
 intro t
 induction t using Ty.ind with
 | h t ih =>
  intro hN;have hkl:=o7 t;obtain⟨op,nm,n,ks⟩:=t;simp only[Ty.kids] at hkl ih;rw[cT];obtain⟨K,hK⟩:∃K,K=rT ks:=⟨_,rfl⟩;rw[<-hK];refine Y8 Tryd.func69 rfl ?_;intro qa qb _ _ _ _ _ qh _ _ _ _ _ _ _ _ _ _ _ _ _ _ qy qz _ vc;intros;rename_i hA;cbv
  with_reducible apply b5 hA
  cbv;refine a55 hA 3 25 true rfl ?_;cbv
  repeat ((with_reducible apply b5 hA);cbv)
  obtain⟨e1,e2,e3,e4,e5,e6,e7,e8,e9⟩:=j8 hA;obtain⟨r1,r2,r3,r4⟩:=n9 hA;refine l9 hA (γ:=Int×List (List D)) (λx=>[(9,vi .i64 x.1),(3,.own 2),(13,.jk)]) (λx=>[(2,.row true 25 x.2)]) (λx=>∃k:Nat,x.1=(k:Int)/\k<=ks.length/\x.2=rT (ks.take k)) (λx=>ks.length - x.1.toNat) (0,[]) ?_ ?_ ?_
  ·exact⟨0,rfl,c3d _,rfl⟩
  ·cbv
  ·intro x hinv;obtain⟨z,L⟩:=x;cbv;refine gn ?_;obtain⟨k,hz,hk,hE⟩:=hinv;have hz:z=(k:Int):=hz;replace hE:L=rT (ks.take k):=hE;have hlen:qy K=(ks.length:Int):=by rw[r1,hK,E8]
   have hlt:qh z (qy K)=decide (k<ks.length):=by rw[e7,hlen,hz];exact c2Q.2 (by omega)
   by_cases h9:k<ks.length
   ·rw[c2J h9] at hlt;obtain⟨x,hx⟩:∃x,ks[k]?=some x:=⟨_,c28 h9⟩;have g1:qz K z=some (cT x):=by rw[r2,hz,c2E (by omega),hK];exact a04 hx
    have hsp:=ih x (c2F hx) (by have:=hkl.2 x (c2F hx);omega);have hsn:=a6v hx;obtain⟨o1,m1,n1,l1⟩:=x;rw[cT] at g1 hsp hsn;generalize rT l1=L1 at *;rw[hlt];cbv;refine gn ?_;rw[g1];cbv
    repeat ((with_reducible apply b5 hA);cbv)
    refine b9 hA _ hsp ?_ ?_
    ·rfl
    cbv;refine P5 hA true ?_;cbv;refine K4 hA (by rw[hE,E8];simp;omega) ?_;cbv
    repeat ((with_reducible apply b5 hA);cbv)
    replace hz:z=(k:Int):=hz;have hz1:qa .i64 (qb z 1)=((k+1:Nat):Int):=by rw[e1,e2,hz,IntWalk.i64_in _ (by omega)];omega
    refine⟨(qa .i64 (qb z 1),vc L [[.sc (.int .u8 o1),.sc (.string m1),.sc (.int .i64 n1),.sl 4 L1]]),⟨k+1,hz1,h9,by show vc L _=_;rw[r4,hE,hsn]⟩,by show ks.length - (qa .i64 (qb z 1)).toNat<ks.length - z.toNat;rw[hz1,hz];omega,?_⟩;cbv
   ·rw[c2G h9] at hlt;rw[hlt];cbv;refine gn ?_;have hE2:L=K:=by rw[hE,hK,c3r (by omega)]
    rw[hE2];exact⟨rfl,trivial⟩
def cfS (f:ByteArray×Ty):ByteArray×Ty:=(f.1,b6 f.2)
theorem L5:∀(n:Nat) (t:Ty),t.parts.length<=n->(c6 t).length<t.parts.length:=by
 intro n
 induction n with
 | zero=>intro t h;have:=l6 t;omega
 | succ n ih =>
  intro t h;have hp:=l6 t;obtain⟨op,nm,k,ks⟩:=t
  match ks with
  | []=>exact hp
  | [x]=>exact hp
  | x::y::z::l=>exact hp
  | [x,r] =>
   have hk:=o7 (.mk op nm k [x,r]);have hr:=hk.2 r (by simp[Ty.kids]);unfold c6
   by_cases h11:op=11
   ·rw[c2E h11,c2D];have:=ih r (by omega);omega
   ·rw[c2H h11];exact hp
section
section
variable {W:ByteArray->Bool}
theorem f8 {t:Ty} {s:Int} (h:c9 W t s=true):∃k,x6 t.op=some k/\(decide (8<=t.op) == (s == 114))=true/\t.kids.length=k.length/\(if t.op=11 then W t.name else decide (t.name.toList=[]))=true/\0<=t.n/\(t.op=7\/t.op=10\/t.n=0)/\n6 W t.kids k=true:=by
 cases hk:x6 t.op with
 | none=>rw[a71 hk] at h;cases h
 | some k =>
  obtain⟨op,nm,n,kids⟩:=t;rw[a4e (k:=k) (by exact hk)] at h;unfold c3B c4B at h;simp only[c2B,c38,c3Q] at h;obtain⟨⟨h1,h2,h3,h4,h5⟩,h6⟩:=h;exact⟨k,rfl,h1,h2,h3,h4,by simpa [or_assoc,Ty.op,Ty.n] using h5,h6⟩
theorem a1b {op:Int} {nm:ByteArray} {n:Int} {kids:List Ty} {s:Int} {k:List Int} (h0:x6 op=some k) (h1:(decide (8<=op) == (s == 114))=true) (h2:kids.length=k.length) (h3:(if op=11 then W nm else decide (nm.toList=[]))=true) (h4:0<=n) (h5:op=7\/op=10\/n=0) (h6:n6 W kids k=true) :
  c9 W (.mk op nm n kids) s=true:=by
 rw[a4e h0];unfold c3B c4B;simp only[c2B,c38,c3Q];exact⟨⟨h1,h2,h3,h4,by simpa [or_assoc] using h5⟩,h6⟩
theorem F8 {t:Ty} {s:Int} (h:c9 W t s=true) (h11:t.op=11):s=114/\∃a b,t.kids=[a,b]/\t.n=0/\W t.name=true/\c9 W a 116=true/\c9 W b 114=true:=by
 obtain⟨k,hk,h1,h2,h3,h4,h5,h6⟩:=f8 h;rw[h11] at hk h1 h3 h5;have:x6 11=some [116,114]:=by decide
 rw[this] at hk;injection hk with hk;subst hk;rw[c2E rfl] at h3
 have hs:s=114:=by
  have h8:decide ((8:Int)<=11)=true:=by decide
  rw[h8] at h1
  simpa using h1
 refine⟨hs,?_⟩
 match t.kids,h2,h6 with
 | [a,b],_,h6 =>
  rw[n6,n6,n6] at h6;simp only[c2B,and_true] at h6;refine⟨a,b,rfl,?_,h3,h6.1,h6.2⟩
  rcases h5 with h|h|h
  ·exact absurd h (by decide)
  ·exact absurd h (by decide)
  ·exact h
theorem a9S {nm:ByteArray} {a b:Ty} (h3:W nm=true) (ha:c9 W a 116=true) (hb:c9 W b 114=true):c9 W (.mk 11 nm 0 [a,b]) 114=true:=by
 refine a1b (k:=[116,114]) (by decide) (by decide) rfl (by rw[c2E rfl];exact h3) (by omega) (.inr (.inr rfl)) ?_;rw[n6,n6,n6,ha,hb];rfl
theorem v6:∀ {t:Ty},c9 W t 114=true->(∀f∈c6 t,W f.1=true/\c9 W f.2 116=true)/\c9 W (j0 t) 114=true:=by
 intro t
 induction t using Ty.ind with
 | h t ih =>
  intro h
  by_cases h11:t.op=11
  ·obtain⟨_,a,b,hk,hn,hw,ha,hb⟩:=F8 h h11;have hsp:Q9 t:=a5Z W t _ h t (by rw[r6];exact c27 ..);obtain⟨a',b',hk',hsb,hf,ht⟩:=C7 hsp h11;rw[hk] at hk';injection hk' with e1 e2;injection e2 with e2 _;subst e1;subst e2;have hb':=ih b (by rw[hk];simp) hb;rw[hf,ht];refine⟨λf hf=>?_,hb'.2⟩
   rcases c2C.1 hf with rfl|hf
   ·exact⟨hw,ha⟩
   ·exact hb'.1 f hf
  ·obtain⟨h1,h2⟩:=E9 h11;rw[h1,h2];exact⟨by simp,h⟩
theorem a1c {tl:Ty} (ht:c9 W tl 114=true):∀ {fs:List (ByteArray×Ty)},(∀f∈fs,W f.1=true/\c9 W f.2 116=true)->c9 W (x8 fs tl) 114=true
 | [],_=>ht
 | f::fs,h=>by
  rw[A8];have h1:=h f (c27 ..);exact a9S h1.1 h1.2 (a1c ht λg hg=>h g (c26 _ hg))
theorem j5 {t:Ty} {s:Int} (h:c9 W t s=true):C4 t:=a5Z W t s h
theorem a2d:∀ {ts:List Ty} {ks:List Int},n6 W ts ks=true->∀(i:Nat) (t:Ty) (k:Int),ts[i]?=some t->ks[i]?=some k->c9 W t k=true
 | [],_,_,i,t,k,h,_=>by simp at h
 | _::_,[],h,i,t,k,_,hk=>by simp at hk
 | x::xs,y::ys,h,i,t,k,ht,hk=>by
  rw[n6,c2B] at h;cases i with
  | zero=>simp at ht hk;subst ht;subst hk;exact h.1
  | succ i=>exact a2d h.2 i t k (by simpa using ht) (by simpa using hk)
theorem a1d {f:Ty->Ty}:∀ {ts:List Ty} {ks:List Int},n6 W ts ks=true->(∀x∈ts,∀k,c9 W x k=true->c9 W (f x) k=true)->n6 W (ts.map f) ks=true
 | [],ks,_,_=>by cases ks <;> rfl
 | x::xs,[],h,_=>by rw[n6] at h;cases h
 | x::xs,y::ys,h,hf=>by
  rw[n6,c2B] at h;rw[c2Y,n6,c2B];exact⟨hf x (c27 ..) y h.1,a1d h.2 λz hz=>hf z (c26 _ hz)⟩
theorem y5:∀(n:Nat) (t:Ty) (s:Int),t.parts.length<=n->c9 W t s=true->c9 W (b6 t) s=true:=by
 intro n
 induction n with
 | zero=>intro t s h;have:=l6 t;omega
 | succ n ih =>
  intro t s hn h
  by_cases h11:t.op=11
  ·have hr:=F8 h h11;obtain⟨rfl,-⟩:=hr;obtain⟨hf,ht⟩:=v6 h;rw[C9 h11];refine a1c ht λf hf'=>?_
   obtain⟨g,hg,rfl⟩:=c3k.1 hf';have h1:=x9 _ t (c2A _) g (A7 hg);have h2:=hf g (A7 hg);exact⟨h2.1,ih g.2 116 (by omega) h2.2⟩
  ·rw[w6 h11];obtain⟨k,hk,h1,h2,h3,h4,h5,h6⟩:=f8 h;refine a1b hk h1 (by rw[c3f];exact h2) h3 h4 h5 (a1d h6 λx hx k hxk=>?_);have h7:=(o7 t).2 x hx;exact ih x k (by omega) hxk
end
section
variable {W:ByteArray->Bool}
def b5u (W:ByteArray->Bool) (g s:Ty):Prop:=∃c,c9 W g c=true/\c9 W s c=true
theorem b5u.kids {g s:Ty} (h:b5u W g s) (he:g.op=s.op):g.kids.length=s.kids.length/\∀(i:Nat) (x y:Ty),g.kids[i]?=some x->s.kids[i]?=some y->b5u W x y:=by
 obtain⟨c,hg,hs⟩:=h;obtain⟨k,hk,_,h2,_,_,_,h6⟩:=f8 hg;obtain⟨k',hk',_,h2',_,_,_,h6'⟩:=f8 hs;rw[<-he,hk] at hk';injection hk' with hk'
 subst hk';refine⟨by rw[h2,h2'],λi x y hx hy=>?_⟩;have hi:i<k.length:=by rw[<-h2];exact(c25.1 hx).1
 exact⟨k[i],a2d h6 i x _ hx (c28 hi),a2d h6' i y _ hy (c28 hi)⟩
theorem b1m {t x:Ty} (h:x∈t.parts):x.parts.length<=t.parts.length:=by
 induction t using Ty.ind with
 | h t ih =>
  rw[d5] at h
  rcases c2C.1 h with rfl|h
  ·exact c2A _
  ·obtain⟨k,hk,hx⟩:=c2U.1 h;have h1:=ih k hk hx;have h2:=(o7 t).2 k hk;omega
end
end
section
theorem a4R:Swo K5:=⟨λ_=>a1E _,λ_ _ _=>a5B _ _ _,λ_ _ _=>a5C _ _ _⟩
theorem a5D:∀a b:List UInt8,Op.bytesLess a b=false->Op.bytesLess b a=false->a=b
 | [],[],_,_=>rfl
 | [],_::_,h,_=>by simp[Op.bytesLess] at h
 | _::_,[],_,h=>by simp[Op.bytesLess] at h
 | x::a,y::b,h1,h2=>by
  simp only[Op.bytesLess,c4M,decide_eq_false_iff_not,Bool.and_eq_false_iff,c2O,ne_eq] at h1 h2;obtain⟨h1,h1'⟩:=h1;obtain⟨h2,h2'⟩:=h2
  have e:x=y:=by
   rw[c3Y] at h1 h2;exact c42.1 (by omega)
  subst e;rw[a5D a b (by simpa using h1') (by simpa using h2')]
theorem a9T {x y:ByteArray×Ty} (h1:K5 x y=false) (h2:x.1≠y.1):K5 y x=true:=by
 cases h:K5 y x with
 | true=>rfl
 | false=>exact absurd (a0F.1 (a5D _ _ h1 h)) h2
theorem a2e {l:List (ByteArray×Ty)} (h:N5 K5 l):i6 K5 l=l:=(a4M a4R h (.refl l)).symm
def cF (f:ByteArray×Ty):ByteArray×Ty:=(f.1,b6 f.2)
theorem b7f {l:List (ByteArray×Ty)} (h:N5 K5 l):N5 K5 (l.map cF):=List.pairwise_map.2 h
theorem Z3 {t:Ty} (h:t.op≠11) (hk:t.kids=[]):b6 t=t:=by
 rw[w6 h,hk,c4d];obtain⟨op,nm,n,ks⟩:=t;simp only[Ty.kids] at hk;subst hk;rfl
theorem a4g {l:List (ByteArray×Ty)} (h:N5 K5 l) {tl:Ty} (ht:tl.op≠11) (hk:tl.kids=[]):b6 (x8 l tl)=x8 (l.map cF) tl:=by
 cases l with
 | nil=>exact Z3 ht hk
 | cons f l =>
  have h11:(x8 (f::l) tl).op=11:=b1f (by simp);rw[C9 h11,(G2 ht (f::l)).1,(G2 ht (f::l)).2,a2e h];rfl
section
variable {W:ByteArray->Bool}
theorem a75 {t:Ty} (h:c9 W t 114=true) (h11:t.op≠11):t.kids=[]/\(t.op=8\/t.op=9\/t.op=10):=by
 obtain⟨k,hk,h1,h2,-⟩:=f8 h;have h8:8<=t.op:=by simpa using h1
 unfold x6 at hk
 split at hk
 ·injection hk with hk;subst hk;exact⟨c2M h2,by omega⟩
 ·repeat' split at hk
  all_goals first|omega|cases hk
theorem J7 {t:Ty} (h:c9 W t 114=true):(j0 t).op≠11/\(j0 t).kids=[]/\((j0 t).op=8\/(j0 t).op=9\/(j0 t).op=10):=by
 have h1:=b6W (j5 h).self;have h2:=a75 (v6 h).2 h1;exact⟨h1,h2.1,h2.2⟩
theorem U4 {t:Ty} (h:c9 W t 114=true):c6 (b6 t)=(i6 K5 (c6 t)).map cF/\j0 (b6 t)=j0 t:=by
 have ht:=J7 h
 by_cases h11:t.op=11
 ·rw[C9 h11];exact G2 ht.1 _
 ·obtain⟨h1,h2⟩:=E9 h11;rw[Z3 h11 (a75 h h11).1,h1,h2];exact⟨rfl,rfl⟩
theorem a0G {t:Ty} (h:c9 W t 114=true):t=x8 (c6 t) (j0 t):=by
 induction t using Ty.ind with
 | h t ih =>
  by_cases h11:t.op=11
  ·obtain⟨_,a,b,hk,hn,hw,ha,hb⟩:=F8 h h11;obtain⟨a',b',hk',hsb,hf,ht⟩:=C7 (j5 h).self h11;rw[hk] at hk';injection hk' with e1 e2;injection e2 with e2 _;subst e1;subst e2;rw[hf,ht,A8,<-ih b (by rw[hk];simp) hb]
   conv=>lhs;rw[Ty.eta t,h11,hn,hk]
  ·obtain⟨h1,h2⟩:=E9 h11;rw[h1,h2];rfl
theorem a0H {t:Ty} (h:c9 W t 114=true):b6 t=x8 ((i6 K5 (c6 t)).map cF) (j0 t):=by
 by_cases h11:t.op=11
 ·exact C9 h11
 ·obtain⟨h1,h2⟩:=E9 h11;rw[Z3 h11 (a75 h h11).1,h1,h2];rfl
theorem y7:∀(n:Nat) (t:Ty) (s:Int),t.parts.length<=n->c9 W t s=true->b6 (b6 t)=b6 t:=by
 intro n
 induction n with
 | zero=>intro t s h;have:=l6 t;omega
 | succ n ih =>
  intro t s hn h
  by_cases h11:t.op=11
  ·obtain⟨rfl,-⟩:=F8 h h11;have ht:=J7 h;rw[a0H h,a4g (b7f (J5 a4R _)) ht.1 ht.2.1,c3s]
   congr 1
   refine c3n λf hf=>?_
   have hm:=A7 hf;have h1:=x9 _ t (c2A _) f hm;have h2:=(v6 h).1 f hm;show (f.1,b6 (b6 f.2))=(f.1,b6 f.2);rw[ih f.2 116 (by omega) h2.2]
  ·rw[w6 h11,w6 (by exact h11)];simp only[Ty.op,Ty.name,Ty.n,Ty.kids];rw[c3s]
   congr 1
   obtain⟨k,hk,h1,h2,h3,h4,h5,h6⟩:=f8 h;refine c3n λx hx=>?_
   obtain⟨i,hi⟩:=c2Z.1 hx;have hil:i<k.length:=by rw[<-h2];exact(c25.1 hi).1
   have hxs:=a2d h6 i x _ hi (c28 hil);have:=(o7 t).2 x hx;exact ih x _ (by omega) hxs
end
def a1G (c:List (Int×Ty)) (n:Int) (to:Ty):Option (List (Int×Ty)) :=
 match c.find? λp=>p.1 == n with
 | some p=>if J9 p.2 to=true then some c else none
 | none=>some (c++[(n,to)])
def G3 (nm:ByteArray):List (ByteArray×Ty)->Option (Ty×List (ByteArray×Ty))
 | []=>none
 | f::l=>if f.1=nm then some (f.2,l) else (G3 nm l).map λp=>(p.1,f::p.2)
theorem a8K (nm:ByteArray):∀l:List (ByteArray×Ty),G3 nm (l.map cF)=(G3 nm l).map λp=>(b6 p.1,p.2.map cF)
 | []=>rfl
 | f::l=>by
  rw[c2Y,G3,G3,a8K nm l];show (if f.1=nm then _ else _)=_
  split
  ·rfl
  ·cases G3 nm l <;> rfl
theorem a4h (nm:ByteArray):∀l:List (ByteArray×Ty),(∀f∈l,f.1≠nm)->G3 nm l=none
 | [],_=>rfl
 | f::l,h=>by rw[G3,c2H (h f (c27 ..)),a4h nm l λg hg=>h g (c26 _ hg)];rfl
theorem a4i (nm:ByteArray):∀l m:List (ByteArray×Ty),(∀f∈l,f.1≠nm)->G3 nm (l++m)=(G3 nm m).map λp=>(p.1,l++p.2)
 | [],m,_=>by
  rw[c3t];cases G3 nm m <;> rfl
 | f::l,m,h=>by
  rw[c3C,G3,c2H (h f (c27 ..)),a4i nm l m λg hg=>h g (c26 _ hg)];cases G3 nm m <;> rfl
def w9:Nat->Ty->Ty->List (Int×Ty)->Option (List (Int×Ty))
 | 0,_,_,_=>none
 | m+1,g,s,c =>
  if g.op=7\/g.op=10 then a1G c g.n s
  else if g.op=11 then
   match g.kids with
   | [a,b]=>(G3 g.name (c6 s)).bind λp=>(w9 m a p.1 c).bind λc'=>w9 m b (x8 p.2 (j0 s)) c'
   | _=>none
  else if g.op≠s.op then none else (g.kids.zip s.kids).foldlM (λc p=>w9 m p.1 p.2 c) c
theorem Z4 {m:Nat} {g s:Ty} {c:List (Int×Ty)} (h:g.op=7\/g.op=10):w9 (m+1) g s c=a1G c g.n s:=by rw[w9,c2E h]
theorem Z5 {m:Nat} {g s a b:Ty} {c:List (Int×Ty)} (h11:g.op=11) (hk:g.kids=[a,b]):w9 (m+1) g s c=(G3 g.name (c6 s)).bind λp=>(w9 m a p.1 c).bind λc'=>w9 m b (x8 p.2 (j0 s)) c':=by
 rw[w9,c2H (by omega),c2E h11,hk]
theorem T1 {m:Nat} {g s:Ty} {c:List (Int×Ty)} (h:¬(g.op=7\/g.op=10)) (h11:g.op≠11):w9 (m+1) g s c=if g.op≠s.op then none else (g.kids.zip s.kids).foldlM (λc p=>w9 m p.1 p.2 c) c:=by
 rw[w9,c2H h,c2H h11]
theorem a4S {g a b:Ty} (hk:g.kids=[a,b]):g.parts.length=1+a.parts.length+b.parts.length:=by
 rw[d5,hk];simp only[c2D,c3H,c4f,c3b,c29];omega
section
variable {W:ByteArray->Bool}
end
def goC (T:Ty->Ty->List (Int×Ty)->Option (List (Int×Ty))):List (ByteArray×Ty)->List (ByteArray×Ty)->List (ByteArray×Ty)->List (Int×Ty)->Option (List (Int×Ty)×List (ByteArray×Ty))
 | [],[],left,c=>some (c,left)
 | _::_,[],_,_=>none
 | [],x::ml,left,c=>goC T [] ml (left++[x]) c
 | g::gl,x::ml,left,c=>if K5 g x=true then none else if g.1≠x.1 then goC T (g::gl) ml (left++[x]) c else (T g.2 x.2 c).bind λc'=>goC T gl ml left c'
def b1n (gt t:Ty) (p:List (Int×Ty)×List (ByteArray×Ty)):Option (List (Int×Ty)) :=
 if gt.op=10 then a1G p.1 gt.n (x8 p.2 t) else if p.2=[]/\gt.op=t.op then some p.1 else none
theorem b28 {m:Nat} {gt t:Ty} {left:List (ByteArray×Ty)} {c:List (Int×Ty)} (hg:gt.op=8\/gt.op=9\/gt.op=10) (hgk:gt.kids=[]):b1n gt t (c,left)=w9 (m+1) gt (x8 left t) c:=by
 unfold b1n
 by_cases h10:gt.op=10
 ·rw[c2E h10,Z4 (.inr h10)]
 ·rw[c2H h10,T1 (by omega) (by omega),hgk];cases left with
  | nil =>
   show _=if gt.op≠t.op then none else some c
   by_cases h:gt.op=t.op
   ·rw[c2E ⟨rfl,h⟩,c2H (λhn=>hn h)]
   ·rw[c2H (λhn=>h hn.2),c2E h]
  | cons f left =>
   rw[c2H (by simp),c2E];show gt.op≠11;omega
theorem b7g {T:Ty->Ty->List (Int×Ty)->Option (List (Int×Ty))} {gt t:Ty} (hg:gt.op=8\/gt.op=9\/gt.op=10) (hgk:gt.kids=[]) (ht:t.op≠11):∀(ml gl left:List (ByteArray×Ty)) (c:List (Int×Ty)) (m:Nat),
  (∀f∈gl,∀x∈ml,∀c k,f.2.parts.length<=k->T f.2 x.2 c=w9 k f.2 x.2 c)->N5 K5 gl->N5 K5 ml->(∀x∈left,∀f∈gl,x.1≠f.1)->(x8 gl gt).parts.length<=m->(goC T gl ml left c).bind (b1n gt t)=w9 m (x8 gl gt) (x8 (left++ml) t) c:=by
 intro ml
 induction ml with
 | nil =>
  intro gl left c m hT hs1 hs2 hl hm;cases m with
  | zero=>have:=l6 (x8 gl gt);omega
  | succ m =>
   rw[c3b];cases gl with
   | nil=>exact b28 hg hgk
   | cons g gl =>
    rw[goC,Z5 (a:=g.2) (b:=x8 gl gt) (by rfl) (by rfl),(G2 ht left).1,show (x8 (g::gl) gt).name=g.1 from rfl,a4h _ left λx hx=>hl x hx g (c27 ..)];rfl
 | cons x ml ih =>
  intro gl left c m hT hs1 hs2 hl hm;have hs2':=c3l.1 hs2;have e:left++x::ml=(left++[x])++ml:=by simp
  cases gl with
  | nil =>
   rw[goC,e];exact ih [] (left++[x]) c m (λf hf=>by simp at hf) hs1 hs2'.2 (λy _ f hf=>by simp at hf) hm
  | cons g gl =>
   have hs1':=c3l.1 hs1;have hfs:=(G2 ht (left++x::ml));cases m with
   | zero=>have:=l6 (x8 (g::gl) gt);omega
   | succ m =>
    rw[goC]
    by_cases h1:K5 g x=true
    ·rw[c2E h1,Z5 (a:=g.2) (b:=x8 gl gt) (by rfl) (by rfl),hfs.1,show (x8 (g::gl) gt).name=g.1 from rfl,a4h]
     ·rfl
     ·intro f hf e
      rcases c2W.1 hf with hf|hf
      ·exact hl f hf g (c27 ..) e
      ·have h2:K5 g f=true:=by
        rcases c2C.1 hf with rfl|hf
        ·exact h1
        ·exact a0r a4R h1 (hs2'.1 f hf)
       unfold K5 at h2;rw[e,a1E] at h2;cases h2
    ·rw[c2H h1];have h1':K5 g x=false:=by simpa using h1
     by_cases h2:g.1=x.1
     ·rw[c2H (λh=>h h2),hT g (c27 ..) x (c27 ..) c m (by
       have:=a4S (show (x8 (g::gl) gt).kids=[g.2,x8 gl gt] from rfl)
       omega),Z5 (a:=g.2) (b:=x8 gl gt) (by rfl) (by rfl),hfs.1,hfs.2,show (x8 (g::gl) gt).name=g.1 from rfl,a4i _ left _ λf hf=>hl f hf g (c27 ..),G3,c2E h2.symm]
      show _=(w9 m g.2 x.2 c).bind _;cases w9 m g.2 x.2 c with
      | none=>rfl
      | some c' =>
       have:=a4S (show (x8 (g::gl) gt).kids=[g.2,x8 gl gt] from rfl);exact ih gl left c' m (λf hf y hy=>hT f (c26 _ hf) y (c26 _ hy)) hs1'.2 hs2'.2 (λy hy f hf=>hl y hy f (c26 _ hf)) (by omega)
     ·rw[c2E h2,e];refine ih (g::gl) (left++[x]) c (m+1) (λf hf y hy=>hT f hf y (c26 _ hy)) hs1 hs2'.2 (λy hy f hf=>?_) hm
      rcases c2W.1 hy with hy|hy
      ·exact hl y hy f hf
      ·simp at hy
       subst hy;intro e
       have h3:K5 y f=true:=by
        rcases c2C.1 hf with rfl|hf
        ·exact a9T h1' h2
        ·exact a0r a4R (a9T h1' h2) (hs1'.1 f hf)
       unfold K5 at h3;rw[e,a1E] at h3;cases h3
def a6a (T:Ty->Ty->List (Int×Ty)->Option (List (Int×Ty))) (g s:Ty) (c:List (Int×Ty)):Option (List (Int×Ty)):=(goC T (c6 g) (c6 s) [] c).bind (b1n (j0 g) (j0 s))
def F7:Nat->Ty->Ty->List (Int×Ty)->Option (List (Int×Ty))
 | 0,_,_,_=>none
 | m+1,g,s,c =>
  if g.op=7 then a1G c g.n s
  else if g.op=5\/g.op=6 then
   if s.op=g.op then
    match g.kids,s.kids with
    | [a],[b]=>a6a (F7 m) a b c
    | _,_=>none
   else none
  else if g.op=4 then
   if s.op=4 then
    match g.kids,s.kids with
    | [a,b],[x,y]=>(F7 m a x c).bind λc'=>F7 m b y c'
    | _,_=>none
   else none
  else if s.op=g.op then some c else none
def Cn (t:Ty):Prop:=b6 t=t
section
variable {W:ByteArray->Bool}
theorem J8 {t:Ty} (h:c9 W t 114=true) (hc:Cn t):N5 K5 (c6 t)/\∀f∈c6 t,Cn f.2:=by
 have h1:=(U4 h).1;rw[hc] at h1;have h2:N5 K5 (c6 t):=by rw[h1];exact b7f (J5 a4R _)
 refine⟨h2,λf hf=>?_⟩;have h3:=hf;rw[h1,a2e h2] at h3;obtain⟨g,hg,rfl⟩:=c3k.1 h3;exact y7 _ g.2 116 (c2A _) ((v6 h).1 g hg).2
theorem a1r {t:Ty} (h11:t.op≠11) (hc:Cn t):∀x∈t.kids,Cn x:=by
 have h1:t.kids.map b6=t.kids:=by
  have h2:=congrArg Ty.kids hc;rw[w6 h11] at h2;exact h2
 intro x hx;obtain⟨i,hi⟩:=c2Z.1 hx;have h3:=congrArg (·[i]?) h1;simp only[c3i,hi,c3F] at h3;exact Option.some.inj h3
theorem b29 {T:Ty->Ty->List (Int×Ty)->Option (List (Int×Ty))} {g s:Ty} (hg:c9 W g 114=true) (hs:c9 W s 114=true) (cg:Cn g) (cs:Cn s) (hT:∀f∈c6 g,∀x∈c6 s,∀c k,f.2.parts.length<=k->T f.2 x.2 c=w9 k f.2 x.2 c) (c:List (Int×Ty)) (m:Nat) (hm:g.parts.length<=m):a6a T g s c=w9 m g s c:=by
 have h1:=b7g (T:=T) (J7 hg).2.2 (J7 hg).2.1 (J7 hs).1 (c6 s) (c6 g) [] c m hT (J8 hg cg).1 (J8 hs cs).1 (by simp) (by rw[<-a0G hg];exact hm);rw[c3t,<-a0G hg,<-a0G hs] at h1;exact h1
theorem a3a:∀(m:Nat) (g s:Ty) (c:List (Int×Ty)) (k:Nat),c9 W g 116=true->c9 W s 116=true->Cn g->Cn s->g.parts.length<=m->g.parts.length<=k->F7 m g s c=w9 k g s c:=by
 intro m
 induction m with
 | zero=>intro g s c k _ _ _ _ h;have:=l6 g;omega
 | succ m ih =>
  intro g s c k hg hs cg cs hm hk;cases k with
  | zero=>have:=l6 g;omega
  | succ k =>
   obtain⟨kg,hkg,h1,h2,h3,h4,h5,h6⟩:=f8 hg;obtain⟨ks,hks,h1',h2',h3',h4',h5',h6'⟩:=f8 hs;have h8:¬(8<=g.op):=by simpa using h1
   have h8':¬(8<=s.op):=by simpa using h1'
   rw[F7]
   by_cases h7:g.op=7
   ·rw[c2E h7,Z4 (.inl h7)]
   ·rw[c2H h7,T1 (by omega) (by omega)]
    by_cases h56:g.op=5\/g.op=6
    ·rw[c2E h56]
     by_cases he:s.op=g.op
     ·rw[c2E he,c2H (λh=>h he.symm)];have e:x6 g.op=some [114]:=by unfold x6;rw[c2H (by omega),c2H (by omega),c2E h56]
      rw[e] at hkg;rw[he,e] at hks;injection hkg with hkg;injection hks with hks;subst hkg;subst hks;have hcg:=a1r (by omega) cg;have hcs:=a1r (by omega) cs;have hkl:=(o7 g).2;generalize g.kids=gk at *;generalize s.kids=sk at *
      match gk,sk,h2,h2',h6,h6' with
      | [a],[b],_,_,h6,h6' =>
       rw[n6,c2B] at h6 h6';have ha:=hkl a (by simp)
       have hr:=b29 (T:=F7 m) h6.1 h6'.1 (hcg a (by simp)) (hcs b (by simp)) (λf hf x hx c k' hk'=>by
        have h7:=(v6 h6.1).1 f hf;have h8:=(v6 h6'.1).1 x hx;have h9:=x9 _ a (c2A _) f hf
        exact ih f.2 x.2 c k' h7.2 h8.2 ((J8 h6.1 (hcg a (by simp))).2 f hf) ((J8 h6'.1 (hcs b (by simp))).2 x hx) (by omega) hk') c k (by omega)
       simp only[hr,c4p,List.zip_nil_right,c4n,List.foldlM_nil];cases w9 k a b c <;> rfl
     ·rw[c2H he,c2E (λh=>he h.symm)]
    ·rw[c2H h56]
     by_cases h44:g.op=4
     ·rw[c2E h44]
      by_cases he:s.op=4
      ·rw[c2E he,c2H (λh=>h (by omega))];have e:x6 4=some [116,116]:=by decide
       rw[h44,e] at hkg;rw[he,e] at hks;injection hkg with hkg;injection hks with hks;subst hkg;subst hks;have hcg:=a1r (by omega) cg;have hcs:=a1r (by omega) cs;have hkl:=(o7 g).2;generalize g.kids=gk at *;generalize s.kids=sk at *
       match gk,sk,h2,h2',h6,h6' with
       | [a,b],[x,y],_,_,h6,h6' =>
        rw[n6,c2B,n6,c2B] at h6 h6';have ha:=hkl a (by simp);have hb:=hkl b (by simp);have i1:=ih a x c k h6.1 h6'.1 (hcg a (by simp)) (hcs x (by simp)) (by omega) (by omega);simp only[i1,c4p,List.zip_nil_right,c4n,List.foldlM_nil];cases w9 k a x c with
        | none=>rfl
        | some c' =>
         have i2:=ih b y c' k h6.2.1 h6'.2.1 (hcg b (by simp)) (hcs y (by simp)) (by omega) (by omega);simp only[c3A,i2];show w9 k b y c'=(w9 k b y c').bind λc=>some c
         cases w9 k b y c' <;> rfl
      ·rw[c2H he,c2E (by omega)]
     ·rw[c2H h44]
      have e:x6 g.op=some []:=by
       unfold x6 at hkg ⊢
       split at hkg
       ·rename_i h;rw[c2E h]
       ·repeat' split at hkg
        all_goals first|omega|cases hkg
      rw[e] at hkg;injection hkg with hkg;subst hkg;have hgk:g.kids=[]:=c2M h2;rw[hgk]
      by_cases he:s.op=g.op
      ·rw[c2E he,c2H (λh=>h he.symm)];rfl
      ·rw[c2H he,c2E (λh=>he h.symm)]
end
def a1m (c:List (Int×Ty)):List Int:=c.map (·.1)
theorem a4j {c c':List (Int×Ty)} {n:Int} {x:Ty} (h:a1G c n x=some c'):((a1m c).Nodup->(a1m c').Nodup)/\(∀k∈a1m c,k∈a1m c')/\n∈a1m c':=by
 unfold a1G at h
 split at h
 ·rename_i p hp
  split at h
  ·injection h with h;subst h;have h1:=c37 hp;have h2:=c4h hp;exact⟨id,λk hk=>hk,c3k.2 ⟨p,h1,by simpa using h2⟩⟩
  ·cases h
 ·rename_i hp;injection h with h;subst h;rw[c45] at hp;unfold a1m;rw[c3G];refine⟨λhn=>c4u.2 ⟨hn,by simp,λa ha b hb e=>?_⟩,λk hk=>c33 _ hk,by simp⟩
  simp at hb
  subst hb;subst e;obtain⟨p,hp1,hp2⟩:=c3k.1 ha;exact hp p hp1 (by simp[hp2])
def b2A (c c':List (Int×Ty)):Prop:=((a1m c).Nodup->(a1m c').Nodup)/\∀k∈a1m c,k∈a1m c'
theorem b2A.trans {a b c:List (Int×Ty)} (h:b2A a b) (k:b2A b c):b2A a c:=⟨λx=>k.1 (h.1 x),λn x=>k.2 n (h.2 n x)⟩
theorem a8M {f:List (Int×Ty)->Ty×Ty->Option (List (Int×Ty))}:∀ {P:List (Ty×Ty)} {c c':List (Int×Ty)},(∀p∈P,∀c c',f c p=some c'->b2A c c'/\∀v∈p.1.parts,r9 v=true->v.n∈a1m c')->P.foldlM f c=some c'->b2A c c'/\∀p∈P,∀v∈p.1.parts,r9 v=true->v.n∈a1m c'
 | [],c,c',_,h=>by
  simp at h
  subst h;exact⟨⟨id,λ_ h=>h⟩,by simp⟩
 | p::P,c,c',hf,h=>by
  rw[c4n] at h;cases h1:f c p with
  | none=>rw[h1] at h;cases h
  | some c1 =>
   rw[h1] at h;have a1:=hf p (c27 ..) c c1 h1;have a2:=a8M (λq hq=>hf q (c26 _ hq)) (c:=c1) (c':=c') h;refine⟨a1.1.trans a2.1,λq hq v hv hi=>?_⟩
   rcases c2C.1 hq with rfl|hq
   ·exact a2.1.2 _ (a1.2 v hv hi)
   ·exact a2.2 q hq v hv hi
theorem a3b:∀(m:Nat) (g s:Ty) (c c':List (Int×Ty)),w9 m g s c=some c'->b2A c c':=by
 intro m
 induction m with
 | zero=>intro g s c c' h;cases h
 | succ m ih =>
  intro g s c c' h
  by_cases hv:g.op=7\/g.op=10
  ·rw[Z4 hv] at h;exact⟨(a4j h).1,(a4j h).2.1⟩
  ·by_cases h11:g.op=11
   ·rw[w9,c2H hv,c2E h11] at h
    split at h
    ·cases h1:G3 g.name (c6 s) with
     | none=>rw[h1] at h;cases h
     | some p =>
      rw[h1] at h;simp only[c3A] at h;cases h2:w9 m _ p.1 c with
      | none=>rw[h2] at h;cases h
      | some c1 =>
       rw[h2] at h;exact(ih _ _ _ _ h2).trans (ih _ _ _ _ h)
    ·cases h
   ·rw[T1 hv h11] at h
    split at h
    ·cases h
    ·generalize g.kids.zip s.kids=P at h;clear hv h11
     induction P generalizing c with
     | nil=>simp at h;subst h;exact⟨id,λ_ h=>h⟩
     | cons p P ihP =>
      rw[c4n] at h;cases h1:w9 m p.1 p.2 c with
      | none=>rw[h1] at h;cases h
      | some c1=>rw[h1] at h;exact(ih _ _ _ _ h1).trans (ihP c1 h)
theorem a3z (nm:ByteArray):∀ {l:List (ByteArray×Ty)} {p:Ty×List (ByteArray×Ty)},G3 nm l=some p->(nm,p.1)∈l/\∀f∈p.2,f∈l
 | [],p,h=>by cases h
 | f::l,p,h=>by
  rw[G3] at h
  split at h
  ·rename_i e;injection h with h;subst h;subst e;exact⟨c27 ..,λg hg=>c26 _ hg⟩
  ·cases h1:G3 nm l with
   | none=>rw[h1] at h;cases h
   | some q =>
    rw[h1] at h;injection h with h;subst h;have ih:=a3z nm h1;refine⟨c26 _ ih.1,λg hg=>?_⟩
    rcases c2C.1 hg with rfl|hg
    ·exact c27 ..
    ·exact c26 _ (ih.2 g hg)
section
variable {W:ByteArray->Bool}
theorem H4 {t:Ty} {s:Int} (h:c9 W t s=true) (hv:t.op=7\/t.op=10):t.kids=[]:=by
 obtain⟨k,hk,h1,h2,-⟩:=f8 h;unfold x6 at hk;rw[c2E (by omega)] at hk;injection hk with hk;subst hk;exact c2M h2
theorem j9 {t:Ty}:r9 t=true↔t.op=7\/t.op=10:=by unfold r9;simp
theorem a9U:∀(m:Nat) (g s:Ty) (c c':List (Int×Ty)) (e:Int),c9 W g e=true->c9 W s e=true->w9 m g s c=some c'->∀v∈g.parts,r9 v=true->v.n∈a1m c':=by
 intro m
 induction m with
 | zero=>intro g s c c' e _ _ h;cases h
 | succ m ih =>
  intro g s c c' e hg hs h v hvm hvv;rw[d5] at hvm
  by_cases hv:g.op=7\/g.op=10
  ·rw[Z4 hv] at h;rw[H4 hg hv] at hvm
   simp at hvm
   subst hvm;exact(a4j h).2.2
  ·have hgv:v≠g:=λe=>by rw[e,j9] at hvv;exact hv hvv
   have hvm:=(c2C.1 hvm).resolve_left hgv
   by_cases h11:g.op=11
   ·obtain⟨rfl,a,b,hk,hn,hw,ha,hb⟩:=F8 hg h11;rw[Z5 h11 hk] at h;rw[hk] at hvm;simp only[c3H,c4f,c3b,c2W] at hvm;cases h1:G3 g.name (c6 s) with
    | none=>rw[h1] at h;cases h
    | some p =>
     rw[h1] at h;simp only[c3A] at h;cases h2:w9 m a p.1 c with
     | none=>rw[h2] at h;cases h
     | some c1 =>
      rw[h2] at h;have hf:=(v6 hs);have ht:=a3z g.name h1
      rcases hvm with hvm|hvm
      ·exact(a3b m _ _ _ _ h).2 _ (ih a p.1 c c1 116 ha (hf.1 _ ht.1).2 h2 v hvm hvv)
      ·exact ih b _ c1 c' 114 hb (a1c hf.2 λf hfm=>hf.1 f (ht.2 f hfm)) h v hvm hvv
   ·rw[T1 hv h11] at h
    split at h
    ·cases h
    ·rename_i he;have he:g.op=s.op:=Classical.not_not.1 he;have hb:b5u W g s:=⟨e,hg,hs⟩;have hkk:=hb.kids he;obtain⟨x,hx,hvx⟩:=c2U.1 hvm;obtain⟨i,hi⟩:=c2Z.1 hx;have hil:i<s.kids.length:=by rw[<-hkk.1];exact(c25.1 hi).1
     have hz:(x,s.kids[i])∈g.kids.zip s.kids:=c2Z.2 ⟨i,c3V.2 ⟨hi,c28 hil⟩⟩
     have hf:=a8M (f:=λc p=>w9 m p.1 p.2 c) (P:=g.kids.zip s.kids) (λp hp c c' hm=>⟨a3b m _ _ _ _ hm,λv hv hi=>by
      obtain⟨j,hj⟩:=c2Z.1 hp;rw[c3V] at hj;obtain⟨d,hd1,hd2⟩:=hkk.2 j p.1 p.2 hj.1 hj.2
      exact ih p.1 p.2 c c' d hd1 hd2 hm v hv hi⟩) h
     exact hf.2 _ hz v hvx hvv
end
theorem b7h {c:List (Int×Ty)} {n:Int} (hn:(a1m c).Nodup) (h:n∈a1m c):∃x,(c.find? λp=>p.1 == n)=some (n,x)/\c.filter (λp=>p.1 == n)=[(n,x)]:=by
 induction c with
 | nil=>simp[a1m] at h
 | cons p c ih =>
  obtain⟨k,x⟩:=p;have hn':=c34.1 (show (k::a1m c).Nodup from hn)
  by_cases e:k=n
  ·subst e;refine⟨x,by simp,?_⟩;rw[List.filter_cons_of_pos (by simp)]
   congr 1
   rw[List.filter_eq_nil_iff];intro q hq hq2;exact hn'.1 (c3k.2 ⟨q,hq,by simpa using hq2⟩)
  ·have h':n∈a1m c:=(c2C.1 (show n∈k::a1m c from h)).resolve_left λh=>e h.symm
   obtain⟨y,h1,h2⟩:=ih hn'.2 h';exact⟨y,by rw[c4E (by simpa using e)];exact h1,by rw[List.filter_cons_of_neg (by simpa using e)];exact h2⟩
end
theorem b4b (fs:List (ByteArray×Ty)):i6 z7 (rF fs)=rF (i6 K5 fs):=Z2 (f:=λx:ByteArray×Ty=>D.sc (.string x.1)::cT x.2) (λ_ _=>rfl) fs
theorem b7i (fs:List (ByteArray×Ty)):∀x∈rF fs,Ok5 x:=λx hx=>by
 obtain⟨f,_,rfl⟩:=c3k.1 hx;obtain⟨c0,c1,c2,c3,h⟩:=d6 f.2;exact⟨f.1,c0,c1,c2,c3,by show D.sc (.string f.1)::cT f.2=_;rw[h]⟩
theorem a9V (fs:List (ByteArray×Ty)) (f:ByteArray×Ty):rF (fs++[f])=rF fs++[.sc (.string f.1)::cT f.2]:=by unfold rF;rw[c3G];rfl
theorem b2B (t:Ty) (hs:Q9 t) (hN:t.parts.length<=1048576):j3 60 [.ag (ofD (cT t))] [] (λres os'=>res=[.own 0,.ag (ofD (cT (j0 t)))]/\os'=[.row false 73 (rF (i6 K5 (c6 t)))]):=by
 have hso:=b1l 77 b8P (rF (c6 t)) (b7i _) (by rw[U3];have:=L5 _ t (c2A _);omega);rw[b4b] at hso;obtain⟨Q,hQ⟩:∃Q,Q=rF (i6 K5 (c6 t)):=⟨_,rfl⟩;obtain⟨M,hM⟩:∃M,M=rF (c6 t):=⟨_,rfl⟩;rw[<-hQ,<-hM] at hso;rw[<-hQ];obtain⟨q0,q1,q2,q3,hq⟩:=d6 (j0 t);rw[hq];obtain⟨op,nm,n,ks⟩:=t;generalize ht:Ty.mk op nm n ks=t at *;have hc:cT t=[.sc (.int .u8 op),.sc (.string nm),.sc (.int .i64 n),.sl 4 (rT ks)]:=by rw[<-ht,cT]
 obtain⟨K0,hK0⟩:∃K,K=rT ks:=⟨_,rfl⟩;rw[hc,<-hK0];refine so9 Tryd.func60 rfl ?_;intro _ _ _ _ _ _ _ _ _ qj _ _ _ _ _ _ _ _ _ _ _ _ _ qz _ vc;intros;rename_i hA;cbv
 repeat (first|(refine a55 hA 4 73 false rfl ?_;cbv)|(with_reducible apply b5 hA;cbv))
 obtain⟨e1,e2,e3,e4,e5,e6,e7,e8,e9⟩:=j8 hA;obtain⟨r1,r2,r3,r4⟩:=n9 hA
 refine l9 hA (γ:=Ty×Int×ByteArray×Int×List (List D)×List (List D)) (λx=>[(4,.own 2)]) (λx=>[(0,.box [.d (.sc (.int .u8 x.2.1)),.d (.sc (.string x.2.2.1)),.d (.sc (.int .i64 x.2.2.2.1)),.d (.sl 4 x.2.2.2.2.1)]),(2,.row false 73 x.2.2.2.2.2)])
  (λx=>∃ks fs,x.1=.mk x.2.1 x.2.2.1 x.2.2.2.1 ks/\x.2.2.2.2.1=rT ks/\Q9 x.1/\x.2.2.2.2.2=rF fs/\fs++c6 x.1=c6 t/\j0 x.1=j0 t/\fs.length+x.1.parts.length<=1048576) (λx=>x.1.parts.length) (t,op,nm,n,K0,[]) ?_ ?_ ?_
 ·exact⟨ks,[],ht.symm,hK0,hs,rfl,rfl,rfl,by simpa using hN⟩
 ·cbv
 ·intro x hinv;obtain⟨r,op,nm,n,K,L⟩:=x;cbv;refine gn ?_;try simp only[nc] at *
  obtain⟨ks,fs,hr,hK,hsr,hL,hfs,htl,hlen⟩:=hinv;have h11:qj op 11=decide (op=11):=e9 _ _
  by_cases hop:op=11
  ·rw[c2J hop] at h11;obtain⟨a,b,hk,hsb,hfb,htb⟩:=C7 hsr (by rw[hr];exact hop);have hnmr:r.name=nm:=by rw[hr];rfl
   rw[hnmr] at hfb;have hks:ks=[a,b]:=by rw[<-hk,hr];rfl
   obtain⟨a0,a1,a2,a3,ha⟩:=d6 a;obtain⟨op',nm',n',ks'⟩:=b;generalize hb:Ty.mk op' nm' n' ks'=b at *;have hcb:cT b=[.sc (.int .u8 op'),.sc (.string nm'),.sc (.int .i64 n'),.sl 4 (rT ks')]:=by rw[<-hb,cT]
   obtain⟨K',hK'⟩:∃K,K=rT ks':=⟨_,rfl⟩;rw[<-hK'] at hcb;have g0:qz K 0=some [a0,a1,a2,a3]:=by rw[r2,c2E (by omega),hK,hks];exact congrArg some ha
   have g1:qz K 1=some [.sc (.int .u8 op'),.sc (.string nm'),.sc (.int .i64 n'),.sl 4 K']:=by rw[r2,c2E (by omega),hK,hks];exact congrArg some hcb
   have hLl:L.length<=1048576:=by rw[hL,U3];omega
   have hbl:b.parts.length<r.parts.length:=(o7 r).2 b (by rw[hk];simp);have hnew:vc L [[.sc (.string nm),a0,a1,a2,a3]]=rF (fs++[(nm,a)]):=by rw[r4,a9V,hL,ha]
   rw[h11]
   iterate 2 (try cbv;repeat ((first|with_reducible apply b5 hA|rw[g0]|rw[g1]|refine P5 hA true ?_|(refine K4 hA (by simp only[r4,c29,c2D,c2N];omega) ?_));cbv))
   try simp (maxSteps:=4000000) only [nc] at *
   refine⟨(b,op',nm',n',K',vc L [[.sc (.string nm),a0,a1,a2,a3]]),⟨ks',fs++[(nm,a)],hb.symm,hK',hsb,hnew,by rw[<-hfs,hfb];simp,by rw[<-htl,htb],by rw[c29];show fs.length+1+b.parts.length<=_;omega⟩,hbl,?_⟩;cbv
  ·rw[c2G hop] at h11;obtain⟨hf0,ht0⟩:=E9 (t:=r) (by rw[hr];exact hop);rw[hf0,c3b] at hfs;have hLM:L=M:=by rw[hL,hM,hfs]
   rw[ht0,hr] at htl;rw[<-htl,cT,<-hK] at hq;rw[h11,hLM];cases hq;cbv;refine gn ?_;refine C3 hA [2] hso ⟨rfl,rfl,rfl,rfl,rfl,rfl,rfl⟩ ?_
   rintro res os2 ⟨rfl,rfl⟩
   cbv;refine gn ?_;exact d7 hA [2] ⟨rfl,rfl,rfl,rfl,rfl,rfl,rfl,rfl⟩ ⟨rfl,rfl⟩
section
def PtG {α:Type} (T:(α->Prop)->Prop):Prop:=∀K,T K->∃v,K v/\∀K',K' v->T K'
theorem Pt.g {T:(V->Prop)->Prop} (h:Pt T):PtG T:=h
theorem PtG.mono {α:Type} {T:(α->Prop)->Prop} (h:PtG T) {K K':α->Prop} (hT:T K) (hK:∀v,K v->K' v):T K':=by
 obtain⟨v,h1,h2⟩:=h K hT;exact h2 K' (hK v h1)
structure Ok (a:Ar):Prop where
 wrap:a.wrap=a7.wrap
 add:a.add=a7.add
 sub:a.sub=a7.sub
 mul:a.mul=a7.mul
 quo:a.quo=a7.quo
 rem:a.rem=a7.rem
 bits:a.bits=a7.bits
 lt:a.lt=a7.lt
 le:a.le=a7.le
 eq:a.eq=a7.eq
 nz:∀y k,a.nz y k->a7.nz y k
 nzp:∀y k k',a.nz y k->k'->a.nz y k'
 seq:a.seq=a7.seq
 slt:a.slt=a7.slt
 bytes:a.bytes=a7.bytes
 cat:a.cat=a7.cat
 fits:∀x y k,a.fits x y k->a7.fits x y k
 fitsp:∀x y k k',a.fits x y k->k'->a.fits x y k'
 slen:a.slen=a7.slen
 sget:a.sget=a7.sget
 ssub:a.ssub=a7.ssub
 txt:a.txt=a7.txt
 byt:a.byt=a7.byt
 nat:a.nat=a7.nat
 len:a.len=a7.len
 get:a.get=a7.get
 sub2:a.sub2=a7.sub2
 app:a.app=a7.app
 set:a.set=a7.set
 room:∀x y k,a.room x y k->a7.room x y k
 roomp:∀x y k k',a.room x y k->k'->a.room x y k'
 mlook:a.mlook=a7.mlook
 mput:a.mput=a7.mput
 deq:a.deq=a7.deq
 call:∀f rs K,a.call f rs K->a7.call f rs K
 callp:∀f rs,PtG (a.call f rs)
 calld:∀f vs o K,a.calld f vs o K->a7.calld f vs o K
 calldp:∀f vs o,PtG (a.calld f vs o)
 rep:∀n z K,a.rep n z K->a7.rep n z K
 repp:∀n z,PtG (a.rep n z)
 callo:∀f vs s K,a.callo f vs s K->a7.callo f vs s K
 callop:∀f vs s,PtG λK:V×S->Prop=>a.callo f vs s λv s'=>K (v,s')
 callx:∀f vs l s K,a.callx f vs l s K->a7.callx f vs l s K
 callxp:∀f vs l s,PtG λK:V×S->Prop=>a.callx f vs l s λv s'=>K (v,s')
 new:∀e K,a.new e K->a7.new e K
 newp:∀e,PtG (a.new e)
 lit:∀t K,a.lit t K->a7.lit t K
 litp:∀t,PtG (a.lit t)
 next:∀N s,a.next N s->N s
 nextp:∀N s,N s->a.next N s
 ext:∀op dst s K,¬a.ext op dst s K
 reg:∀ops s K,¬a.reg ops s K
 loop:∀c body s K,a.loop c body s K->(∀s K K',(∀x s,K x s->K' x s)->body s K->body s K')->a8t Eq body s K
 loopp:∀c body s,(∀s,PtG λK:X×S->Prop=>body s λx s=>K (x,s))->PtG λK:X×S->Prop=>a.loop c body s λx s=>K (x,s)
theorem b7j {n:Int} {z:List D} {K K':List (List D)->Prop} (h:a7.rep n z K) (hK:∀b,K b->K' b):a7.rep n z K':=⟨h.1,hK _ h.2⟩
theorem b7k {e:Nat} {K K':Bool->Prop} (h:a7.lit e K) (hK:∀b,K b->K' b):a7.lit e K':=by obtain⟨z,h⟩:=h;exact⟨z,hK _ h⟩
section
variable {a:Ar} (h:Ok a)
include h
theorem Ok.load:B1 a=B1 a7:=by funext os K t x;unfold B1;simp only[h.get]
theorem Ok.indexAddr:o8 a=o8 a7:=by funext os K t x y;unfold o8;simp only[h.get,h.nat]
theorem Ok.index:a2z a=a2z a7:=by funext K t x y;unfold a2z;simp only[h.sget,h.nat]
theorem Ok.un:unV a=unV a7:=by funext op x K;unfold unV;simp only[h.wrap,h.sub]
theorem Ok.conv:a5O a=a5O a7:=by funext K k0 k x;unfold a5O b3o b3p b3q;simp only[h.wrap,h.txt,h.byt]
theorem Ok.lenV:lenV a=lenV a7:=by
 have e1:b4L a=b4L a7:=by funext os K x;unfold b4L;simp only[h.len]
 have e2:b4M a=b4M a7:=by funext K x;unfold b4M;simp only[h.slen]
 funext os K k x;unfold Vm.lenV;rw[e1,e2]
theorem Ok.slice:a2y a=a2y a7:=by funext os K t x lo hi;unfold a2y;simp only[h.slen,h.ssub,h.len,h.sub2]
theorem Ok.look:a5P a=a5P a7:=by funext os K t ok x y;unfold a5P;simp only[h.mlook]
theorem Ok.min:a9s a=a9s a7:=by funext K mx l;unfold a9s;simp only[h.lt]
theorem Ok.store {s:S}:E3 a s=E3 a7 s:=by funext K t y x;unfold E3;simp only[h.get,h.set]
theorem Ok.put {s:S}:a9t a s=a9t a7 s:=by funext K t x i v;unfold a9t;simp only[h.mput]
theorem Ok.rInt {k:IntKind} {x y:Int} {K:V->Prop} {op:BinOp} (hx:binInt a k x y K op):Vm.binInt a7 k x y K op:=by
 unfold Vm.binInt at hx;simp only[h.wrap,h.add,h.sub,h.mul,h.quo,h.rem,h.lt,h.le,h.eq] at hx
 split at hx <;> first|exact hx|exact hx.elim|exact h.nz _ _ hx
theorem Ok.rStr {x y:ByteArray} {K:V->Prop} {op:BinOp} (hx:binStr a x y K op):Vm.binStr a7 x y K op:=by
 unfold Vm.binStr at hx;simp only[h.cat,h.seq,h.bytes,h.slt] at hx
 split at hx <;> first|exact hx|exact hx.elim|exact h.fits _ _ _ hx
theorem Ok.rIntp {k:IntKind} {x y:Int} {op:BinOp}:Pt λK=>binInt a k x y K op:=by
 intro K hx;unfold Vm.binInt at hx ⊢
 split at hx <;> first|exact hx.elim|exact⟨_,hx,λK' hk=>hk⟩|exact⟨_,(h.nz _ _ hx).2,λK' hk=>h.nzp _ _ _ hx hk⟩
theorem Ok.rStrp {x y:ByteArray} {op:BinOp}:Pt λK=>binStr a x y K op:=by
 intro K hx;unfold Vm.binStr at hx ⊢
 split at hx <;> first|exact hx.elim|exact⟨_,hx,λK' hk=>hk⟩|exact⟨_,(h.fits _ _ _ hx).2,λK' hk=>h.fitsp _ _ _ _ hx hk⟩
theorem Ok.rVal {x y:Value} {K:V->Prop} {op:BinOp} (hx:a1t a op x y K):a1t a7 op x y K:=by
 unfold a1t at hx ⊢
 split at hx
 ·split at hx
  ·rename_i hb;rw[h.bits] at hx
   first|exact hx|(rw[hb];exact hx)
  ·rename_i hb
   split at hx
   ·rename_i hk
    first|exact h.rInt hx|(rw[hb,hk];exact h.rInt hx)
   ·exact hx.elim
 ·exact h.rStr hx
 ·exact hx.elim
theorem Ok.rValp {x y:Value} {op:BinOp}:Pt λK=>a1t a op x y K:=by
 intro K hx;unfold a1t at hx ⊢
 split at hx
 ·split at hx
  ·rename_i hb;unfold b9P at hx ⊢
   split at hx <;> try exact hx.elim
   rename_i hr;exact⟨_,hx,λK' hk=>by first|exact hk|(rw[hb,hr];exact hk)⟩
  ·rename_i hb
   split at hx
   ·rename_i hk;obtain⟨v,h1,h2⟩:=h.rIntp K hx;exact⟨v,h1,λK' hk'=>by first|exact h2 K' hk'|(rw[hb,hk];exact h2 K' hk')⟩
   ·exact hx.elim
 ·exact h.rStrp K hx
 ·exact hx.elim
theorem Ok.rBin {x y:V} {K:V->Prop} {op:BinOp} {t:Nat} (hx:a8h a op t x y K):a8h a7 op t x y K:=by
 unfold a8h at hx ⊢
 split at hx
 ·split at hx
  ·exact hx
  ·exact hx
  ·exact h.rVal hx
 ·exact hx
 ·exact hx
 ·split at hx
  ·rw[h.len] at hx;exact h.nz _ _ hx
  ·exact hx
 ·exact hx
 ·rw[h.deq] at hx;exact hx
 ·exact hx
theorem Ok.rBinp {x y:V} {op:BinOp} {t:Nat}:Pt λK=>a8h a op t x y K:=by
 intro K hx;unfold a8h at hx ⊢
 split at hx <;> try exact hx.elim
 ·split at hx
  ·split at hx <;> try exact hx.elim
   exact T8 _ hx
  ·split at hx <;> try exact hx.elim
   exact T8 _ hx
  ·exact h.rValp _ hx
 ·split at hx <;> try exact hx.elim
  split at hx <;> try exact hx.elim
  exact T8 _ hx
 ·split at hx <;> try exact hx.elim
  split at hx <;> try exact hx.elim
  exact T8 _ hx
 ·split at hx <;> try exact hx.elim
  obtain⟨v,h3,h4⟩:=T8 _ ((h.nz _ _ hx).2);exact⟨v,h3,λK' hk=>h.nzp _ _ _ hx (h4 _ hk)⟩
 ·split at hx <;> try exact hx.elim
  exact T8 _ hx
 ·split at hx <;> try exact hx.elim
  split at hx <;> try exact hx.elim
  split at hx <;> try exact hx.elim
  exact T8 _ hx
theorem Ok.rCall {os:List O} {f:Nat} {vs:List V} {K:V->Prop} (hx:callV a os K f vs):Vm.callV a7 os K f vs:=by
 unfold Vm.callV at hx ⊢
 split at hx
 ·exact h.call _ _ _ hx
 ·exact h.calld _ _ _ _ hx
theorem Ok.rCallp {os:List O} {f:Nat} {vs:List V}:Pt λK=>callV a os K f vs:=by
 intro K hx;unfold Vm.callV at hx ⊢
 split at hx
 ·obtain⟨q,h1,h2⟩:=h.callp _ _ _ hx;exact⟨_,h1,λK' hk=>h2 _ hk⟩
 ·obtain⟨q,h1,h2⟩:=h.calldp _ _ _ _ hx;exact⟨_,h1,λK' hk=>h2 _ hk⟩
theorem Ok.rC {g:Operand->V} {os:List O} {K:V->Prop} {op:Op} (hx:stepC a g os K op):Vm.stepC a7 g os K op:=by
 unfold Vm.stepC at hx
 split at hx <;> try exact hx.elim
 ·exact hx
 ·exact hx
 ·exact hx
 ·rw[h.load] at hx;exact hx
 ·exact hx
 ·exact hx
 ·rw[h.indexAddr] at hx;exact hx
 ·rw[h.index] at hx;exact hx
 ·exact h.rBin hx
 ·rw[h.un] at hx;exact hx
 ·rw[h.conv] at hx;exact hx
 ·exact hx
 ·exact hx
 ·exact hx
 ·rw[h.slice] at hx;exact hx
 ·rw[h.lenV] at hx;exact hx
 ·exact h.rCall hx
 ·rw[h.look] at hx;exact hx
 ·rw[h.min] at hx;exact hx
 ·rw[h.min] at hx;exact hx
 ·exact hx
 ·exact hx
 ·unfold a5h at hx
  split at hx <;> try exact hx.elim
  rename_i f ks hf;show (match fnV _ with|some (f,ks)=>_|none=>False);rw[hf];exact h.rCall hx
theorem Ok.rCp {g:Operand->V} {os:List O} {op:Op}:Pt λK=>stepC a g os K op:=by
 intro K hx;simp only[Vm.stepC] at hx ⊢
 split at hx <;> try exact hx.elim
 ·exact⟨_,hx,λK' hk=>hk⟩
 ·exact⟨_,hx,λK' hk=>hk⟩
 ·exact b3A K hx
 ·rw[h.load] at hx ⊢;exact a0D K hx
 ·exact b0L K hx
 ·exact b3B K hx
 ·rw[h.indexAddr] at hx ⊢;exact a4D K hx
 ·rw[h.index] at hx ⊢;exact b3C K hx
 ·exact h.rBinp K hx
 ·rw[h.un] at hx ⊢;exact b9A K hx
 ·rw[h.conv] at hx ⊢;exact b3E K hx
 ·exact b0M K hx
 ·exact a0g K hx
 ·exact a6W K hx
 ·rw[h.slice] at hx ⊢;exact b0N K hx
 ·rw[h.lenV] at hx ⊢;exact b6A K hx
 ·exact h.rCallp K hx
 ·rw[h.look] at hx ⊢;exact b3D K hx
 ·rw[h.min] at hx ⊢;exact a9C K hx
 ·rw[h.min] at hx ⊢;exact a9C K hx
 ·exact b99 K hx
 ·split at hx <;> try exact hx.elim
  exact⟨_,hx,λK' hk=>by simp only[*]⟩
 ·simp only[a5h] at hx ⊢
  split at hx <;> try exact hx.elim
  exact h.rCallp K hx
theorem Ok.rApp {m:Bool} {s:S} {dst:Option Nat} {K:S->Prop} {t:Nat} {x y:V} (hx:A9 a m s dst K t x y):A9 a7 m s dst K t x y:=by
 unfold A9 at hx ⊢;simp only[h.app] at hx
 repeat' split at hx
 all_goals first|exact hx.elim|exact⟨(h.room _ _ _ hx).1,h.new _ _ (h.room _ _ _ hx).2⟩|exact h.room _ _ _ hx
theorem Ok.rAppp {m:Bool} {s:S} {dst:Option Nat} {t:Nat} {x y:V}:PtG λK=>A9 a m s dst K t x y:=by
 intro K hx;simp only[A9] at hx ⊢
 repeat' split at hx
 all_goals first|exact hx.elim|skip
 ·obtain⟨z,h1,h2⟩:=h.newp _ _ (h.room _ _ _ hx).2;exact⟨_,h1,λK' hk=>h.roomp _ _ _ _ hx (h2 _ hk)⟩
 ·exact⟨_,(h.room _ _ _ hx).2,λK' hk=>h.roomp _ _ _ _ hx hk⟩
theorem Ok.rLit {s:S} {dst:Option Nat} {K:S->Prop} {t n:Nat} {ps:List (Nat×Operand)} (hx:litV a s dst K t n ps):Vm.litV a7 s dst K t n ps:=by
 unfold Vm.litV at hx ⊢
 split at hx
 ·refine a0g.g.mono hx λv hv=>?_
  split at hv
  ·exact h.new _ _ hv
  ·exact hv.elim
 ·exact hx.elim
theorem Ok.rLitp {s:S} {dst:Option Nat} {t n:Nat} {ps:List (Nat×Operand)}:PtG λK=>litV a s dst K t n ps:=by
 intro K hx;simp only[Vm.litV] at hx ⊢
 split at hx
 ·obtain⟨v,h1,h2⟩:=a0g _ hx
  split at h1
  ·obtain⟨z,h3,h4⟩:=h.newp _ _ h1;exact⟨_,h3,λK' hk=>h2 _ (h4 _ hk)⟩
  ·exact h1.elim
 ·exact hx.elim
theorem Ok.rMk {s:S} {dst:Option Nat} {K:S->Prop} {t:Nat} {x y:V} (hx:N1 a s dst K t x y):N1 a7 s dst K t x y:=by
 unfold N1 at hx ⊢;simp only[h.eq] at hx
 repeat' split at hx
 all_goals first|exact hx.elim|skip
 exact b7j (h.rep _ _ _ hx) λrows hr=>h.new _ _ hr
theorem Ok.rMkp {s:S} {dst:Option Nat} {t:Nat} {x y:V}:PtG λK=>N1 a s dst K t x y:=by
 intro K hx;simp only[N1] at hx ⊢
 repeat' split at hx
 all_goals first|exact hx.elim|skip
 obtain⟨rows,h1,h2⟩:=h.repp _ _ _ hx;obtain⟨z,h3,h4⟩:=h.newp _ _ h1;exact⟨_,h3,λK' hk=>h2 _ (h4 _ hk)⟩
theorem Ok.rStep {m:Bool} {s:S} {dst:Option Nat} {K:S->Prop} {op:Op} (hx:step a m s dst K op):Vm.step a7 m s dst K op:=by
 unfold Vm.step at hx
 split at hx
 ·exact hx
 ·exact hx
 ·split at hx
  ·rw[h.store] at hx;exact hx
  ·exact hx.elim
 ·exact h.rMk hx
 ·exact hx
 ·split at hx
  ·rw[h.put] at hx;exact hx
  ·exact hx.elim
 ·split at hx
  ·rename_i e he;show (match (ty _).elem with|some e=>_|none=>False);rw[he];exact h.new _ _ hx
  ·exact hx.elim
 ·exact h.rApp hx
 ·split at hx
  ·refine b7k (h.lit _ _ hx) λc hc=>?_
   cases c with
   | true=>exact h.rC hc
   | false=>exact h.rLit hc
  ·exact h.rC hx
 ·split at hx
  ·exact h.callo _ _ _ _ hx
  ·exact h.rC hx
 ·split at hx
  ·split at hx
   ·rename_i f ks hf;show (match fnV _ with|some (f,ks)=>_|none=>False);rw[hf];exact h.callo _ _ _ _ hx
   ·exact hx.elim
  ·exact h.rC hx
 ·have h1:=h.rC hx;unfold Vm.step
  split <;> first|exact h1|grind
theorem Ok.rStepp {m:Bool} {s:S} {dst:Option Nat} {op:Op}:PtG λK=>step a m s dst K op:=by
 intro K hx;simp only[Vm.step] at hx ⊢
 split at hx
 ·split at hx
  ·exact⟨_,hx,λK' hk=>hk⟩
  ·exact hx.elim
 ·split at hx
  ·rename_i cs hcs;exact⟨_,hx,λK' hk=>hk⟩
  ·exact hx.elim
 ·split at hx
  ·rw[h.store] at hx ⊢;obtain⟨o',h1,h2⟩:=a3r hx;exact⟨_,h1,λK' hk=>h2 _ _ hk⟩
  ·exact hx.elim
 ·exact h.rMkp K hx
 ·split at hx
  ·split at hx
   ·rename_i kt hkt;exact⟨_,hx,λK' hk=>hk⟩
   ·exact hx.elim
  ·exact hx.elim
 ·split at hx
  ·simp only[a9t] at hx ⊢
   repeat' split at hx
   all_goals first|exact hx.elim|exact⟨_,hx,λK' hk=>by simp only[*]⟩
  ·exact hx.elim
 ·split at hx
  ·rename_i e he;obtain⟨z,h1,h2⟩:=h.newp _ _ hx;exact⟨_,h1,λK' hk=>h2 _ hk⟩
  ·exact hx.elim
 ·exact h.rAppp K hx
 ·split at hx
  ·obtain⟨c,h1,h2⟩:=h.litp _ _ hx;cases c with
   | true =>
    obtain⟨v,h3,h4⟩:=h.rCp _ h1;exact⟨_,h3,λK' hk=>h2 _ (h4 _ hk)⟩
   | false =>
    obtain⟨v,h3,h4⟩:=h.rLitp _ h1;exact⟨_,h3,λK' hk=>h2 _ (h4 _ hk)⟩
  ·obtain⟨v,h3,h4⟩:=h.rCp _ hx;exact⟨_,h3,λK' hk=>h4 _ hk⟩
 ·split at hx
  ·obtain⟨⟨v,s'⟩,h1,h2⟩:=h.callop _ _ _ (λp=>K (p.2.put dst p.1)) hx;exact⟨_,h1,λK' hk=>h2 (λp=>K' (p.2.put dst p.1)) hk⟩
  ·obtain⟨v,h3,h4⟩:=h.rCp _ hx;exact⟨_,h3,λK' hk=>h4 _ hk⟩
 ·split at hx
  ·split at hx
   ·rename_i f ks hf;obtain⟨⟨v,s'⟩,h1,h2⟩:=h.callop _ _ _ (λp=>K (p.2.put dst p.1)) hx;exact⟨_,h1,λK' hk=>h2 (λp=>K' (p.2.put dst p.1)) hk⟩
   ·exact hx.elim
  ·obtain⟨v,h3,h4⟩:=h.rCp _ hx;exact⟨_,h3,λK' hk=>h4 _ hk⟩
 ·obtain⟨v,h3,h4⟩:=h.rCp _ hx;refine⟨_,h3,λK' hk=>?_⟩;exact h4 (λv=>K' (s.put dst v)) hk
theorem Ok.rStep1 {s:S} {dst:Option Nat} {K:S->Prop} {op:Op} (hx:step1 a s dst K op):Vm.step1 a7 s dst K op:=by
 unfold Vm.step1 at hx ⊢
 split at hx
 ·exact(h.ext _ _ _ _ hx).elim
 ·exact h.rStep hx
theorem Ok.rStep1p {s:S} {dst:Option Nat} {op:Op}:PtG λK=>step1 a s dst K op:=by
 intro K hx;simp only[Vm.step1] at hx ⊢
 split at hx
 ·exact(h.ext _ _ _ _ hx).elim
 ·exact h.rStepp _ hx
theorem Ok.rRun {dsts:List (Option Nat)}:∀ {l:List Oper} {s:S} {K K':S->Prop},a0z a dsts l s K->(∀s,K s->K' s)->a0z a7 dsts l s K'
 | [],s,K,K',hx,hK=>hK _ hx
 | ⟨dst,op,type,pos,after,none⟩::l,s,K,K',hx,hK=>by
  rw[a0z] at hx ⊢;obtain⟨s',h1,h2⟩:=h.rStep1p _ hx;exact h.rStep1 (h2 _ (Ok.rRun h1 hK))
 | ⟨dst,op,type,pos,after,some (j,b)⟩::l,s,K,K',hx,hK=>by
  rw[a0z] at hx ⊢;obtain⟨c,h1,h2⟩:=K9 hx;refine h2 _ ?_;cases c with
  | none=>exact Ok.rRun h1 hK
  | some c =>
   simp only at h1 ⊢;cases hb:bEq c b with
   | true =>
    rw[hb] at h1;obtain⟨s',h3,h4⟩:=h.rStep1p _ h1;exact h.rStep1 (h4 _ (Ok.rRun h3 hK))
   | false =>
    rw[hb] at h1;exact Ok.rRun h1 hK
theorem Ok.rRunp {dsts:List (Option Nat)}:∀ {l:List Oper} {s:S},PtG λK=>a0z a dsts l s K
 | [],s,K,hx=>⟨s,hx,λK' hk=>hk⟩
 | ⟨dst,op,type,pos,after,none⟩::l,s,K,hx=>by
  simp only[a0z] at hx ⊢;obtain⟨s',h1,h2⟩:=h.rStep1p _ hx;obtain⟨s2,h3,h4⟩:=Ok.rRunp K h1;exact⟨s2,h3,λK' hk=>h2 _ (h4 K' hk)⟩
 | ⟨dst,op,type,pos,after,some (j,b)⟩::l,s,K,hx=>by
  simp only[a0z] at hx ⊢;obtain⟨c,h1,h2⟩:=K9 hx;cases c with
  | none =>
   obtain⟨s2,h3,h4⟩:=Ok.rRunp K h1;exact⟨s2,h3,λK' hk=>h2 _ (h4 K' hk)⟩
  | some c =>
   simp only at h1;cases hb:bEq c b with
   | true =>
    rw[hb] at h1;obtain⟨s',h3,h4⟩:=h.rStep1p _ h1;obtain⟨s2,h5,h6⟩:=Ok.rRunp K h3;exact⟨s2,h5,λK' hk=>h2 _ (by simp only[hb];exact h4 _ (h6 K' hk))⟩
   | false =>
    rw[hb] at h1;obtain⟨s2,h3,h4⟩:=Ok.rRunp K h1;exact⟨s2,h3,λK' hk=>h2 _ (by simp only[hb];exact h4 K' hk)⟩
theorem Ok.rStepD {all:List Oper} {i:Nat} {s:S} {dst:Option Nat} {K:S->Prop} {op:Op} (hx:stepD a all i s dst K op):Vm.stepD a7 all i s dst K op:=by
 unfold Vm.stepD at hx ⊢
 split at hx
 ·split at hx
  ·split at hx
   ·exact h.callo _ _ _ _ hx
   ·split at hx
    ·exact h.callx _ _ _ _ _ hx
    ·exact h.rStep hx
  ·exact h.rStep hx
 ·exact h.rStep hx
theorem Ok.rStepDp {all:List Oper} {i:Nat} {s:S} {dst:Option Nat} {op:Op}:PtG λK=>stepD a all i s dst K op:=by
 intro K hx;simp only[Vm.stepD] at hx ⊢
 split at hx
 ·split at hx
  ·split at hx
   ·obtain⟨⟨v,s'⟩,h1,h2⟩:=h.callop _ _ _ (λp=>K (p.2.put dst p.1)) hx;exact⟨_,h1,λK' hk=>h2 (λp=>K' (p.2.put dst p.1)) hk⟩
   ·split at hx
    ·rename_i l hl;obtain⟨⟨v,s'⟩,h1,h2⟩:=h.callxp _ _ _ _ (λp=>K (p.2.put dst p.1)) hx;exact⟨_,h1,λK' hk=>h2 (λp=>K' (p.2.put dst p.1)) hk⟩
    ·exact h.rStepp _ hx
  ·exact h.rStepp _ hx
 ·exact h.rStepp _ hx
theorem Ok.rRunD {dsts:List (Option Nat)} {all:List Oper}:∀ {l:List Oper} {i:Nat} {s:S} {K K':S->Prop},a6j a dsts all i l s K->(∀s,K s->K' s)->a6j a7 dsts all i l s K'
 | [],i,s,K,K',hx,hK=>hK _ hx
 | ⟨dst,op,type,pos,after,none⟩::l,i,s,K,K',hx,hK=>by
  rw[a6j,K8] at hx ⊢;obtain⟨s',h1,h2⟩:=h.rStepDp _ hx;exact h.rStepD (h2 _ (Ok.rRunD h1 hK))
 | ⟨dst,op,type,pos,after,some (j,b)⟩::l,i,s,K,K',hx,hK=>by
  rw[a6j,K8] at hx ⊢;obtain⟨c,h1,h2⟩:=K9 hx;refine h2 _ ?_;cases c with
  | none=>exact Ok.rRunD h1 hK
  | some c =>
   simp only at h1 ⊢;cases hb:bEq c b with
   | true =>
    rw[hb] at h1;obtain⟨s',h3,h4⟩:=h.rStepDp _ h1;exact h.rStepD (h4 _ (Ok.rRunD h3 hK))
   | false =>
    rw[hb] at h1;exact Ok.rRunD h1 hK
theorem Ok.rRunDp {dsts:List (Option Nat)} {all:List Oper}:∀ {l:List Oper} {i:Nat} {s:S},PtG λK=>a6j a dsts all i l s K
 | [],i,s,K,hx=>⟨s,hx,λK' hk=>hk⟩
 | ⟨dst,op,type,pos,after,none⟩::l,i,s,K,hx=>by
  simp only[a6j,K8] at hx ⊢;obtain⟨s',h1,h2⟩:=h.rStepDp _ hx;obtain⟨s2,h3,h4⟩:=Ok.rRunDp K h1;exact⟨s2,h3,λK' hk=>h2 _ (h4 K' hk)⟩
 | ⟨dst,op,type,pos,after,some (j,b)⟩::l,i,s,K,hx=>by
  simp only[a6j,K8] at hx ⊢;obtain⟨c,h1,h2⟩:=K9 hx;cases c with
  | none =>
   obtain⟨s2,h3,h4⟩:=Ok.rRunDp K h1;exact⟨s2,h3,λK' hk=>h2 _ (h4 K' hk)⟩
  | some c =>
   simp only at h1;cases hb:bEq c b with
   | true =>
    rw[hb] at h1;obtain⟨s',h3,h4⟩:=h.rStepDp _ h1;obtain⟨s2,h5,h6⟩:=Ok.rRunDp K h3;exact⟨s2,h5,λK' hk=>h2 _ (by simp only[hb];exact h4 _ (h6 K' hk))⟩
   | false =>
    rw[hb] at h1;obtain⟨s2,h3,h4⟩:=Ok.rRunDp K h1;exact⟨s2,h3,λK' hk=>h2 _ (by simp only[hb];exact h4 K' hk)⟩
theorem Ok.rExecp:∀(c:Code) (s:S),PtG λK:X×S->Prop=>w5 a c s λx s=>K (x,s)
 | .skip,s,K,hx=>⟨_,hx,λK' hk=>hk⟩
 | .region id ops d,s,K,hx=>by
  simp only[w5] at hx ⊢
  split at hx
  ·obtain⟨s',h1,h2⟩:=h.rRunp _ hx;exact⟨_,h1,λK' hk=>h2 (λs=>K' (.normal,s)) hk⟩
  ·split at hx
   ·exact(h.reg _ _ _ hx).elim
   split at hx <;> try exact hx.elim
   obtain⟨s',h1,h2⟩:=h.rRunDp _ hx;exact⟨_,h1,λK' hk=>h2 (λs=>K' (.normal,s)) hk⟩
 | .seq c d,s,K,hx=>by
  obtain⟨⟨x,s'⟩,h1,h2⟩:=Ok.rExecp c s (λp=>b04 (λs=>a.next (λs=>w5 a d s λx s=>K (x,s)) s) (λx s=>K (x,s)) p.1 p.2) hx;cases x with
  | normal =>
   obtain⟨p,h3,h4⟩:=Ok.rExecp d s' K (h.next _ _ h1);exact⟨p,h3,λK' hk=>h2 (λp=>b04 (λs=>a.next (λs=>w5 a d s λx s=>K' (x,s)) s) (λx s=>K' (x,s)) p.1 p.2) (h.nextp _ _ (h4 K' hk))⟩
  | exit i=>exact⟨_,h1,λK' hk=>h2 (λp=>b04 (λs=>a.next (λs=>w5 a d s λx s=>K' (x,s)) s) (λx s=>K' (x,s)) p.1 p.2) hk⟩
  | ret=>exact⟨_,h1,λK' hk=>h2 (λp=>b04 (λs=>a.next (λs=>w5 a d s λx s=>K' (x,s)) s) (λx s=>K' (x,s)) p.1 p.2) hk⟩
 | .cond c d e,s,K,hx=>by
  simp only[w5] at hx ⊢
  split at hx <;> try exact hx.elim
  split at hx
  ·obtain⟨p,h3,h4⟩:=Ok.rExecp d s K hx;exact⟨p,h3,λK' hk=>h4 K' hk⟩
  ·obtain⟨p,h3,h4⟩:=Ok.rExecp e s K hx;exact⟨p,h3,λK' hk=>h4 K' hk⟩
 | .block id c,s,K,hx=>by
  obtain⟨⟨x,s'⟩,h1,h2⟩:=Ok.rExecp c s (λp=>a1v id (λx s=>K (x,s)) p.1 p.2) hx;cases x with
  | normal=>exact⟨_,h1,λK' hk=>h2 (λp=>a1v id (λx s=>K' (x,s)) p.1 p.2) hk⟩
  | ret=>exact⟨_,h1,λK' hk=>h2 (λp=>a1v id (λx s=>K' (x,s)) p.1 p.2) hk⟩
  | exit i =>
   simp only[a1v] at h1;cases he:B8 i id with
   | true =>
    rw[he] at h1;exact⟨_,h1,λK' hk=>h2 (λp=>a1v id (λx s=>K' (x,s)) p.1 p.2) (by simp only[a1v,he];exact hk)⟩
   | false =>
    rw[he] at h1;exact⟨_,h1,λK' hk=>h2 (λp=>a1v id (λx s=>K' (x,s)) p.1 p.2) (by simp only[a1v,he];exact hk)⟩
 | .loop c,s,K,hx=>h.loopp c _ s (λs=>Ok.rExecp c s) K hx
 | .exit i,s,K,hx=>⟨_,hx,λK' hk=>hk⟩
 | .ret,s,K,hx=>⟨_,hx,λK' hk=>hk⟩
 | .rangeFunc f ps x y,s,K,hx=>by cases hx
 | .scope c,s,K,hx=>by cases hx
 | .label l,s,K,hx=>by cases hx
 | .goto l,s,K,hx=>by cases hx
 | .refuse y,s,K,hx=>by cases hx
theorem Ok.rMono {c:Code} {s:S} {K K':X->S->Prop} (hx:w5 a c s K) (hK:∀x s,K x s->K' x s):w5 a c s K' :=
 (h.rExecp c s).mono (K:=λp=>K p.1 p.2) (K':=λp=>K' p.1 p.2) hx λp hp=>hK _ _ hp
theorem Ok.rExec:∀(c:Code) (s:S) (K K':X->S->Prop),w5 a c s K->(∀x s,K x s->K' x s)->w5 a7 c s K'
 | .skip,s,K,K',hx,hK=>hK _ _ hx
 | .region id ops d,s,K,K',hx,hK=>by
  unfold w5 at hx ⊢
  split at hx
  ·exact h.rRun hx λs hs=>hK _ _ hs
  ·split at hx
   ·exact(h.reg _ _ _ hx).elim
   split at hx <;> try exact hx.elim
   exact h.rRunD hx λs hs=>hK _ _ hs
 | .seq c d,s,K,K',hx,hK=>by
  refine Ok.rExec c s _ _ hx λx s' hs=>?_
  cases x with
  | normal=>exact⟨λs2=>s2=s',λ_ _ _ _ _ h=>⟨_,rfl,h⟩,λs2 e=>by subst e;exact Ok.rExec d _ _ _ (h.next _ _ hs) hK⟩
  | exit i=>exact hK _ _ hs
  | ret=>exact hK _ _ hs
 | .cond c d e,s,K,K',hx,hK=>by
  unfold w5 at hx ⊢
  split at hx <;> try exact hx.elim
  split at hx
  ·exact Ok.rExec d _ _ _ hx hK
  ·exact Ok.rExec e _ _ _ hx hK
 | .block id c,s,K,K',hx,hK=>by
  refine Ok.rExec c s _ _ hx λx s' hs=>?_
  cases x with
  | normal=>exact hK _ _ hs
  | ret=>exact hK _ _ hs
  | exit i =>
   have hs:(match B8 i id with|true=>K .normal s'|false=>K (.exit i) s'):=hs;show (match B8 i id with|true=>K' .normal s'|false=>K' (.exit i) s');cases he:B8 i id with
   | true=>rw[he] at hs;exact hK _ _ hs
   | false=>rw[he] at hs;exact hK _ _ hs
 | .loop c,s,K,K',hx,hK=>by
  obtain⟨γ,st,inv,μ,h1,h2,h3⟩:=h.loop c _ s K hx λs K K' hK hs=>h.rMono hs hK
  refine .inr (.inl ⟨γ,st,inv,μ,h1,h2,λx hi=>Ok.rExec c _ _ _ (h3 x hi) λe s' hs=>?_⟩);cases e with
  | normal=>exact hs
  | exit i=>exact hK _ _ hs
  | ret=>exact hK _ _ hs
 | .exit i,s,K,K',hx,hK=>hK _ _ hx
 | .ret,s,K,K',hx,hK=>hK _ _ hx
 | .rangeFunc f ps x y,s,K,K',hx,hK=>by cases hx
 | .scope c,s,K,K',hx,hK=>by cases hx
 | .label l,s,K,K',hx,hK=>by cases hx
 | .goto l,s,K,K',hx,hK=>by cases hx
 | .refuse y,s,K,K',hx,hK=>by cases hx
theorem Ok.rRes {s:S}:∀ {l:List ResultVar} {K K':List V->Prop},I9 a s l K->(∀vs,K vs->K' vs)->I9 a7 s l K'
 | [],K,K',hx,hK=>hK _ hx
 | .tmp t::l,K,K',hx,hK=>Ok.rRes (l:=l) hx λvs hv=>hK _ hv
 | .cell b t::l,K,K',hx,hK=>by
  rw[I9] at hx ⊢;rw[h.load] at hx;exact a0D.g.mono hx λv hv=>Ok.rRes (l:=l) hv λvs hv=>hK _ hv
theorem Ok.rResp {s:S}:∀ {l:List ResultVar},PtG λK=>I9 a s l K
 | [],K,hx=>⟨_,hx,λK' hk=>hk⟩
 | .tmp t::l,K,hx=>by
  obtain⟨v,h1,h2⟩:=Ok.rResp (l:=l) _ hx;exact⟨_,h1,λK' hk=>h2 _ hk⟩
 | .cell b t::l,K,hx=>by
  simp only[I9] at hx ⊢;rw[h.load] at hx ⊢;obtain⟨v,h1,h2⟩:=a0D _ hx;obtain⟨vs,h3,h4⟩:=Ok.rResp (l:=l) _ h1;exact⟨_,h3,λK' hk=>h2 _ (h4 _ hk)⟩
end
def a9W (a:Ar) (l:List ResultVar) (K:List R->Prop):X->S->Prop
 | .exit _,_=>False
 | .normal,s=>I9 a s l λvs=>match a0A s.o vs with|some q=>K q|none=>False
 | .ret,s=>I9 a s l λvs=>match a0A s.o vs with|some q=>K q|none=>False
structure Good (f:Nat) (fn:Func) (c:Code):Prop where
 f:Tryd.prog.funcs[f]?=some fn
 b:fn.body=some c
 n:(fn.name != "runtime.NumGoroutine")=true
 c:o9 Tryd.prog c=true
 r:M5 fn.results.toList=true
inductive Tab where
 | nil
 | cons (f:Nat) (fn:Func) (c:Code) (h:Good f fn c) (T:Tab)
 | own (f:Nat) (F:List V->List O->Option (V×List O×List Nat)) (h:∀vs o r,F vs o=some r->M8 f vs o λx o' ks=>(x,o',ks)=r) (T:Tab)
 | pure (f:Nat) (F:List R->Option (List R)) (h:∀rs q,F rs=some q->m6 f rs q) (T:Tab)
inductive Ent where
 | none
 | code (fn:Func) (c:Code)
 | own (F:List V->List O->Option (V×List O×List Nat))
 | pure (F:List R->Option (List R))
def Tab.get:Tab->Nat->Ent
 | .nil,_=>.none
 | .cons f fn c _ T,g=>match Nat.beq f g with|true=>.code fn c|false=>T.get g
 | .own f F _ T,g=>match Nat.beq f g with|true=>.own F|false=>T.get g
 | .pure f F _ T,g=>match Nat.beq f g with|true=>.pure F|false=>T.get g
def c15 (f:Nat):Ent->Prop
 | .none=>True
 | .code fn c=>Good f fn c
 | .own F=>∀vs o r,F vs o=some r->M8 f vs o λx o' ks=>(x,o',ks)=r
 | .pure F=>∀rs q,F rs=some q->m6 f rs q
theorem Tab.good:∀(T:Tab) (f:Nat),c15 f (T.get f)
 | .nil,_=>trivial
 | .cons f fn c hg T,g=>by
  rw[Tab.get]
  split
  ·rename_i e;rw[<-c3X e];exact hg
  ·exact Tab.good T g
 | .own f F hg T,g=>by
  rw[Tab.get]
  split
  ·rename_i e;rw[<-c3X e];exact hg
  ·exact Tab.good T g
 | .pure f F hg T,g=>by
  rw[Tab.get]
  split
  ·rename_i e;rw[<-c3X e];exact hg
  ·exact Tab.good T g
def b4c:Value->Value->Bool
 | .int k m,.int k' n=>match keq k k' with|true=>a2k m n|false=>false
 | .string x,.string y=>a1P x.data.toList y.data.toList
 | .bool x,.bool y=>bEq x y
 | .pointer none,.pointer none=>true
 | .map none,.map none=>true
 | _,_=>false
theorem b7l {u v:Value} (h:b4c u v=true):u=v:=by
 unfold b4c at h
 split at h
 ·split at h
  ·rename_i hk;rw[a0X,c3q] at h;rw[a5r hk,h]
  ·cases h
 ·rename_i x y;rw[Y6,c3q] at h;obtain⟨⟨x⟩⟩:=x;obtain⟨⟨y⟩⟩:=y;simp only at h;rw[h]
 ·rw[a01,c3q] at h;rw[h]
 ·rfl
 ·rfl
 ·cases h
def P8 {α:Type} (e:α->α->Bool):List α->List α->Bool
 | [],[]=>true
 | x::l,y::m=>match e x y with|true=>P8 e l m|false=>false
 | _,_=>false
theorem F9 {α:Type} {e:α->α->Bool} (he:∀x y,e x y=true->x=y):∀ {l m:List α},P8 e l m=true->l=m
 | [],[],_=>rfl
 | [],_::_,h=>by cases h
 | _::_,[],h=>by cases h
 | x::l,y::m,h=>by
  rw[P8] at h
  split at h
  ·rename_i h1;rw[he _ _ h1,F9 he h]
  ·cases h
def a9X:Nat->D->D->Bool
 | _,.sc u,.sc v=>b4c u v
 | f+1,.sl n rows,.sl m rows'=>match a07 n m with|true=>P8 (P8 (a9X f)) rows rows'|false=>false
 | _,_,_=>false
theorem a8N:∀ {f:Nat} {x y:D},a9X f x y=true->x=y
 | f,.sc u,.sc v,h=>by
  have h:b4c u v=true:=by cases f <;> exact h
  rw[b7l h]
 | f,.sc u,.sl n rows,h=>by cases f <;> cases h
 | f,.sl n rows,.sc u,h=>by cases f <;> cases h
 | 0,.sl n rows,.sl m rows',h=>by cases h
 | f+1,.sl n rows,.sl m rows',h=>by
  rw[a9X] at h
  split at h
  ·rename_i h1;rw[a2A,c3q] at h1;rw[h1,F9 (λ_ _ h=>F9 (λ_ _ h=>a8N h) h) h]
  ·cases h
def b1o (x y:D):Bool:=a9X 60 x y
theorem a4T {x y:D} (h:b1o x y=true):x=y:=a8N h
def vEq:V->V->Bool
 | .d x,.d y=>b1o x y
 | .em,.em=>true
 | .own j,.own k=>a07 j k
 | .ptr j m,.ptr k n=>match a07 j k with|true=>a07 m n|false=>false
 | .mp j,.mp k=>a07 j k
 | .cl f [],.cl g []=>a07 f g
 | .jk,.jk=>true
 | _,_=>false
theorem U5 {m n:Nat} (h:a07 m n=true):m=n:=by rw[a2A,c3q] at h;exact h
theorem c0C {x y:V} (h:vEq x y=true):x=y:=by
 unfold vEq at h
 split at h
 ·rw[a4T h]
 ·rfl
 ·rw[U5 h]
 ·split at h
  ·rename_i h1;rw[U5 h1,U5 h]
  ·cases h
 ·rw[U5 h]
 ·rw[U5 h]
 ·rfl
 ·cases h
def a76:R->R->Bool
 | .one x,.one y=>b1o x y
 | .ag xs,.ag ys=>P8 b1o xs ys
 | _,_=>false
theorem a4U {x y:R} (h:a76 x y=true):x=y:=by
 unfold a76 at h
 split at h
 ·rw[a4T h]
 ·rw[F9 (λ_ _=>a4T) h]
 ·cases h
def b7m (p q:R×R):Bool:=match a76 p.1 q.1 with|true=>a76 p.2 q.2|false=>false
theorem b7n {p q:R×R} (h:b7m p q=true):p=q:=by
 unfold b7m at h
 split at h
 ·rename_i h1;exact Prod.ext (a4U h1) (a4U h)
 ·cases h
def oEq:O->O->Bool
 | .box cs,.box ds=>P8 vEq cs ds
 | .row z e rows,.row z' e' rows'=>match bEq z z',a07 e e' with
  | true,true=>P8 (P8 b1o) rows rows'
  | _,_=>false
 | .mp k es,.mp k' es'=>match a07 k k' with|true=>P8 b7m es es'|false=>false
 | .kl ks,.kl js=>P8 a07 ks js
 | .dead,.dead=>true
 | _,_=>false
theorem b7o {x y:O} (h:oEq x y=true):x=y:=by
 unfold oEq at h
 split at h
 ·rw[F9 (λ_ _=>c0C) h]
 ·split at h
  ·rename_i h1 h2;rw[a01,c3q] at h1;rw[h1,U5 h2,F9 (λ_ _ h=>F9 (λ_ _=>a4T) h) h]
  ·cases h
 ·split at h
  ·rename_i h1;rw[U5 h1,F9 (λ_ _=>b7n) h]
  ·cases h
 ·rw[F9 (λ_ _=>U5) h]
 ·rfl
 ·cases h
def b5v (o:List O) (K:List R->Prop) (res:List V) (s:S):Prop:=match m5 (C6 0 s.o) (j2 o) with
 | .kl []=>match P8 oEq (a1q (j2 o) (C6 0 s.o)) (C6 0 o) with
  | true=>match a0A s.o res with|some q=>K q|none=>False
  | false=>False
 | _=>False
def b5w (a:Ar) (o:List O) (K:List R->Prop) (l:List ResultVar):X->S->Prop
 | .exit _,_=>False
 | .normal,s=>I9 a s l λres=>b5v o K res s
 | .ret,s=>I9 a s l λres=>b5v o K res s
def it (body:S->(X->S->Prop)->Prop) (K:X->S->Prop) (n:Nat):Nat->S->Prop
 | 0,_=>False
 | m+1,s=>match Nat.ble n (j2 s.o) with
  | true=>body s λe s'=>a3P (λs2=>it body K n m s2) K e s'
  | false=>False
def c0D:IntKind->Nat
 | .i8=>128
 | .i16=>32768
 | .i32=>2147483648
 | .i64=>9223372036854775808
 | .u8=>256
 | .u16=>65536
 | .u32=>4294967296
 | .u64=>18446744073709551616
def b4d (k:IntKind) (n:Int):Int:=match n with
 | .ofNat m=>match Nat.blt m (c0D k) with|true=>.ofNat m|false=>k.wrap n
 | .negSucc _=>k.wrap n
theorem b7p (k:IntKind) (n:Int):b4d k n=k.wrap n:=by
 unfold b4d
 split
 ·rename_i m
  split
  ·rename_i h;have h:m<c0D k:=by simpa [c32] using h
   have key:∀(b:Nat) (sg:Bool),(m:Int)<(2:Int) ^ b->(sg=true->(m:Int)<(2:Int) ^ (b - 1))->(m:Int)=(if (sg && decide ((m:Int) % (2:Int) ^ b>=(2:Int) ^ (b - 1)))=true then (m:Int) % (2:Int) ^ b - (2:Int) ^ b else (m:Int) % (2:Int) ^ b):=λb sg h1 h2=>by
    have e:(m:Int) % (2:Int) ^ b=m:=Int.emod_eq_of_lt (by omega) h1;simp only[e];cases sg with
    | false=>rfl
    | true =>
     have:=h2 rfl;rw[c2H (by simp only[c3R,c3Q];omega)]
   have h':(m:Int)<(c0D k:Int):=by omega
   refine(key k.bits k.signed ?_ ?_)
   ·cases k <;> exact Int.lt_of_lt_of_le h' (by decide)
   ·intro hs;cases k <;> first|cases hs;done|exact Int.lt_of_lt_of_le h' (by decide)
  ·rfl
 ·rfl
def a8O:Int->Int->Bool
 | .ofNat m,.ofNat n=>Nat.blt m n
 | .negSucc _,.ofNat _=>true
 | .ofNat _,.negSucc _=>false
 | .negSucc m,.negSucc n=>Nat.blt n m
theorem b1p (x y:Int):a8O x y=decide (x<y):=by
 rw[c4P,decide_eq_true_iff];cases x with
 | ofNat m =>
  cases y with
  | ofNat n=>rw[a8O,c32];exact Int.ofNat_lt.symm
  | negSucc n=>exact⟨λh=>(by cases h),λh=>by have:(Int.ofNat m:Int)=(m:Int):=rfl;omega⟩
 | negSucc m =>
  cases y with
  | ofNat n=>exact⟨λ_=>by have:(Int.ofNat n:Int)=(n:Int):=rfl;omega,λ_=>rfl⟩
  | negSucc n=>rw[a8O,c32];omega
def a08 (x y:Int):Bool:=match a8O y x with|true=>false|false=>true
theorem a1e (x y:Int):a08 x y=decide (x<=y):=by
 unfold a08;rw[b1p]
 by_cases h:y<x
 ·rw[c2J h,c2G (by omega)]
 ·rw[c2G h,c2J (by omega)]
def a4V:List UInt8->List UInt8->Bool
 | _,[]=>false
 | [],_::_=>true
 | x::l,y::m=>match Nat.blt x.toNat y.toNat with
  | true=>true
  | false=>match a07 x.toNat y.toNat with|true=>a4V l m|false=>false
theorem a77:∀x y:List UInt8,a4V x y=Op.bytesLess x y
 | [],[]=>rfl
 | _::_,[]=>rfl
 | [],_::_=>rfl
 | x::l,y::m=>by
  rw[a4V,Op.bytesLess,a2A,a77 l m]
  by_cases h:x<y
  ·rw[(by rw[c32];exact c3Y.1 h:Nat.blt x.toNat y.toNat=true),c2J h];rfl
  ·have h1:Nat.blt x.toNat y.toNat=false:=by
    rw[<-c4G,c32];exact λe=>h (c3Y.2 e)
   rw[h1,c2G h]
   by_cases e:x=y
   ·subst e;simp
   ·have e1:(x.toNat == y.toNat)=false:=c2O.2 λe2=>e (c42.1 e2)
    have e2:(x == y)=false:=c2O.2 e;rw[e1,e2];rfl
def nth {α:Type}:List α->Nat->Option α
 | [],_=>none
 | x::_,0=>some x
 | _::l,n+1=>nth l n
theorem b7q {α:Type}:∀(l:List α) (n:Nat),nth l n=l[n]?
 | [],n=>by simp[nth]
 | x::l,0=>rfl
 | x::l,n+1=>by rw[nth,b7q l n];simp
def atI {α:Type} (l:List α):Int->Option α
 | .ofNat n=>nth l n
 | .negSucc _=>none
theorem b7r {α:Type} (l:List α) (i:Int):atI l i=if 0<=i then l[i.toNat]? else none:=by
 cases i with
 | ofNat n=>rw[atI,b7q,c2E (by simp)];rfl
 | negSucc n=>rw[atI,c2H (by omega)]
def F3:Ar:={ a7 with
 wrap:=b4d
 lt:=a8O
 le:=a08
 eq:=a2k
 seq:=a1P
 slt:=a4V
 bytes:=λb=>b.data.toList
 cat:=λx y=>⟨⟨x.data.toList++y.data.toList⟩⟩
 slen:=λb=>.ofNat (m9 b.data.toList)
 sget:=λb n=>match atI b.data.toList n with|some c=>some (.ofNat c.toNat)|none=>none
 ssub:=λb l h=>match a08 0 l,a08 l h,a08 h (.ofNat (m9 b.data.toList)) with
  | true,true,true=>some ⟨⟨(b.data.toList.drop l.toNat).take (h.toNat - l.toNat)⟩⟩
  | _,_,_=>none
 nat:=λn m=>match n with|.ofNat k=>(match Nat.blt k m with|true=>some k|false=>none)|.negSucc _=>none
 len:=λrows=>.ofNat (m9 rows)
 get:=atI
 sub2:=λrows l h=>match a08 0 l,a08 l h,a08 h (.ofNat (m9 rows)) with
  | true,true,true=>some ((rows.drop l.toNat).take (h.toNat - l.toNat))
  | _,_,_=>none }
theorem b1q (b:ByteArray):b.toList=b.data.toList:=ByteArray.toList_eq b
theorem s9:F3=a7:=by
 have e1:a7.wrap=b4d:=by funext k n;exact(b7p k n).symm
 have e2:a7.lt=a8O:=by funext x y;exact(b1p x y).symm
 have e3:a7.le=a08:=by funext x y;exact(a1e x y).symm
 have e4:a7.eq=a2k:=by funext x y;exact(a0X x y).symm
 have e5:a7.seq=a1P:=by funext x y;exact(Y6 x y).symm
 have e6:a7.slt=a4V:=by funext x y;exact(a77 x y).symm
 have e7:a7.bytes=λb=>b.data.toList:=by funext b;exact b1q b
 have e8:a7.cat=λx y=>⟨⟨x.data.toList++y.data.toList⟩⟩:=by
  funext x y
  show x++y=_
  apply c4X
  apply c4j
  simp
 have e9:a7.slen=λb=>.ofNat (m9 b.data.toList):=by
  funext b
  rw[x7];rfl
 have e10:a7.sget=λb n=>match atI b.data.toList n with|some c=>some (.ofNat c.toNat)|none=>none:=by
  funext b n
  rw[b7r];show (if 0<=n then (b[n.toNat]?).map _ else none)=_
  by_cases h:0<=n
  ·rw[c2E h,c2E h]
   have e:b[n.toNat]?=b.data.toList[n.toNat]?:=by
    rw[c3w];rfl
   rw[e];cases b.data.toList[n.toNat]? <;> rfl
  ·rw[c2H h,c2H h]
 have e11:a7.ssub=λb l h=>match a08 0 l,a08 l h,a08 h (.ofNat (m9 b.data.toList)) with
  | true,true,true=>some ⟨⟨(b.data.toList.drop l.toNat).take (h.toNat - l.toNat)⟩⟩
  | _,_,_=>none:=by
  funext b l h
  rw[a1e,a1e,a1e,x7];show (if 0<=l/\l<=h/\h<=b.size then some (b.extract l.toNat h.toNat) else none)=_;have hb:(Int.ofNat b.data.toList.length)=(b.size:Int):=rfl;rw[hb]
  by_cases h1:0<=l
  ·by_cases h2:l<=h
   ·by_cases h3:h<=(b.size:Int)
    ·rw[c2E ⟨h1,h2,h3⟩,c2J h1,c2J h2,c2J h3];simp only
     congr 1
     apply c4X
     apply c4j
     simp[ByteArray.data_extract,List.extract_eq_take_drop]
    ·rw[c2H (λh=>h3 h.2.2),c2G h3];cases decide (0<=l) <;> cases decide (l<=h) <;> rfl
   ·rw[c2H (λh=>h2 h.2.1),c2G h2];cases decide (0<=l) <;> rfl
  ·rw[c2H (λh=>h1 h.1),c2G h1]
 have e12:a7.nat=λn m=>match n with|.ofNat k=>(match Nat.blt k m with|true=>some k|false=>none)|.negSucc _=>none:=by
  funext n m
  show (if 0<=n/\n<m then some n.toNat else none)=_;cases n with
  | ofNat k =>
   by_cases h:k<m
   ·rw[c2E ⟨by simp,by simpa using h⟩];have e:Nat.blt k m=true:=by rw[c32];exact h
    simp only[e];rfl
   ·rw[c2H (by simp;omega)];have:Nat.blt k m=false:=by rw[<-c4G,c32];exact h
    simp only[this]
  | negSucc k=>rw[c2H (by omega)]
 have e13:a7.len=λrows=>.ofNat (m9 rows):=by funext rows;rw[x7];rfl
 have e14:a7.get=atI:=by funext rows n;rw[b7r];rfl
 have e15:a7.sub2=λrows l h=>match a08 0 l,a08 l h,a08 h (.ofNat (m9 rows)) with
  | true,true,true=>some ((rows.drop l.toNat).take (h.toNat - l.toNat))
  | _,_,_=>none:=by
  funext b l h
  rw[a1e,a1e,a1e,x7];show (if 0<=l/\l<=h/\h<=b.length then some ((b.drop l.toNat).take (h.toNat - l.toNat)) else none)=_;have hb:(Int.ofNat b.length)=(b.length:Int):=rfl;rw[hb]
  by_cases h1:0<=l
  ·by_cases h2:l<=h
   ·by_cases h3:h<=(b.length:Int)
    ·rw[c2E ⟨h1,h2,h3⟩,c2J h1,c2J h2,c2J h3]
    ·rw[c2H (λh=>h3 h.2.2),c2G h3];cases decide (0<=l) <;> cases decide (l<=h) <;> rfl
   ·rw[c2H (λh=>h2 h.2.1),c2G h2];cases decide (0<=l) <;> rfl
  ·rw[c2H (λh=>h1 h.1),c2G h1]
 unfold F3;rw[<-e11,<-e15,<-e10,<-e14,<-e1,<-e2,<-e3,<-e4,<-e5,<-e6,<-e7,<-e8,<-e9,<-e12,<-e13]
def b7s (hint:Nat->Bool) (call:Nat->List R->(List R->Prop)->Prop) (calld:Nat->List V->List O->(V->Prop)->Prop) (callo:Nat->List V->S->(V->S->Prop)->Prop) (callx:Nat->List V->List Nat->S->(V->S->Prop)->Prop):Ar:={ F3 with
 nz:=λy k=>match a2k y 0 with|true=>False|false=>k
 fits:=λx y k=>match Nat.ble (x.size+y.size) 4611686018427387904 with|true=>k|false=>False
 room:=λx y k=>match Nat.ble (m9 x+m9 y) 137438953472 with|true=>k|false=>False
 rep:=λn z k=>match n with
  | .ofNat m=>match Nat.ble m 65536,Nat.ble (m * m9 z) 16777216 with|true,true=>k (List.replicate m z)|_,_=>False
  | .negSucc _=>False
 call:=call
 calld:=calld
 callo:=callo
 callx:=callx
 new:=λe K=>K (hint e)
 lit:=λt K=>K (hint t)
 keep:=λ_ _ _ _=>False
 next:=λN s=>N s
 ext:=λ_ _ _ _=>False
 reg:=λ_ _ _=>False
 loop:=λ_ body s K=>it body K (j2 s.o) 5000 s }
def b7t:List V->List Nat
 | []=>[]
 | .own k::l=>k::b7t l
 | _::l=>b7t l
def a78:List V->List Nat
 | []=>[]
 | .own k::l=>k::a78 l
 | .ag cs::l=>b7t cs++a78 l
 | _::l=>a78 l
def a1y (t:List V) (o o':List O):List Nat->Bool
 | []=>true
 | i::l=>match b96 (m8 t i) with
  | some k=>match oEq (m5 o' k) (m5 o k) with|true=>a1y t o o' l|false=>false
  | none=>a1y t o o' l
theorem a5E {t:List V} {o o':List O}:∀ {l:List Nat},a1y t o o' l=true->a5p l t o o'
 | [],_,i,hi,_,_=>by simp at hi
 | j::l,h,i,hi,k,hk=>by
  rw[a1y] at h
  split at h
  ·rename_i m hm
   split at h
   ·rename_i he
    rcases c2C.1 hi with rfl|hi
    ·rw[hm] at hk;have hk:=Option.some.inj hk;subst hk;exact b7o he
    ·exact a5E h i hi k hk
   ·cases h
  ·rename_i hm
   rcases c2C.1 hi with rfl|hi
   ·rw[hm] at hk;cases hk
   ·exact a5E h i hi k hk
def a1n (T:Tab) (hint:Nat->Bool):Nat->Ar
 | 0=>b7s hint (λ_ _ _=>False) (λ_ _ _ _=>False) (λ_ _ _ _=>False) (λ_ _ _ _ _=>False)
 | n+1=>b7s hint
  (λf rs K=>match T.get f with
   | .code fn c=>w5 (a1n T hint n) c (a1B rs (fn.ntmps - m9 rs)) (λx s=>a9W (a1n T hint n) fn.results.toList K x s)
   | .pure F=>match F rs with|some q=>K q|none=>False
   | _=>False)
  (λf vs o K=>match T.get f with
   | .code fn c=>w5 (a1n T hint n) c (L3 vs o (fn.ntmps - m9 vs)) (λx s=>b5w (a1n T hint n) o (λq=>K (a2v q)) fn.results.toList x s)
   | _=>False)
  (λf vs s K=>match T.get f with
   | .code fn c=>w5 (a1n T hint n) c (L3 vs s.o (fn.ntmps - m9 vs)) (λx s2=>a3Z (a1n T hint n) (j2 s.o) (λv o' ks=>K v ⟨z6 ks s.t,o'⟩) fn.results.toList x s2)
   | .own F=>match F vs s.o with|some (v,o',ks)=>K v ⟨z6 ks s.t,o'⟩|none=>False
   | .pure F=>match a0A s.o vs with
    | some rs=>match F rs with|some q=>K (a2v q) s|none=>False
    | none=>match a0A (frz (a78 vs) s.o) vs with
     | some rs=>match F rs with|some q=>K (a2v q) ⟨s.t,frz (a78 vs) s.o⟩|none=>False
     | none=>False
   | .none=>False)
  (λf vs l s K=>match T.get f with
   | .code fn c=>w5 (a1n T hint n) c (L3 vs s.o (fn.ntmps - m9 vs)) (λx s2=>a3Z (a1n T hint n) (j2 s.o) (λv o' ks=>match geN (j2 s.o) ks with
    | true=>match a1y s.t s.o o' l with|true=>K v ⟨s.t,o'⟩|false=>False
    | false=>False) fn.results.toList x s2)
   | _=>False)

theorem b9H {body:S->(X->S->Prop)->Prop} (hb:∀s,PtG λK:X×S->Prop=>body s λx s=>K (x,s)) {n:Nat}:∀m s,PtG λK:X×S->Prop=>it body (λx s=>K (x,s)) n m s
 | 0,s,K,hx=>hx.elim
 | m+1,s,K,hx=>by
  simp only[it] at hx ⊢
  split at hx <;> try exact hx.elim
  obtain⟨⟨e,s'⟩,h1,h2⟩:=hb s (λp=>a3P (λs2=>it body (λx s=>K (x,s)) n m s2) (λx s=>K (x,s)) p.1 p.2) hx;cases e with
  | normal =>
   obtain⟨p,h3,h4⟩:=b9H hb m s' K h1;exact⟨p,h3,λK' hk=>h2 (λp=>a3P (λs2=>it body (λx s=>K' (x,s)) n m s2) (λx s=>K' (x,s)) p.1 p.2) (h4 K' hk)⟩
  | exit i=>exact⟨_,h1,λK' hk=>h2 (λp=>a3P (λs2=>it body (λx s=>K' (x,s)) n m s2) (λx s=>K' (x,s)) p.1 p.2) hk⟩
  | ret=>exact⟨_,h1,λK' hk=>h2 (λp=>a3P (λs2=>it body (λx s=>K' (x,s)) n m s2) (λx s=>K' (x,s)) p.1 p.2) hk⟩
theorem b8Q {body:S->(X->S->Prop)->Prop} (hb:∀s K K',(∀x s,K x s->K' x s)->body s K->body s K') {K:X->S->Prop} {s:S} {m:Nat} (hx:it body K (j2 s.o) m s):a8t Eq body s K:=by
 have hle:∀m s',it body K (j2 s.o) m s'->j2 s.o<=j2 s'.o:=λm s' h=>by
  cases m with
  | zero=>exact h.elim
  | succ m =>
   rw[it] at h
   split at h
   ·rename_i e;exact c3u e
   ·exact h.elim
 refine⟨Nat×S,Prod.snd,λp=>it body K (j2 s.o) p.1 p.2,Prod.fst,λp hp=>hle _ _ hp,⟨(m,s),rfl,hx⟩,?_⟩
 rintro ⟨m,s'⟩ hp
 cases m with
 | zero=>exact hp.elim
 | succ m =>
  have hp:it body K (j2 s.o) (m+1) s':=hp;rw[it] at hp
  split at hp
  ·refine hb _ _ _ (λx s2 h=>?_) hp;cases x with
   | normal=>exact⟨(m,s2),h,Nat.lt_succ_self m,rfl⟩
   | exit i=>exact h
   | ret=>exact h
  ·exact hp.elim
section
variable {hint:Nat->Bool} {call:Nat->List R->(List R->Prop)->Prop} {calld:Nat->List V->List O->(V->Prop)->Prop} {callo:Nat->List V->S->(V->S->Prop)->Prop} {callx:Nat->List V->List Nat->S->(V->S->Prop)->Prop}
theorem b1r (h1:∀f rs K,call f rs K->a7.call f rs K) (h2:∀f rs,PtG (call f rs)) (h5:∀f vs o K,calld f vs o K->a7.calld f vs o K) (h6:∀f vs o,PtG (calld f vs o)) (h3:∀f vs s K,callo f vs s K->a7.callo f vs s K) (h4:∀f vs s,PtG λK:V×S->Prop=>callo f vs s λv s'=>K (v,s')) (h7:∀f vs l s K,callx f vs l s K->a7.callx f vs l s K) (h8:∀f vs l s,PtG λK:V×S->Prop=>callx f vs l s λv s'=>K (v,s')):Ok (b7s hint call calld callo callx) where
 wrap:=show F3.wrap=a7.wrap from congrArg Ar.wrap s9
 add:=show F3.add=a7.add from congrArg Ar.add s9
 sub:=show F3.sub=a7.sub from congrArg Ar.sub s9
 mul:=show F3.mul=a7.mul from congrArg Ar.mul s9
 quo:=show F3.quo=a7.quo from congrArg Ar.quo s9
 rem:=show F3.rem=a7.rem from congrArg Ar.rem s9
 bits:=show F3.bits=a7.bits from congrArg Ar.bits s9
 lt:=show F3.lt=a7.lt from congrArg Ar.lt s9
 le:=show F3.le=a7.le from congrArg Ar.le s9
 eq:=show F3.eq=a7.eq from congrArg Ar.eq s9
 nz y k h:=by
  have h:(match a2k y 0 with|true=>False|false=>k):=h;cases he:a2k y 0 with
  | true=>rw[he] at h;exact h.elim
  | false =>
   rw[he] at h;rw[a0X,c2O] at he;exact⟨he,h⟩
 nzp y k k' h hk:=by
  have h:(match a2k y 0 with|true=>False|false=>k):=h;show (match a2k y 0 with|true=>False|false=>k');cases he:a2k y 0 with
  | true=>rw[he] at h;exact h.elim
  | false=>exact hk
 seq:=show F3.seq=a7.seq from congrArg Ar.seq s9
 slt:=show F3.slt=a7.slt from congrArg Ar.slt s9
 bytes:=show F3.bytes=a7.bytes from congrArg Ar.bytes s9
 cat:=show F3.cat=a7.cat from congrArg Ar.cat s9
 fits x y k h:=by
  have h:(match Nat.ble (x.size+y.size) 4611686018427387904 with|true=>k|false=>False):=h;cases he:Nat.ble (x.size+y.size) 4611686018427387904 with
  | true=>rw[he] at h;exact⟨c3u he,h⟩
  | false=>rw[he] at h;exact h.elim
 fitsp x y k k' h hk:=by
  have h:(match Nat.ble (x.size+y.size) 4611686018427387904 with|true=>k|false=>False):=h;show (match Nat.ble (x.size+y.size) 4611686018427387904 with|true=>k'|false=>False);cases he:Nat.ble (x.size+y.size) 4611686018427387904 with
  | true=>exact hk
  | false=>rw[he] at h;exact h.elim
 slen:=show F3.slen=a7.slen from congrArg Ar.slen s9
 sget:=show F3.sget=a7.sget from congrArg Ar.sget s9
 ssub:=show F3.ssub=a7.ssub from congrArg Ar.ssub s9
 txt:=show F3.txt=a7.txt from congrArg Ar.txt s9
 byt:=show F3.byt=a7.byt from congrArg Ar.byt s9
 nat:=show F3.nat=a7.nat from congrArg Ar.nat s9
 len:=show F3.len=a7.len from congrArg Ar.len s9
 get:=show F3.get=a7.get from congrArg Ar.get s9
 sub2:=show F3.sub2=a7.sub2 from congrArg Ar.sub2 s9
 app:=show F3.app=a7.app from congrArg Ar.app s9
 set:=show F3.set=a7.set from congrArg Ar.set s9
 room x y k h:=by
  have h:(match Nat.ble (m9 x+m9 y) 137438953472 with|true=>k|false=>False):=h;cases he:Nat.ble (m9 x+m9 y) 137438953472 with
  | true =>
   rw[he] at h;have:=c3u he;rw[x7,x7] at this;exact⟨this,h⟩
  | false=>rw[he] at h;exact h.elim
 roomp x y k k' h hk:=by
  have h:(match Nat.ble (m9 x+m9 y) 137438953472 with|true=>k|false=>False):=h;show (match Nat.ble (m9 x+m9 y) 137438953472 with|true=>k'|false=>False);cases he:Nat.ble (m9 x+m9 y) 137438953472 with
  | true=>exact hk
  | false=>rw[he] at h;exact h.elim
 mlook:=show F3.mlook=a7.mlook from congrArg Ar.mlook s9
 mput:=show F3.mput=a7.mput from congrArg Ar.mput s9
 deq:=show F3.deq=a7.deq from congrArg Ar.deq s9
 rep n z K h:=by
  cases n with
  | negSucc m=>exact(show False from h).elim
  | ofNat m =>
   have h:(match Nat.ble m 65536,Nat.ble (m * m9 z) 16777216 with|true,true=>K (List.replicate m z)|_,_=>False):=h
   split at h
   ·rename_i e1 e2;have e1:=c3u e1;have e2:=c3u e2;rw[x7] at e2;exact⟨⟨by simp,by simp;omega,e2⟩,h⟩
   ·exact h.elim
 repp n z K h:=by
  cases n with
  | negSucc m=>exact(show False from h).elim
  | ofNat m =>
   have h:(match Nat.ble m 65536,Nat.ble (m * m9 z) 16777216 with|true,true=>K (List.replicate m z)|_,_=>False):=h
   split at h
   ·rename_i e1 e2;refine⟨_,h,λK' hk=>?_⟩;show (match Nat.ble m 65536,Nat.ble (m * m9 z) 16777216 with|true,true=>K' (List.replicate m z)|_,_=>False);rw[e1,e2];exact hk
   ·exact h.elim
 call:=h1
 callp:=h2
 calld:=h5
 calldp:=h6
 callo:=h3
 callop:=h4
 callx:=h7
 callxp:=h8
 new e K h:=⟨_,h⟩
 newp e K h:=⟨_,h,λK' hk=>hk⟩
 lit t K h:=⟨_,h⟩
 litp t K h:=⟨_,h,λK' hk=>hk⟩
 next N s h:=h
 ext _ _ _ _ h:=h
 reg _ _ _ h:=h
 nextp N s h:=h
 loop c body s K h hb:=b8Q hb h
 loopp c body s hb:=b9H hb _ _
end
theorem a79 {a:Ar} (h:Ok a) {l:List ResultVar} {K:List R->Prop} {x:X} {s:S} (hx:a9W a l K x s):∃q,K q/\(∀K',K' q->a9W a l K' x s)/\c0m a7 l q x s:=by
 have key:I9 a s l (λvs=>match a0A s.o vs with|some q=>K q|none=>False)->∃q,K q/\(∀K':List R->Prop,K' q->I9 a s l (λvs=>match a0A s.o vs with|some q=>K' q|none=>False))/\a7p a7 s l q:=λhx=>by
  obtain⟨vs,h1,h2⟩:=h.rResp _ hx
  split at h1 <;> try exact h1.elim
  rename_i q hq;refine⟨q,h1,λK' hk=>h2 _ (by rw[hq];exact hk),?_⟩;have h3:I9 a7 s l (λus=>us=vs):=h.rRes (h2 (λus=>us=vs) rfl) λ_ h=>h
  exact toS h3 hq
 cases x with
 | normal=>exact key hx
 | ret=>exact key hx
 | exit i=>exact hx.elim
where
 toS {s:S}:∀ {l:List ResultVar} {vs:List V} {q:List R},I9 a7 s l (λus=>us=vs)->a0A s.o vs=some q->a7p a7 s l q
  | [],vs,q,h,hq=>by
   have h:[]=vs:=h;subst h;injection hq with hq;subst hq
   trivial
  | .tmp t::l,vs,q,h,hq=>by
   cases vs with
   | nil =>
    have h:I9 a7 s l (λvs=>m8 s.t t::vs=[]):=h;obtain⟨v,h1,_⟩:=resO_ptr _ h;cases h1
   | cons v vs =>
    have h:I9 a7 s l (λus=>m8 s.t t::us=v::vs):=h;obtain⟨us,h1,h2⟩:=resO_ptr _ h;injection h1 with h1 h3;subst h3;rw[<-h1] at hq;rw[a0A] at hq
    split at hq <;> try cases hq
    rename_i y hy
    split at hq <;> try cases hq
    rename_i ys hys;exact⟨hy,toS (h2 (λvs=>vs=us) rfl) hys⟩
  | .cell b t::l,vs,q,h,hq=>by
   have h:B1 a7 s.o (λy=>I9 a7 s l (λus=>y::us=vs)) t (m8 s.t b):=h;obtain⟨y,h1,h2⟩:=a0D _ h;obtain⟨us,h3,h4⟩:=resO_ptr _ h1;subst h3;rw[a0A] at hq
   split at hq <;> try cases hq
   rename_i r hr
   split at hq <;> try cases hq
   rename_i rs hrs;exact⟨h2 _ hr,toS (h4 (λvs=>vs=us) rfl) hrs⟩
 resO_ptr {s:S}:∀ {l:List ResultVar},PtG λK=>I9 a7 s l K
  | [],K,hx=>⟨_,hx,λK' hk=>hk⟩
  | .tmp t::l,K,hx=>by
   obtain⟨v,h1,h2⟩:=resO_ptr (l:=l) _ hx;exact⟨_,h1,λK' hk=>h2 _ hk⟩
  | .cell b t::l,K,hx=>by
   obtain⟨v,h1,h2⟩:=a0D _ hx;obtain⟨vs,h3,h4⟩:=resO_ptr (l:=l) _ h1;exact⟨_,h3,λK' hk=>h2 _ (h4 _ hk)⟩
theorem b8R {a:Ar} (h:Ok a) {l:List ResultVar} {x:X} {s:S}:PtG λK=>a9W a l K x s:=by
 intro K hx;obtain⟨q,h1,h2,_⟩:=a79 h hx;exact⟨q,h1,h2⟩
theorem b7u {n:Nat} {res:List V} {s:S}:PtG λK:V×List O×List Nat->Prop=>a3I n (λv o ks=>K (v,o,ks)) res s:=by
 intro K hx;simp only[a3I] at hx ⊢
 split at hx <;> try exact hx.elim
 exact⟨_,hx,λK' hk=>hk⟩
theorem a9Y {a:Ar} (h:Ok a) {n:Nat} {l:List ResultVar} {x:X} {s:S}:PtG λK:V×List O×List Nat->Prop=>a3Z a n (λv o ks=>K (v,o,ks)) l x s:=by
 intro K hx
 have key:I9 a s l (λvs=>a3I n (λv o ks=>K (v,o,ks)) vs s)->∃v,K v/\∀K':V×List O×List Nat->Prop,K' v->I9 a s l (λvs=>a3I n (λv o ks=>K' (v,o,ks)) vs s):=λhx=>by
  obtain⟨vs,h1,h2⟩:=h.rResp _ hx;obtain⟨p,h3,h4⟩:=b7u K h1;exact⟨p,h3,λK' hk=>h2 _ (h4 K' hk)⟩
 cases x with
 | normal=>exact key hx
 | ret=>exact key hx
 | exit i=>exact hx.elim
theorem a8P {a:Ar} (h:Ok a) {n:Nat} {K:V->List O->List Nat->Prop} {l:List ResultVar} {x:X} {s:S} (hx:a3Z a n K l x s):a3Z a7 n K l x s:=by
 cases x with
 | normal=>exact h.rRes (l:=l) hx λ_ h=>h
 | ret=>exact h.rRes (l:=l) hx λ_ h=>h
 | exit i=>exact hx.elim
theorem b1s {a:Ar} (h:Ok a) {o:List O} {l:List ResultVar} {K:List R->Prop} {x:X} {s:S} (hx:b5w a o K l x s):∃q,K q/\(∀K':List R->Prop,K' q->b5w a o K' l x s)/\c1u a7 o l q x s:=by
 have key:I9 a s l (λres=>b5v o K res s)->∃q,K q/\(∀K':List R->Prop,K' q->I9 a s l (λres=>b5v o K' res s))/\I9 a7 s l (λres=>m5 (C6 0 s.o) (j2 o)=.kl []/\a1q (j2 o) (C6 0 s.o)=C6 0 o/\a0A s.o res=some q):=λhx=>by
  obtain⟨vs,h1,h2⟩:=h.rResp _ hx;unfold b5v at h1
  split at h1 <;> try exact h1.elim
  rename_i hk
  split at h1 <;> try exact h1.elim
  rename_i he
  split at h1 <;> try exact h1.elim
  rename_i q hq;refine⟨q,h1,λK' hk'=>h2 _ ?_,?_⟩
  ·unfold b5v;simp only[hk,he,hq];exact hk'
  ·refine h.rRes (h2 (λus=>us=vs) rfl) λus e=>?_
   subst e;exact⟨hk,F9 (λ_ _=>b7o) he,hq⟩
 cases x with
 | normal=>exact key hx
 | ret=>exact key hx
 | exit i=>exact hx.elim
theorem b4e (T:Tab) (hint:Nat->Bool):∀n,Ok (a1n T hint n)
 | 0=>b1r (λ_ _ _ h=>h.elim) (λ_ _ _ h=>h.elim) (λ_ _ _ _ h=>h.elim) (λ_ _ _ _ h=>h.elim) (λ_ _ _ _ h=>h.elim) (λ_ _ _ _ h=>h.elim) (λ_ _ _ _ _ h=>h.elim) (λ_ _ _ _ _ h=>h.elim)
 | n+1=>by
  have ih:=b4e T hint n;refine b1r (λf rs K hx=>?_) (λf rs K hx=>?_) (λf vs o K hx=>?_) (λf vs o K hx=>?_) (λf vs s K hx=>?_) (λf vs s K hx=>?_) (λf vs l s K hx=>?_) (λf vs l s K hx=>?_)
  ·have hg:=T.good f
   split at hx <;> try exact hx.elim
   ·rename_i fn c hT;rw[hT] at hg;obtain⟨⟨x,s'⟩,h1,h2⟩:=ih.rExecp c (a1B rs (fn.ntmps - m9 rs)) (λp=>a9W (a1n T hint n) fn.results.toList K p.1 p.2) hx;obtain⟨q,h3,h4,h5⟩:=a79 ih h1;refine⟨q,a2a hg.f hg.b hg.n hg.c hg.r λqa qb qc qd qe qf qg qh qi qj qk ql qm qo qp qq qs qt qu qv qw qx qy qz va vc vd ve vf vg vh vj vk vl vp vq vr vt vu vv vw vx vy hA=>?_,h3⟩;rw[hA]
    exact ih.rExec _ _ _ _ (h2 (λp=>p=(x,s')) rfl) λx2 s2 he=>by
     obtain⟨e1,e2⟩:=Prod.mk.inj he;subst e1;subst e2;exact h5
   ·rename_i F hT;rw[hT] at hg
    split at hx <;> try exact hx.elim
    rename_i q hq;exact⟨q,hg _ _ hq,hx⟩
  ·split at hx <;> try exact hx.elim
   ·rename_i fn c hT;obtain⟨⟨x,s'⟩,h1,h2⟩:=ih.rExecp c (a1B rs (fn.ntmps - m9 rs)) (λp=>a9W (a1n T hint n) fn.results.toList K p.1 p.2) hx;obtain⟨q,h3,h4⟩:=b8R ih K h1;refine⟨q,h3,λK' hk=>?_⟩;exact h2 (λp=>a9W (a1n T hint n) fn.results.toList K' p.1 p.2) (h4 K' hk)
   ·rename_i F hT
    split at hx <;> try exact hx.elim
    rename_i q hq;exact⟨q,hx,λK' hk=>hk⟩
  ·have hg:=T.good f
   split at hx <;> try exact hx.elim
   rename_i fn c hT;rw[hT] at hg;obtain⟨⟨x,s'⟩,h1,h2⟩:=ih.rExecp c (L3 vs o (fn.ntmps - m9 vs)) (λp=>b5w (a1n T hint n) o (λq=>K (a2v q)) fn.results.toList p.1 p.2) hx;obtain⟨q,h3,h4,h5⟩:=b1s ih h1;refine⟨a2v q,c0p hg.f hg.b hg.n hg.c hg.r ?_,h3⟩
   exact ih.rExec _ _ _ _ (h2 (λp=>p=(x,s')) rfl) λx2 s2 he=>by
    obtain⟨e1,e2⟩:=Prod.mk.inj he;subst e1;subst e2;exact h5
  ·split at hx <;> try exact hx.elim
   rename_i fn c hT;obtain⟨⟨x,s'⟩,h1,h2⟩:=ih.rExecp c (L3 vs o (fn.ntmps - m9 vs)) (λp=>b5w (a1n T hint n) o (λq=>K (a2v q)) fn.results.toList p.1 p.2) hx;obtain⟨q,h3,h4,h5⟩:=b1s ih h1;refine⟨a2v q,h3,λK' hk=>?_⟩;exact h2 (λp=>b5w (a1n T hint n) o (λq=>K' (a2v q)) fn.results.toList p.1 p.2) (h4 (λq=>K' (a2v q)) hk)
  ·have hg:=T.good f
   split at hx <;> try exact hx.elim
   ·rename_i fn c hT;rw[hT] at hg;exact a9H hg.f hg.b hg.n hg.c hg.r (ih.rExec _ _ _ _ hx λx s2 h=>a8P ih h)
   ·rename_i F hT;rw[hT] at hg
    split at hx <;> try exact hx.elim
    rename_i v o' ks hF;refine(hg _ _ _ hF).mono λx o2 ks2 e=>?_
    obtain⟨e1,e2⟩:=Prod.mk.inj e;obtain⟨e2,e3⟩:=Prod.mk.inj e2;subst e1;subst e2;subst e3;exact hx
   ·rename_i F hT;rw[hT] at hg
    split at hx
    ·rename_i rs hrs
     split at hx <;> try exact hx.elim
     rename_i q hq;refine(a6E (hg _ _ hq) hrs).mono λx o' ks ⟨e1,e2,e3⟩=>?_
     subst e1;subst e2;subst e3;exact hx
    ·split at hx <;> try exact hx.elim
     rename_i rs hrs
     split at hx <;> try exact hx.elim
     rename_i q hq;refine(b4U _ (hg _ _ hq) hrs).mono λx o' ks ⟨e1,e2,e3⟩=>?_
     subst e1;subst e2;subst e3;exact hx
  ·split at hx <;> try exact hx.elim
   ·rename_i fn c hT;obtain⟨⟨x,s'⟩,h1,h2⟩:=ih.rExecp c (L3 vs s.o (fn.ntmps - m9 vs)) (λp=>a3Z (a1n T hint n) (j2 s.o) (λv o' ks=>K (v,⟨z6 ks s.t,o'⟩)) fn.results.toList p.1 p.2) hx;obtain⟨⟨v,o',ks⟩,h3,h4⟩:=a9Y ih (λp=>K (p.1,⟨z6 p.2.2 s.t,p.2.1⟩)) h1;refine⟨_,h3,λK' hk=>?_⟩;exact h2 (λp=>a3Z (a1n T hint n) (j2 s.o) (λv o' ks=>K' (v,⟨z6 ks s.t,o'⟩)) fn.results.toList p.1 p.2) (h4 (λp=>K' (p.1,⟨z6 p.2.2 s.t,p.2.1⟩)) hk)
   ·rename_i F hT
    split at hx <;> try exact hx.elim
    rename_i v o' ks hF;exact⟨_,hx,λK' hk=>hk⟩
   ·rename_i F hT
    split at hx
    ·rename_i rs hrs
     split at hx <;> try exact hx.elim
     rename_i q hq;exact⟨_,hx,λK' hk=>hk⟩
    ·split at hx <;> try exact hx.elim
     rename_i rs hrs
     split at hx <;> try exact hx.elim
     rename_i q hq;exact⟨_,hx,λK' hk=>hk⟩
  ·have hg:=T.good f
   split at hx <;> try exact hx.elim
   rename_i fn c hT;rw[hT] at hg;refine b8B hg.f hg.b hg.n hg.c hg.r (ih.rExec _ _ _ _ hx λx s2 h=>?_)
   obtain⟨⟨v,o',ks⟩,h3,h4⟩:=a9Y ih (λp=>match geN (j2 s.o) p.2.2 with
    | true=>match a1y s.t s.o p.2.1 l with|true=>K p.1 ⟨s.t,p.2.1⟩|false=>False
    | false=>False) h
   simp only at h3
   split at h3 <;> try exact h3.elim
   rename_i hk1
   split at h3 <;> try exact h3.elim
   rename_i hk2;exact a8P ih (h4 (λp=>geN (j2 s.o) p.2.2=true/\(a5p l s.t s.o p.2.1/\K p.1 ⟨s.t,p.2.1⟩)) ⟨hk1,a5E hk2,h3⟩)
  ·split at hx <;> try exact hx.elim
   rename_i fn c hT
   obtain⟨⟨x,s'⟩,h1,h2⟩:=ih.rExecp c (L3 vs s.o (fn.ntmps - m9 vs)) (λp=>a3Z (a1n T hint n) (j2 s.o) (λv o' ks=>match geN (j2 s.o) ks with
    | true=>match a1y s.t s.o o' l with|true=>K (v,⟨s.t,o'⟩)|false=>False
    | false=>False) fn.results.toList p.1 p.2) hx
   obtain⟨⟨v,o',ks⟩,h3,h4⟩:=a9Y ih (λp=>match geN (j2 s.o) p.2.2 with
    | true=>match a1y s.t s.o p.2.1 l with|true=>K (p.1,⟨s.t,p.2.1⟩)|false=>False
    | false=>False) h1
   simp only at h3
   split at h3 <;> try exact h3.elim
   rename_i hk1
   split at h3 <;> try exact h3.elim
   rename_i hk2;refine⟨_,h3,λK' hk=>?_⟩
   exact h2 (λp=>a3Z (a1n T hint n) (j2 s.o) (λv o' ks=>match geN (j2 s.o) ks with
    | true=>match a1y s.t s.o o' l with|true=>K' (v,⟨s.t,o'⟩)|false=>False
    | false=>False) fn.results.toList p.1 p.2) (h4 (λp=>match geN (j2 s.o) p.2.2 with
    | true=>match a1y s.t s.o p.2.1 l with|true=>K' (p.1,⟨s.t,p.2.1⟩)|false=>False
    | false=>False) (by simp only[hk1,hk2];exact hk))
theorem b5x {T:Tab} {hint:Nat->Bool} {n f:Nat} {fn:Func} {c:Code} {rs q:List R} (hg:Good f fn c)
  (h:w5 (a1n T hint n) c (a1B rs (fn.ntmps - m9 rs)) (λx s=>a9W (a1n T hint n) fn.results.toList (λq'=>match P8 a76 q' q with|true=>True|false=>False) x s)=True):m6 f rs q:=by
 have ih:=b4e T hint n;have hx:=of_eq_true h;obtain⟨⟨x,s'⟩,h1,h2⟩:=ih.rExecp c (a1B rs (fn.ntmps - m9 rs)) (λp=>a9W (a1n T hint n) fn.results.toList (λq'=>match P8 a76 q' q with|true=>True|false=>False) p.1 p.2) hx;obtain⟨q',h3,h4,h5⟩:=a79 ih h1
 split at h3 <;> try exact h3.elim
 rename_i he;rw[F9 (λ_ _=>a4U) he] at h5;refine a2a hg.f hg.b hg.n hg.c hg.r ?_;intros;rename_i hA;rw[hA]
 exact ih.rExec _ _ _ _ (h2 (λp=>p=(x,s')) rfl) λx2 s2 he=>by
  obtain⟨e1,e2⟩:=Prod.mk.inj he;subst e1;subst e2;exact h5
section
variable {qa:IntKind->Int->Int} {qb:Int->Int->Int} {qc:Int->Int->Int} {qd:Int->Int->Int} {qe:Int->Int->Int} {qf:Int->Int->Int} {qg:BinOp->IntKind->Int->IntKind->Int->Option Int} {qh:Int->Int->Bool} {qi:Int->Int->Bool} {qj:Int->Int->Bool} {qk:Int->Prop->Prop} {ql:List UInt8->List UInt8->Bool} {qm:List UInt8->List UInt8->Bool} {qo:ByteArray->List UInt8} {qp:ByteArray->ByteArray->ByteArray} {qq:ByteArray->ByteArray->Prop->Prop} {qs:ByteArray->Int} {qt:ByteArray->Int->Option Int} {qu:ByteArray->Int->Int->Option ByteArray} {qv:List (List D)->Option ByteArray} {qw:ByteArray->List (List D)} {qx:Int->Nat->Option Nat} {qy:List (List D)->Int} {qz:List (List D)->Int->Option (List D)} {va:List (List D)->Int->Int->Option (List (List D))} {vc:List (List D)->List (List D)->List (List D)} {vd:List (List D)->Int->List D->List (List D)} {ve:List (List D)->List (List D)->Prop->Prop} {vf:List (R×R)->R->Option R} {vg:List (R×R)->R->R->List (R×R)} {vh:List D->List D->Bool} {vj:Int->List D->(List (List D)->Prop)->Prop} {vk:Nat->List R->(List R->Prop)->Prop} {vl:Nat->List V->List O->(V->Prop)->Prop} {vp:Nat->List V->S->(V->S->Prop)->Prop} {vq:Nat->List V->List Nat->S->(V->S->Prop)->Prop} {vr:Nat->(Bool->Prop)->Prop} {vt:Nat->(Bool->Prop)->Prop} {vu:Nat->(List V->List O->Prop)->List V->S->Prop} {vv:(S->Prop)->S->Prop} {vw:Op->Option Nat->S->(S->Prop)->Prop} {vx:Array Oper->S->(S->Prop)->Prop} {vy:Code->(S->(X->S->Prop)->Prop)->S->(X->S->Prop)->Prop}
end
end
end Go.Proofs.YtlofmibkljoapaaDoor.Vm
end
section
namespace Go.Proofs.YtlofmibkljoapaaDoor.Vm
open Go.RowKit Go.Proofs
section
variable {F:Fence} {n:Nat} {P:Program} {w:World}
def b7v (B:Nat) (Kp:World->World->Prop) (I:World->Prop) (Ix:Code->World->Prop) (W:World):Exit->Act->World->Prop
 | .normal,_,W'=>KeepsFrom B W W'/\Kp W W'/\I W'
 | .ret,_,W'=>KeepsFrom B W W'/\Ix .ret W'
 | .exit i,_,W'=>KeepsFrom B W W'/\Ix (.exit i) W'
 | _,_,_=>False
def b8S (F:Fence) (n:Nat) (P:Program) (gf:Nat) (lb:Array Value) (encs:Nat->Array Value) (Kp:World->World->Prop) (N:Nat) (w:World):Prop :=
 ∀(l:Nat) (J:Nat->World->Prop) (Jx:Unit->World->Prop) (W:World),Below w.heap.size w W ->
  (∀k W1,k<N->J k W1->YieldAt F (n - 1) P l (encs k) W1 λe W'=>(e=.returned (.bool true)/\J (k+1) W'/\Kp W1 W')\/(e=.returned (.bool false)/\Jx () W')) ->
  J 0 W->CallsIn F n P gf (#[.func (.yield l) #[] #[]]++lb) W λe W'=>(∃v,e=.returned v)/\(J N W'\/Jx () W')
def b1t (L:Nat) (p:World->Prop):Prop:=∀(W:World) (r r':Loop),p W->W.heap[L]?=some (.loop r)->p (W.putObj L (.loop r'))
theorem b8T {g:Operand} {ps:Array Tmp} {assign body:Code} {Q:Exit->Act->World->Prop} {a:Act}
  (hro:F.round=none) (h1:1<=n) {gf:Nat} {lb:Array Value} (hg:a.eval g=.func (.func gf) #[] lb) (hFg:F.fn gf) (eg:∀args w,(callFunc gf args).run P w=.ok (.enter gf args) w)
  {encs:Nat->Array Value} {Kp:World->World->Prop} {N:Nat} (hseq:b8S F (n - 1) P gf lb encs Kp N w)
  (hKt:∀ {A B C:World},Kp A B->Kp B C->Kp A C) (hKb:∀(W:World) (l:Nat) (o o':Obj),w.heap.size<=l->W.heap[l]?=some o->o.isCells=false->o.isWalk=false->Kp W (W.putObj l o')) (hps:∀k,(encs k).size=ps.size)
  (I:Nat->World->Prop) (Ix:Code->World->Prop) (hI:∀k,b1t (w.heap.size+1) (I k)) (hIx:∀c,b1t (w.heap.size+1) (Ix c)) (h0:∀r:Loop,I 0 ((w.alloc (.deferred (some []))).alloc (.loop r)))
  (hround:∀(l k:Nat) (W:World),k<N->I k W->((∃r:Loop,W.heap[w.heap.size+1]?=some (.loop r))/\W.heap[w.heap.size]?=some (.deferred (some [])))->assign.wpIn (F.inRound l) (n - 1 - 1) P (Exit.then (λa' W1=>KeepsFrom w.heap.size W W1/\Kp W W1/\∃R:World->Prop,b1t (w.heap.size+1) R/\R W1/\∀W2,R W2->body.wpIn (F.inRound l) (n - 1 - 1) P (b7v w.heap.size Kp (I (k+1)) Ix W2) a' W2) (λ_ _ _=>False))
   { tmps:=(ps.zip (encs k)).foldl (λt (p,v)=>t.setIfInBounds p v) a.tmps,defers:=[] } W)
  (hdone:∀(D:Nat) (W:World),D=w.heap.size->I N W->W.heap[D]?=some (.deferred (some []))->Q .normal { a with defers:={ target:=.collected D,args:=#[] }::a.defers } W)
  (hstop:∀(D:Nat) (c:Code) (W:World),w.heap.size<=D->Ix c W->W.heap[D]?=some (.deferred (some []))->c.wpIn F n P Q { a with defers:={ target:=.collected D,args:=#[] }::a.defers } W) :
  (Code.rangeFunc g ps assign body).wpIn F n P Q a w:=by
 refine wpIn_rangeFunc λfn hfn=>?_
 rw[hro];obtain⟨D,hD⟩:∃D,D=w.heap.size:=⟨_,rfl⟩;obtain⟨rec,hrec⟩:∃rec:LoopState->Option Code->Loop,rec=λst pe=>{ state:=st,pending:=pe,fn,tmps:=a.tmps,params:=ps,assign,body,defers:=w.heap.size }:=⟨_,rfl⟩
 obtain⟨W1,hW1⟩:∃W1,W1=(w.alloc (.deferred (some []))).alloc (.loop (rec .ready none)):=⟨_,rfl⟩;have hs1:W1.heap.size=D+1+1:=by rw[hW1,hD];simp
 have hbel:Below D w W1:=by rw[hW1,hD];exact((Below.refl _ w).alloc (c2A _) _).alloc (by simp) _
 have hL1:W1.heap[D+1]?=some (.loop (rec .ready none)):=by
  have:=World.alloc_heap_new (w.alloc (.deferred (some []))) (.loop (rec .ready none));rw[World.size_alloc,<-hD,<-hW1] at this;exact this
 have hD1:W1.heap[D]?=some (.deferred (some [])):=by
  rw[hW1,hD];exact(Below.heap_alloc _ _ _ (by simp)).trans (World.alloc_heap_new w _)
 have hI1:I 0 W1:=by rw[hW1];exact h0 _
 refine⟨D+1,[{ target:=.collected D,args:=#[] }],W1,{ target:=.fn (.func gf) lb,args:=#[.func (.yield (D+1)) #[] #[]] },W1,gf,#[.func (.yield (D+1)) #[] #[]]++lb,W1,
  by rw[hW1,hrec,hD];exact run_enterLoop_outer _ _ _ _ _,by simp only[resolve,hg];simp[go_sem],λf' hf=>by simp[Target.leads] at hf;subst hf;exact hFg,by simp[invoke,go_sem,eg],λ_=>h1,?_⟩
 refine(hseq (D+1) (λk W=>I k W/\W.heap[D+1]?=some (.loop (rec .ready none))/\W.heap[D]?=some (.deferred (some [])))
  (λ_ W=>∃c,Ix c W/\W.heap[D+1]?=some (.loop (rec .done (some c)))/\W.heap[D]?=some (.deferred (some []))) W1 (hD ▸ hbel) ?_ ⟨hI1,hL1,hD1⟩).mono ?_
 ·rintro k W hk ⟨hi,hl,hd⟩
  have hy:=run_yield (P:=P) (args:=encs k) hl (by rw[hrec];exact hps k);rw[hrec] at hy;refine⟨fn,_,assign,body,hy,roundIn_of_wpIn hfn (wpIn_mono (hround (D+1) k W hk hi ⟨⟨_,hD ▸ hl⟩,hD ▸ hd⟩) λe a' Wa h=>?_)⟩;cases e with
  | normal =>
   obtain⟨ha1,ha2,R,hR,hr1,hb⟩:=h;have hl2:=ha1.same _ _ (by omega) hl rfl;have hd2:=ha1.same _ _ (by omega) hd rfl;refine⟨_,run_beginRound hl2 (by rw[hrec]),?_⟩;obtain⟨W2,hW2⟩:∃W2,W2=Wa.putObj (D+1) (.loop { rec .ready none with state:=.busy }):=⟨_,rfl⟩;have hl3:W2.heap[D+1]?=some (.loop { rec .ready none with state:=.busy }):=by rw[hW2];exact World.putObj_heap_same (c2I.1 hl2).1
   have hd3:W2.heap[D]?=some (.deferred (some [])):=by rw[hW2];exact(World.putObj_heap_other (by omega)).trans hd2
   have hk3:Kp Wa W2:=by rw[hW2];exact hKb _ _ _ _ (by omega) hl2 rfl rfl
   have hr2:R W2:=by rw[hW2];rw[hD] at hl2 ⊢;exact hR _ _ _ hr1 hl2
   rw[<-hW2];refine wpIn_mono (hb W2 hr2) λe a3 W3 hp=>?_
   have fin:∀jump:Option Code,KeepsFrom w.heap.size W2 W3->∃W4,W4=W3.putObj (D+1) (.loop (rec (if jump.isNone then .ready else .done) jump))/\(Instr.endRound (D+1) jump).run P W3=.ok (.bool jump.isNone) W4 /\
     W3.heap[D+1]?=some (.loop { rec .ready none with state:=.busy })/\W4.heap[D+1]?=some (.loop (rec (if jump.isNone then .ready else .done) jump))/\W4.heap[D]?=some (.deferred (some [])):=λjump hk=>by
    have h3:=hk.same _ _ (by omega) hl3 rfl;refine⟨_,rfl,?_,h3,World.putObj_heap_same (c2I.1 h3).1,(World.putObj_heap_other (by omega)).trans (hk.same _ _ (by omega) hd3 rfl)⟩;have:=run_endRound (P:=P) jump h3;rw[hrec] at this ⊢;exact this
   cases e with
   | normal =>
    obtain⟨h5,h6,h7⟩:=hp;obtain⟨W4,e4,hr4,hl4,hl5,hd5⟩:=fin none h5;exact⟨_,W4,hr4,.inl ⟨rfl,⟨by rw[e4];rw[hD] at hl4 ⊢;exact hI _ _ _ _ h7 hl4,hl5,hd5⟩,hKt ha2 (hKt (hKt hk3 h6) (by rw[e4];exact hKb _ _ _ _ (by omega) hl4 rfl rfl))⟩⟩
   | ret =>
    obtain⟨h5,h7⟩:=hp;obtain⟨W4,e4,hr4,hl4,hl5,hd5⟩:=fin (some .ret) h5;exact⟨_,W4,hr4,.inr ⟨rfl,.ret,by rw[e4];rw[hD] at hl4 ⊢;exact hIx _ _ _ _ h7 hl4,hl5,hd5⟩⟩
   | exit i =>
    obtain⟨h5,h7⟩:=hp;obtain⟨W4,e4,hr4,hl4,hl5,hd5⟩:=fin (some (.exit i)) h5;exact⟨_,W4,hr4,.inr ⟨rfl,.exit i,by rw[e4];rw[hD] at hl4 ⊢;exact hIx _ _ _ _ h7 hl4,hl5,hd5⟩⟩
   | goto t=>exact hp.elim
   | panic ch=>exact hp.elim
   | outgrown=>exact hp.elim
  | _=>exact h.elim
 ·rintro e W2 ⟨⟨v,rfl⟩,⟨hi,hl,hd⟩|⟨c,hi,hl,hd⟩⟩
  ·exact⟨none,_,by have:=run_endLoop (P:=P) hl (by rw[hrec];simp);rw[hrec] at this;exact this,hdone D _ hD (by rw[hD] at hl ⊢;exact hI _ _ _ _ hi hl) ((World.putObj_heap_other (by omega)).trans hd)⟩
  ·exact⟨some c,_,by have:=run_endLoop (P:=P) hl (by rw[hrec];simp);rw[hrec] at this;exact this,hstop D c _ (by omega) (by rw[hD] at hl ⊢;exact hIx _ _ _ _ hi hl) ((World.putObj_heap_other (by omega)).trans hd)⟩
end
end Go.Proofs.YtlofmibkljoapaaDoor.Vm
end
section
namespace Go.Proofs.YtlofmibkljoapaaDoor.Vm
open Go.RowKit Go.Shelf Go.Proofs
attribute [local go_sem] Oper.semAt_some
def KpB (Bs b off m:Nat) (W W':World):Prop:=(∀v,W.cell? ⟨Bs,0,none⟩=some v->W'.cell? ⟨Bs,0,none⟩=some v)/\∀i,i<m->∀v,W.cell? ⟨b,off+i,none⟩=some v->W'.cell? ⟨b,off+i,none⟩=some v
theorem KpB.refl {Bs b off m:Nat} (W:World):KpB Bs b off m W W:=⟨λ_ h=>h,λ_ _ _ h=>h⟩
theorem KpB.trans {Bs b off m:Nat} {A B C:World} (h:KpB Bs b off m A B) (h':KpB Bs b off m B C):KpB Bs b off m A C:=⟨λv hv=>h'.1 v (h.1 v hv),λi hi v hv=>h'.2 i hi v (h.2 i hi v hv)⟩
theorem KpB.turn {Bs b off m:Nat} (W:World) (l:Nat) (o o':Obj) (hl:W.heap[l]?=some o) (ho:o.isCells=false):KpB Bs b off m W (W.putObj l o') :=
 ⟨λv hv=>cell_kept hv (grownBy_putObj' W l o') (λr e=>by cases e;exact⟨o,hl,ho⟩),λi hi v hv=>cell_kept hv (grownBy_putObj' W l o') (λr e=>by cases e;exact⟨o,hl,ho⟩)⟩
set_option maxRecDepth 100000 in
set_option maxHeartbeats 4000000 in
theorem b7w (e:Nat->Nat->Value) (F:Fence) (n:Nat) (hf:F.fn 82) (hro:F.round=none) (hn:1<=n) (l Bs b off len cap:Nat) (hreach:len * 80<=140737488351232) (J:Nat->World->Prop) (Jx:Unit->World->Prop)
  (hY:∀(k:Nat) (W:World),k<len->J k W->YieldAt F (n - 1) Tryd.prog l #[.int .i64 ((len - 1 - k:Nat):Int),.agg #[e (len - 1 - k) 0,e (len - 1 - k) 1,e (len - 1 - k) 2,e (len - 1 - k) 3,e (len - 1 - k) 4]] W λr W' =>
   (r=.returned (.bool true)/\J (k+1) W'/\KpB Bs b off (len * 5) W W')\/(r=.returned (.bool false)/\Jx () W'))
  (W:World) (hBs:W.cell? ⟨Bs,0,none⟩=some (.slice (some ⟨b,off,none⟩) len cap)) (hc:∀j,j<len->∀i,i<5->W.cell? ⟨b,off+(j * 5+i),none⟩=some (e j i)) (h0:J 0 W) :
  CallsIn F n Tryd.prog 82 #[.func (.yield l) #[] #[],.pointer (some ⟨Bs,0,none⟩)] W λr W'=>(∃v,r=.returned v)/\(J len W'\/Jx () W'):=by
 refine callsIn_of_wp Tryd.func82 rfl hf ?_ hro;simp only[Tryd.ntmps82,c4t,c2D,c2N,Nat.reduceAdd,Nat.reduceSub,Array.replicate_succ,Array.replicate_zero,List.push_toArray,List.append_toArray,c3t,c3C]
 gi_wp2
 gi_loopw [3] (λi wr=>∃k r:Nat,k+r=len/\i=.int .i64 ((r:Int) - 1)/\J k wr/\KpB Bs b off (len * 5) W wr)
  (λi _=>(intOf i+1).toNat)
 case atStart=>exact⟨0,len,by omega,rfl,h0,KpB.refl W⟩
 case round =>
  obtain⟨k,r,hk,rfl,hJs,hnx⟩:=hrel;have hbx:=hnx.1 _ hBs;cases r with
  | succ q =>
   have eq:(((q+1:Nat):Int) - 1)=(q:Int):=by omega
   have hq:len - 1 - k=q:=by omega
   rw[eq];have hy0:=hY k wr (by omega) hJs;rw[hq] at hy0;obtain⟨fn,tmps,assign,body,hy,hR⟩:=hy0;have h2:∀i,i<5->wr.cell? ⟨b,off+q * 5+i,none⟩=some (e q i):=λi hi=>by rw[c3J];exact hnx.2 _ (by omega) _ (hc q (by omega) i hi)
   have c0:=h2 0 (by omega);have c1:=h2 1 (by omega);have c2:=h2 2 (by omega);have c3:=h2 3 (by omega);have c4:=h2 4 (by omega);clear h2 hc hY;simp only[c3I] at c0;have hqn:(0:Int)<=(q:Int):=by omega
   have hql:(q:Int)<(len:Int):=by omega
   have hqlt:q<len:=by omega
   gi_wp2
   refine hR.mono ?_
   rintro r W3 (⟨rfl,hJ3,hk3⟩|⟨rfl,hJx3⟩)
   ·gi_wp2
    go_roundw
    case rel=>exact⟨k+1,q,by omega,by simp,hJ3,hnx.trans hk3⟩
    case measure=>simp[intOf]
   ·gi_wp2
    refine bodyPost_ret (results_none rfl _ _ _) rfl ?_;exact⟨⟨_,rfl⟩,.inr hJx3⟩
  | zero =>
   obtain rfl:k=len:=by omega
   clear hY
   gi_wp2
   go_end0
   exact⟨⟨_,rfl⟩,.inl hJs⟩
set_option maxRecDepth 100000 in
set_option maxHeartbeats 2000000 in
theorem b5y (A:Option Addr) (cap:Nat) (F:Fence) (n:Nat) (hf:F.fn 82) (hro:F.round=none) (l Bs:Nat) (J:World->Prop) (W:World) (hBs:W.cell? ⟨Bs,0,none⟩=some (.slice A 0 cap)) (h0:J W) :
  CallsIn F n Tryd.prog 82 #[.func (.yield l) #[] #[],.pointer (some ⟨Bs,0,none⟩)] W λe W'=>(∃v,e=.returned v)/\J W':=by
 refine callsIn_of_wp Tryd.func82 rfl hf ?_ hro;simp only[Tryd.ntmps82,c4t,c2D,c2N,Nat.reduceAdd,Nat.reduceSub,Array.replicate_succ,Array.replicate_zero,List.push_toArray,List.append_toArray,c3t,c3C]
 gi_wp2
 gi_loopw [3] (λi wr=>i=.int .i64 (-1)/\J wr) (λ_ _=>0)
 case atStart=>exact⟨rfl,h0⟩
 case round =>
  obtain⟨rfl,hJs⟩:=hrel
  gi_wp2
  go_end0
  exact⟨⟨_,rfl⟩,hJs⟩
theorem a8Q {I:Nat->Nat->Prop} {w:World} {v:Value} {rows:List (List D)} {Bs:Nat} (hlt:∀b h,I b h->b<w.heap.size) (hv:AtD I w v (.sl 5 rows)) (hBl:Bs<w.heap.size) (hBs:w.cell? ⟨Bs,0,none⟩=some v) (hreach:rows.length * 80<=140737488351232) :
    ∃(b off:Nat) (us:List Value),us.length=rows.length * 5/\(rows≠[]->Up I b (off+rows.length * 5))/\s8 I w us rows.flatten/\(∀r∈rows,r.length=5) /\
      ∀(F:Fence) (n:Nat),F.fn 82->F.round=none->1<=n->b8S F n Tryd.prog 82 #[.pointer (some ⟨Bs,0,none⟩)] (λk=>#[.int .i64 ((rows.length - 1 - k:Nat):Int),.agg (((us.drop ((rows.length - 1 - k) * 5)).take 5).toArray)]) (KpB Bs b off (rows.length * 5)) rows.length w:=by
  obtain⟨A,cap,rfl,hcap,h⟩:=hv.slice
  rcases h with rfl|⟨b,off,us,rfl,hI,hr,hl,hc,hd⟩
  · exact⟨0,0,[],rfl,λh=>absurd rfl h,.nil I w,λr hr=>(by cases hr),λF n hf hro hn l J Jx W hW hY h0 =>
      (b5y A cap F n hf hro l Bs (J 0) W ((hW.cell (p:=⟨Bs,0,none⟩) hBl).trans hBs) h0).mono λe W' h=>⟨h.1,.inl h.2⟩⟩
  · refine⟨b,off,us,hl,λ_=>hI,hd,hr,λF n hf hro hn l J Jx W hW hY h0=>?_⟩
    have hbl:b<w.heap.size:=by obtain⟨k,h1,h2⟩:=hI;exact hlt _ _ h2
    refine b7w (λj i=>us.getD (j * 5+i) undef) F n hf hro hn l Bs b off rows.length cap hreach J Jx (λk W1 hk hj=>?_) W ((hW.cell (p:=⟨Bs,0,none⟩) hBl).trans hBs) (λj hj i hi=>?_) h0
    · have:=hY k W1 hk hj
      have hlen:(rows.length - 1 - k) * 5+5<=us.length:=by rw[hl,<-c3N];exact c31 _ (by omega)
      have e:((us.drop ((rows.length - 1 - k) * 5)).take 5)=[us.getD ((rows.length - 1 - k) * 5+0) undef,us.getD ((rows.length - 1 - k) * 5+1) undef,us.getD ((rows.length - 1 - k) * 5+2) undef,us.getD ((rows.length - 1 - k) * 5+3) undef,us.getD ((rows.length - 1 - k) * 5+4) undef]:=by
        apply c4b
        intro i;rw[c3g]
        split
        · rename_i hi
          rw[c3e];have h3:(rows.length - 1 - k) * 5+i<us.length:=by omega
          have hu:∀j,(rows.length - 1 - k) * 5+j<us.length->us[(rows.length - 1 - k) * 5+j]?=some (us.getD ((rows.length - 1 - k) * 5+j) undef):=λj hj=>by rw[c2V,c28 hj];rfl
          rw[hu i h3]
          match i,hi with
          | 0,_=>rfl
           | 1,_=>rfl
           | 2,_=>rfl
           | 3,_=>rfl
           | 4,_=>rfl
          
        · rename_i hi
          rw[c3p (by simp;omega)]
      dsimp only at this;rw[e] at this;exact this
    · refine(hW.cell (p:=⟨b,off+(j * 5+i),none⟩) hbl).trans ?_
      have h3:j * 5+i<us.length:=by
        have h4:j * 5+5<=rows.length * 5:=by rw[<-c3N];exact c31 _ (by omega)
        omega
      have:=hc (j * 5+i) _ (c28 h3);rw[this,c2V,c28 h3];rfl
end Go.Proofs.YtlofmibkljoapaaDoor.Vm
end
section
namespace Go.Proofs.YtlofmibkljoapaaDoor.Vm
open Go.RowKit
set_option maxRecDepth 100000
set_option maxHeartbeats 4000000
section
section
variable {I0:Nat->Nat->Prop} {X:Nat->Prop} {w0:W0} {I:Nat->Nat->Prop} {g:Nat->Value} {s:S} {a:Act} {w:World}
def other:Obj->Bool
 | .cells _ _ _=>false
 | .map _ _=>false
 | _=>true
theorem Z6 {L:Nat} {o:Obj} (hI:∀k,¬I L k):n7 I w (w.putObj L o):=λb k hb i hi=>by
 have hne:b≠L:=λe=>hI k (e ▸ hb)
 show (match (w.putObj L o).heap[b]? with|some (.cells c _ _)=>c[i]?|_=>none)=_;rw[World.putObj_heap_other hne];rfl
theorem a1f {L:Nat} {y:Obj} (hl:w.heap[L]?=some y) (hy:other y=true) {k:Nat} {o:O} (h:W7 X w0 I w g k o) (hd:o≠.dead):¬M9 (g k) L:=λhg=>by
 cases o with
 | dead=>exact hd rfl
 | box cs =>
  obtain⟨b,us,t,h1,h2,_⟩:=h;rw[h1] at hg;obtain rfl:b=L:=hg;rw[hl] at h2;rw[Option.some.inj h2] at hy;cases hy
 | row z e rows =>
  obtain⟨us,h1,_⟩:=h
  rcases h1.2 with⟨e0,_⟩|⟨g',cap,cur,e0,_,hh,_⟩
  ·rw[e0] at hg;exact hg.elim
  ·rw[e0] at hg;have hg:g'=L:=hg;subst hg;rw[hl] at hh;rw[Option.some.inj hh] at hy;cases hy
 | ob T vs =>
  obtain⟨b,h1,h2,_⟩:=h;rw[h1] at hg;obtain rfl:b=L:=hg;rw[hl] at h2;rw[Option.some.inj h2] at hy;cases hy
 | mp kt es =>
  obtain⟨b,l,c,h1,h2,_⟩:=h;rw[h1] at hg;obtain rfl:b=L:=hg;rw[hl] at h2;rw[Option.some.inj h2] at hy;cases hy
 | it P =>
  obtain⟨A,n,cap,F,h1,h2,h3,h4⟩:=h;rw[h1,z8] at hg;obtain⟨c,t,h5⟩:=(h4 L hg).1;rw[hl] at h5;rw[Option.some.inj h5] at hy;cases hy
 | kl ks =>
  obtain⟨us,h1,_⟩:=h;rw[h1] at hg;exact hg.elim
theorem b1u {L:Nat} {y y':Obj} (hl:w.heap[L]?=some y) (hy:other y=true) (hI:∀k,¬I L k) {k:Nat} {o:O} (h:W7 X w0 I w g k o):W7 X w0 I (w.putObj L y') g k o:=by
 cases hd:o with
 | dead=>exact True.intro
 | _ =>
  rw[hd] at h;exact h.keep (λ_ _ h=>h) (Z6 hI) (λb hb=>World.putObj_heap_other λe=>a1f hl hy h (by simp) (e ▸ hb)) (λb hb h' hh=>hh)
theorem RelI.turned (h:RelI I0 X w0 I g s a w) {L:Nat} {y y':Obj} (hl:w.heap[L]?=some y) (hy:other y=true) (h0:w0.w.heap.size<=L) (hI:∀k,¬I L k):RelI I0 X w0 I g s a (w.putObj L y'):=by
 have hk:=Z6 (w:=w) (o:=y') hI;refine⟨h.im,λb k hb=>⟨?_,(h.lt b k hb).2⟩,⟨h.fr.os,h.fr.tape,h.fr.output,?_,λb hb hX=>(World.putObj_heap_other (by omega)).trans (h.fr.block b hb hX)⟩,h.kp.trans λb k hb i hi=>hk b k (h.im b k hb) i hi,h.lo,h.st,λk o ho=>b1u hl hy hI (h.obj k o ho),h.dis,h.out,h.tmp.mono (λ_ _ h=>h) hk,h.dfr⟩
 ·have:=(h.lt b k hb).1;simpa using this
 ·have:=h.fr.size;simpa using this
end
section
variable {I0:Nat->Nat->Prop} {X:Nat->Prop} {w0:W0} {I:Nat->Nat->Prop} {g:Nat->Value} {s:S} {a:Act} {w:World}
theorem RelI.turnBoth (h:RelI I0 X w0 I g s a w) {L:Nat} {y y0 y':Obj} (hl:w.heap[L]?=some y) (hy:other y=true) (hl0:w0.w.heap[L]?=some y0) (hI:∀k,¬I L k):RelI I0 X ⟨w0.w.putObj L y',w0.g,w0.n,w0.d⟩ I g s a (w.putObj L y'):=by
 have hk:=Z6 (w:=w) (o:=y') hI;have hk0:=Z6 (w:=w0.w) (o:=y') (I:=I0) (λk hk=>hI k (h.im L k hk))
 have hM:∀b,a12 X w0 b->a12 X ⟨w0.w.putObj L y',w0.g,w0.n,w0.d⟩ b:=λb hb=>by
  rcases hb with hb|hb
  ·exact .inl (by simpa using hb)
  ·exact .inr hb
 refine⟨h.im,λb k hb=>⟨?_,λhlt=>(h.lt b k hb).2 (by simpa using hlt)⟩,⟨h.fr.os,h.fr.tape,h.fr.output,?_,λb hb hX=>?_⟩,?_,h.lo,h.st,λk o ho=>?_,h.dis,h.out,h.tmp.mono (λ_ _ h=>h) hk,h.dfr.1,?_⟩
 ·have:=(h.lt b k hb).1;simpa using this
 ·have:=h.fr.size;simpa using this
 ·by_cases e:b=L
  ·subst e;rw[World.putObj_heap_same (c2I.1 hl).1,World.putObj_heap_same (c2I.1 hl0).1]
  ·rw[World.putObj_heap_other e,World.putObj_heap_other e];exact h.fr.block b (by simpa using hb) hX
 ·intro b k hb i hi;exact((hk b k (h.im b k hb) i hi).trans (h.kp b k hb i hi)).trans (hk0 b k hb i hi).symm
 ·have:=b1u (y':=y') hl hy hI (h.obj k o ho);cases o with
  | dead=>exact True.intro
  | box cs=>obtain⟨b,us,t,h1,h2,h3,h4,h5,h6⟩:=this;exact⟨b,us,t,h1,h2,h3,h4,h5,hM b h6⟩
  | mp kt es=>obtain⟨b,l,c,h1,h2,h3,h4,h6⟩:=this;exact⟨b,l,c,h1,h2,h3,h4,hM b h6⟩
  | it P=>obtain⟨A,n,cap,F,h1,h2,h3,h4⟩:=this;exact⟨A,n,cap,F,h1,h2,h3,λb hb=>⟨(h4 b hb).1,(h4 b hb).2.1,hM b (h4 b hb).2.2⟩⟩
  | kl ks=>exact this
  | ob T vs=>obtain⟨b,h1,h2,h3,h4⟩:=this;exact⟨b,h1,h2,h3,hM b h4⟩
  | row z e rows=>obtain⟨us,h1,h2,h3,h4⟩:=this;exact⟨us,h1,h2,h3,λb hb=>⟨(h4 b hb).1,(h4 b hb).2.1,hM b (h4 b hb).2.2⟩⟩
 ·intro t ht;obtain⟨h1,h2⟩:=h.dfr.2 t ht;obtain⟨gl,ty,c,e1,e2,e3⟩:=b6f h1
  have hne:gl≠L:=λe=>by
   subst e;have:=(h.fr.block gl e3 (h2 gl e1)).trans e2;rw[hl] at this;injection this with this;subst this;cases hy
  exact⟨b6g e1 ((World.putObj_heap_other hne).trans e2),h2⟩
theorem a4W {B:Nat} {g':Nat->Value} {os:List O} {nn:Nat} {d:List Deferred} {I2:Nat->Nat->Prop} {g2:Nat->Value} {s2:S} {a2:Act} {w2:World} (h:∀k o,os[k]?=some o->W7 X w0 I w g' k o) (hmp:∀j kt es b,os[j]?=some (.mp kt es)->M9 (g' j) b->b<B)
  (h2:RelI I (Xof g' os) ⟨w,g',nn,d⟩ I2 g2 s2 a2 w2):KeepsFrom B w w2:=by
 refine⟨h2.fr.size,λk o hk ho hc=>(h2.fr.block k (c2I.1 ho).1 λ⟨j,x,hj,hd,hb⟩=>?_).trans ho⟩;have hob:=h j x hj;cases x with
 | dead=>exact hd rfl
 | box cs =>
  obtain⟨b,us,t,h1,h2,_⟩:=hob;rw[h1] at hb;obtain rfl:b=k:=hb;rw[ho] at h2;injection h2 with h2;rw[h2] at hc;cases hc
 | row z e rows =>
  obtain⟨us,h1,_⟩:=hob
  rcases h1.2 with⟨e0,_⟩|⟨g3,cap,cur,e0,_,hh,_⟩
  ·rw[e0] at hb;exact hb.elim
  ·rw[e0] at hb;have hb:g3=k:=hb;subst hb;rw[ho] at hh;injection hh with hh;rw[hh] at hc;cases hc
 | mp kt es=>have:=hmp j kt es k hj hb;omega
 | ob T vs =>
  obtain⟨b,h1,h2,_⟩:=hob;rw[h1] at hb;obtain rfl:b=k:=hb;rw[ho] at h2;injection h2 with h2;rw[h2] at hc;cases hc
 | it P =>
  obtain⟨A,n,cap,F,h1,h2,h3,h4⟩:=hob;rw[h1,z8] at hb;obtain⟨c,t,h5⟩:=(h4 k hb).1;rw[ho] at h5;injection h5 with h5;rw[h5] at hc;cases hc
 | kl ks =>
  obtain⟨us,h1,_⟩:=hob;rw[h1] at hb;exact hb.elim
end
def b1v:O->Bool
 | .mp _ _=>true
 | _=>false
def a1H:List O->List O->Bool
 | _,[]=>true
 | [],o::l=>match b1v o with|true=>false|false=>a1H [] l
 | x::k,o::l=>match b1v o with|true=>(match b1v x with|true=>a1H k l|false=>false)|false=>a1H k l
theorem b8U {o:O} (h:b1v o=true):∃kt es,o=.mp kt es:=by
 cases o with
 | mp kt es=>exact⟨kt,es,rfl⟩
 | _=>cases h
theorem a4X:∀ {k l:List O} {j:Nat} {kt:Nat} {es:List (R×R)},a1H k l=true->l[j]?=some (.mp kt es)->∃kt' es',k[j]?=some (.mp kt' es')
 | _,[],j,_,_,_,h=>by simp at h
 | [],o::l,j,kt,es,hs,h=>by
  simp only[a1H] at hs;cases ho:b1v o with
  | true=>rw[ho] at hs;cases hs
  | false =>
   rw[ho] at hs;cases j with
   | zero=>simp at h;subst h;cases ho
   | succ j =>
    obtain⟨a,b,hx⟩:=a4X hs (show l[j]?=_ by simpa using h)
    simp at hx
 | x::k,o::l,j,kt,es,hs,h=>by
  simp only[a1H] at hs;cases j with
  | zero =>
   simp at h
   subst h;cases hx:b1v x with
   | true=>obtain⟨a,b,rfl⟩:=b8U hx;exact⟨a,b,rfl⟩
   | false=>rw[hx] at hs;cases hs
  | succ j =>
   have hs':a1H k l=true:=by
    cases ho:b1v o with
    | true =>
     rw[ho] at hs;cases hx:b1v x with
     | true=>rw[hx] at hs;exact hs
     | false=>rw[hx] at hs;cases hs
    | false=>rw[ho] at hs;exact hs
   obtain⟨a,b,hx⟩:=a4X hs' (show l[j]?=_ by simpa using h);exact⟨a,b,by simpa using hx⟩
def b7x (ks1 ks2:List Nat) (n:Nat) (o o':List O) (m:Nat) (s2:S):Prop:=m5 s2.o m=.kl ks1/\m5 s2.o n=.kl ks2/\a1q n s2.o=o'/\a1U n o'=true/\a1H o o'=true
def b7y (n:Nat) (o o':List O) (m:Nat) (s2:S):Prop:=m5 s2.o m=.kl []/\m5 s2.o n=.kl []/\a1q n s2.o=o'/\a1U n o'=true/\a1H o o'=true
def b7z (ks1 ks2:List Nat) (asg bdy:Code) (tk:List V) (o o':List O):Prop :=
 w5 a7 asg ⟨tk,o6 o (.kl [])⟩ (λx s1=>x=.normal/\a1H o s1.o=true/\w5 a7 bdy ⟨s1.t,o6 s1.o (.kl [])⟩ (λx s2=>x=.normal/\b7x ks1 ks2 (j2 o) o o' (j2 s1.o) s2))
def c0F (asg bdy:Code) (tk:List V) (o o':List O):Prop :=
 w5 a7 asg ⟨tk,o6 o (.kl [])⟩ (λx s1=>x=.normal/\a1H o s1.o=true/\w5 a7 bdy ⟨s1.t,o6 s1.o (.kl [])⟩ (λx s2=>x=.normal/\b7y (j2 o) o o' (j2 s1.o) s2))
section
variable {I0:Nat->Nat->Prop} {X:Nat->Prop} {w0:W0} {I:Nat->Nat->Prop} {g:Nat->Value} {t:List V} {o:List O} {a:Act} {W:World}
def a2f (I0:Nat->Nat->Prop) (X:Nat->Prop) (w0:W0) (I:Nat->Nat->Prop) (L B:Nat) (t:List V) (a:Act) (o:List O) (W:World):Prop :=
 ∃I' g',(∀b k,I b k->I' b k)/\(∀k,¬I' L k/\¬I' B k)/\RelI I0 X w0 I' g' ⟨t,o⟩ a W/\∀j kt es b,o[j]?=some (.mp kt es)->M9 (g' j) b->b<B
theorem b70 {asg bdy:Code} {ro:Option Nat} {n L B:Nat} {r:Loop} {us:List Value} {tk:List V} {o':List O} {ks1 ks2:List Nat} (hA:o9 Tryd.prog asg=true) (hB:o9 Tryd.prog bdy=true)
  (h:RelI I0 X w0 I g ⟨t,o⟩ a W) (hL:W.heap[L]?=some (.loop r)) {dd:Option (List Deferred)} (hD:W.heap[B]?=some (.deferred dd)) (hL0:w0.w.heap.size<=L) (hI2:∀k,¬I L k/\¬I B k) (hmp:∀j kt es b,o[j]?=some (.mp kt es)->M9 (g j) b->b<B) (hv:f9 I W g us tk) (ht:z6 ks2 t=t) (hx:b7z ks1 ks2 asg bdy tk o o') :
  asg.wpIn (FW ro) n Tryd.prog (Exit.then (λa' W1=>KeepsFrom B W W1/\n7 I W W1/\∃R:World->Prop,b1t L R/\R W1/\∀W2,R W2->bdy.wpIn (FW ro) n Tryd.prog (b7v B (n7 I) (a2f I0 X w0 I L B t a o') (λ_ _=>False) W2) a' W2) (λ_ _ _=>False)) { tmps:=us.toArray,defers:=[] } W:=by
 obtain⟨g',hg,hgn,h1⟩:=h.rebase hv;have hLt:L<W.heap.size:=(c2I.1 hL).1;have hDt:B<W.heap.size:=(c2I.1 hD).1;have hIL:∀k,¬I L k:=λk=>(hI2 k).1
 have hmp1:∀j kt es b,(o6 o (.kl []))[j]?=some (.mp kt es)->M9 (g' j) b->b<B:=λj kt es b hj hb=>by
  rw[a0m] at hj
  have hlt:j<o.length:=by
   have:=(c25.1 hj).1;rw[c29,c4r] at this
   rcases c3o j o.length with h|h
   ·exact h
   ·have:j=o.length:=by omega
    subst this
    simp at hj
  rw[c2R hlt] at hj;rw[hg j hlt] at hb;exact hmp j kt es b hj hb
 have hXL:¬Xof g' (o6 o (.kl [])) L:=λ⟨j,x,hj,hd,hb⟩=>a1f hL rfl (h1.obj j x hj) hd hb
 have hXD:¬Xof g' (o6 o (.kl [])) B:=λ⟨j,x,hj,hd,hb⟩=>a1f hD rfl (h1.obj j x hj) hd hb
 refine G1 asg _ _ _ _ _ hA ⟨I,g',h1⟩ hx λe s1 a' W1 hr hk=>?_
 obtain⟨he,hms,hx2⟩:=hk;subst he;obtain⟨I1,g1,h1a⟩:=hr
 have hI1L:∀k,¬I1 L k:=λk hk=>by
  rcases (h1a.lt L k hk).2 hLt with h2|h2
  ·exact hIL k h2
  ·exact hXL h2
 have hI1D:∀k,¬I1 B k:=λk hk=>by
  rcases (h1a.lt B k hk).2 hDt with h2|h2
  ·exact(hI2 k).2 h2
  ·exact hXD h2
 have hmp2:∀j kt es b,s1.o[j]?=some (.mp kt es)->M9 (g1 j) b->b<B:=λj kt es b hj hb=>by
  obtain⟨kt',es',ho⟩:=a4X hms hj;have hlt:=(c25.1 ho).1;obtain⟨b0,l0,c0,e0,_⟩:=h.obj j _ ho;have e1:=hg j hlt;rw[e0] at e1;have e2:=h1a.st j (Nat.lt_succ_of_lt hlt) (by show H6 (g' j)=true;rw[e1];rfl);have e2:g1 j=g' j:=e2;rw[e2,e1] at hb;exact hmp j kt' es' b ho (by rw[e0];exact hb)
 refine⟨a4W h1.obj hmp1 h1a,h1a.kp,λW2=>∃(Wb:World) (rb r2:Loop),RelI I0 X w0 I g ⟨t,o⟩ a Wb/\Wb.heap[L]?=some (.loop rb)/\W2.heap[L]?=some (.loop r2)/\(B≠L->W2.heap[B]?=some (.deferred dd))/\RelI I (Xof g' (o6 o (.kl []))) ⟨Wb,g',o.length+1,[]⟩ I1 g1 s1 a' W2,?_,?_,?_⟩
 ·rintro W2 r3 r' ⟨Wb,rb,r2,b1,b2,b3,bd,b4⟩ hl
  exact⟨Wb.putObj L (.loop r'),r',r',b1.turned b2 rfl hL0 hIL,World.putObj_heap_same (c2I.1 b2).1,World.putObj_heap_same (c2I.1 b3).1,λhne=>(World.putObj_heap_other hne).trans (bd hne),b4.turnBoth hl rfl b2 hI1L⟩
 ·exact⟨W,r,r,h,hL,(h1a.fr.block L hLt hXL).trans hL,λ_=>(h1a.fr.block B hDt hXD).trans hD,h1a⟩
 ·rintro W2 ⟨Wb,rb,r2,b1,b2,b3,bd,b4⟩
  have hne:B≠L:=λe=>by rw[e,hL] at hD;cases hD
  have bd:=bd hne;obtain⟨g3,hg3,hgn3,h5⟩:=b4.rebase b4.tmp
  have ea:({ tmps:=a'.tmps.toList.toArray,defers:=[] }:Act)=a':=by
   have:=b4.dfr.1;cases a';simp only at this;subst this;rfl
  rw[ea] at h5
  have hmp3:∀j kt es b,(o6 s1.o (.kl []))[j]?=some (.mp kt es)->M9 (g3 j) b->b<B:=λj kt es b hj hb=>by
   rw[a0m] at hj
   have hlt:j<s1.o.length:=by
    have:=(c25.1 hj).1;rw[c29,c4r] at this
    rcases c3o j s1.o.length with h|h
    ·exact h
    ·have:j=s1.o.length:=by omega
     subst this
     simp at hj
   rw[c2R hlt] at hj;rw[hg3 j hlt] at hb;exact hmp2 j kt es b hj hb
  refine G1 bdy _ _ _ _ _ hB ⟨I1,g3,h5⟩ hx2 λe s2 a3 W3 hr hk=>?_
  obtain⟨he,k1,k2,k3,k4,k5⟩:=hk;subst he;obtain⟨I2,g2,h6⟩:=hr;have hlo:o.length+1<=s1.o.length:=h1a.lo;have k1:=j1 k1 (by simp);have k2:=j1 k2 (by simp);rw[m7] at k1 k2 k3 k4;rw[a2N] at k3;obtain⟨_,h7⟩:=b4.unbase hg3 hgn3 h6 k1;obtain⟨hcut,h8⟩:=b1.unbase hg hgn h7 (ks:=ks2) (by rw[c2L (by show s1.o.length≠o.length;omega)];exact k2)
  have e3:((s2.o.set s1.o.length .dead).set o.length .dead).take o.length=o':=by
   rw[c4l (c2A _),c4l (by omega),k3]
  have hl2:o.length<s2.o.length:=(c25.1 k2).1;have h9:=h8.trim (n:=o.length) h.lo (by show o.length<=((s2.o.set _ _).set _ _).length;rw[c2K,c2K];omega) hcut (by show a1U _ (((s2.o.set _ _).set _ _).take _)=true;rw[e3];exact k4);have e4:(⟨z6 ks2 t,((s2.o.set s1.o.length .dead).set o.length .dead).take o.length⟩:S)=⟨t,o'⟩:=by rw[e3,ht]
  have h9':RelI I0 X w0 I2 (a2D o.length g2) ⟨t,o'⟩ a W3:=by rw[<-e4];exact h9
  refine⟨a4W h5.obj hmp3 h6,λb k hb=>h6.kp b k (h1a.im b k hb),I2,a2D o.length g2,h7.im,λk=>?_,h9',λj kt es b hj hb=>?_⟩
  ·constructor
   ·intro hk
    rcases (h6.lt L k hk).2 (c2I.1 b3).1 with h2|⟨j,x,hj,hd,hb⟩
    ·exact hI1L k h2
    ·exact a1f b3 rfl (h5.obj j x hj) hd hb
   ·intro hk
    rcases (h6.lt B k hk).2 (c2I.1 bd).1 with h2|⟨j,x,hj,hd,hb⟩
    ·exact hI1D k h2
    ·exact a1f bd rfl (h5.obj j x hj) hd hb
  ·obtain⟨kt',es',ho⟩:=a4X k5 hj;have hlt:=(c25.1 ho).1;obtain⟨b0,l0,c0,e0,_⟩:=h.obj j _ ho;have e1:=hg j hlt;rw[e0] at e1;have e2:g2 j=g' j:=h7.st j (Nat.lt_succ_of_lt hlt) (by show H6 (g' j)=true;rw[e1];rfl);rw[show a2D o.length g2 j=g2 j from c2E hlt,e2,e1] at hb;exact hmp j kt' es' b ho (by rw[e0];exact hb)
end
theorem a30 {s:S} {k i:Nat} (h:A1 ⟨s.t,s.o.set k .dead⟩ i):A1 s i:=by
 obtain⟨o,ho,hd⟩:=h
 by_cases e:k=i
 ·subst e;rw[List.getElem?_set] at ho
  split at ho
  ·split at ho
   ·exact absurd (Option.some.inj ho).symm hd
   ·cases ho
  ·exact absurd rfl ‹¬_›
 ·exact⟨o,by simpa [c2L e] using ho,hd⟩
section
variable {I0:Nat->Nat->Prop} {X:Nat->Prop} {w0:W0} {I:Nat->Nat->Prop} {g:Nat->Value} {s:S} {a:Act} {w:World}
theorem RelI.frzBox (h:RelI I0 X w0 I g s a w) {k:Nat} {cs:List V} (hk:s.o[k]?=some (.box cs)):∃(b:Nat) (us:List Value) (t:TypeId×List Value),g k=.pointer (some ⟨b,0,none⟩)/\w.heap[b]?=some (.cells (us++t.2).toArray t.1 (0,0))/\f9 I w g us cs /\
  RelI I0 X w0 (λb' n=>I b' n\/(b'=b/\n<=us.length)) g ⟨s.t,s.o.set k .dead⟩ a w:=by
 obtain⟨b,us,t,h1,h2,h3,h4,h5,h6⟩:=h.obj k _ hk;have hlk:A1 s k:=⟨_,hk,by simp⟩;have hgk:M9 (g k) b:=by rw[h1];rfl
 have hkp:n7 I w w:=n7.refl I w;refine⟨b,us,t,h1,h2,h3,λb n hb=>.inl (h.im b n hb),λb' n hb=>?_,h.fr,h.kp,by simpa using h.lo,h.st,λj o hj=>?_,λi j b hi hj=>h.dis i j b (a30 hi) (a30 hj),λj hj=>h.out j (by simpa using hj),h.tmp.mono (λ_ _ h=>.inl h) hkp,h.dfr⟩
 ·rcases hb with hb|⟨rfl,_⟩
  ·exact h.lt b' n hb
  ·refine⟨(c2I.1 h2).1,λhlt=>.inr ?_⟩
   rcases h6 with hM|hM
   ·omega
   ·exact hM
 ·by_cases hjk:k=j
  ·subst hjk;have hlt:k<s.o.length:=(c25.1 hk).1;simp only[c2S hlt] at hj;injection hj with hj;subst hj;exact True.intro
  ·simp only[c2L hjk] at hj
   by_cases hd:o=.dead
   ·subst hd;exact True.intro
   refine(h.obj j o hj).keep (λ_ _ h=>.inl h) hkp (λ_ _=>rfl) λb' hb n hn=>?_
   rcases hn with hn|⟨rfl,_⟩
   ·exact hn
   ·exact absurd (h.dis k j b' hlk ⟨o,hj,hd⟩ hgk hb) hjk
end
section
variable {I0:Nat->Nat->Prop} {X:Nat->Prop} {w0:W0} {I:Nat->Nat->Prop} {g:Nat->Value} {t:List V} {a:Act} {w:World}
theorem a2f.turned {L B:Nat} {o:List O} (h0:w0.w.heap.size<=L):b1t L (a2f I0 X w0 I L B t a o):=by
 rintro W r r' ⟨I',g',h1,h2,h3,h4⟩ hl
 exact⟨I',g',h1,h2,h3.turned hl rfl h0 (λk=>(h2 k).1),h4⟩
theorem b1w {asg bdy:Code} {n:Nat} {g0:Operand} {p1 p2 gf N:Nat} {lb:Array Value} {u1 u2:Nat->Value} {Kp:World->World->Prop} {st:Nat->List O} {tk:Nat->List V} {Q:Exit->Act->World->Prop} {ks1 ks2:List Nat} (hA:o9 Tryd.prog asg=true) (hB:o9 Tryd.prog bdy=true)
  (h:RelI I0 X w0 I g ⟨t,st 0⟩ a w) (h1:1<=n) (hg:a.eval g0=.func (.func gf) #[] lb) (eg:∀args w,(callFunc gf args).run Tryd.prog w=.ok (.enter gf args) w)
  (hseq:b8S (FW none) (n - 1) Tryd.prog gf lb (λk=>#[u1 k,u2 k]) Kp N w) (hKt:∀ {A B C:World},Kp A B->Kp B C->Kp A C) (hKb:∀(W:World) (l:Nat) (o o':Obj),w.heap.size<=l->W.heap[l]?=some o->o.isCells=false->o.isWalk=false->Kp W (W.putObj l o')) (hKp:∀W W',n7 I W W'->Kp W W')
  (hv:∀k W I' g',k<N->(∀b j,I b j->I' b j)->n7 I w W->f9 I' W g' a.tmps.toList t->f9 I' W g' ((a.tmps.setIfInBounds p1 (u1 k)).setIfInBounds p2 (u2 k)).toList (tk k))
  (ht:z6 ks2 t=t) (hx:∀k,k<N->b7z ks1 ks2 asg bdy (tk k) (st k) (st (k+1)))
  (hQ:∀(D:Nat) (W:World),D=w.heap.size->a2f I0 X w0 I (w.heap.size+1) w.heap.size t a (st N) W->W.heap[D]?=some (.deferred (some []))->Q .normal { a with defers:={ target:=.collected D,args:=#[] }::a.defers } W) :
  (Code.rangeFunc g0 #[p1,p2] asg bdy).wpIn (FW none) n Tryd.prog Q a w:=by
 obtain⟨L,hL⟩:∃L,L=w.heap.size+1:=⟨_,rfl⟩;have hL0:w0.w.heap.size<=L:=by have:=h.fr.size;omega
 have hIL:∀k,¬I L k/\¬I w.heap.size k:=λk=>⟨λhk=>by have:=(h.lt L k hk).1;omega,λhk=>by have:=(h.lt _ k hk).1;omega⟩
 have hIL1:∀k,¬I L k:=λk=>(hIL k).1
 refine b8T (F:=FW none) rfl h1 hg trivial eg hseq hKt hKb (λ_=>rfl) (λk W=>a2f I0 X w0 I L w.heap.size t a (st k) W/\n7 I w W) (λ_ _=>False) (λk W r r' hw hl=>?_) (λ_ _ _ _ hw _=>hw) (λr=>?_) (λl k W hk hw hl=>?_) (λD W hD hw hd=>?_) (λ_ _ _ _ hw _=>hw.elim)
 ·rw[<-hL] at hl ⊢;exact⟨a2f.turned hL0 W r r' hw.1 hl,hw.2.trans (Z6 hIL1)⟩
 ·have hbel:Below w.heap.size w ((w.alloc (.deferred (some []))).alloc (.loop r)):=((Below.refl _ w).alloc (c2A _) _).alloc (by simp) _;refine⟨⟨I,g,λ_ _ h=>h,hIL,h.grow hbel (λ_ _ h=>h) (λ_ _ h=>.inl h),λj kt es b hj hb=>((h.obj j _ hj).blk (by simp) b hb).1⟩,λb j hb i _=>hbel.cell (p:=⟨b,i,none⟩) (h.lt b j hb).1⟩
 ·obtain⟨⟨I',g',h2,h3,h4,h5⟩,hk2⟩:=hw;obtain⟨⟨r,hl⟩,hdd⟩:=hl;rw[<-hL] at hl;have key:=b70 (ro:=some l) (n:=n - 1 - 1) hA hB h4 hl hdd hL0 h3 h5 (hv k W I' g' hk h2 hk2 h4.tmp) ht (hx k hk);have ez:(#[p1,p2].zip #[u1 k,u2 k]).foldl (λt (x:Tmp×Value)=>match x with|(p,v)=>t.setIfInBounds p v) a.tmps=(a.tmps.setIfInBounds p1 (u1 k)).setIfInBounds p2 (u2 k):=by simp
  rw[Array.toArray_toList,<-ez] at key;refine wpIn_mono key λe a' W1 he=>?_
  cases e with
  | normal =>
   obtain⟨e1,e2,R,e3,e4,e5⟩:=he;have hkI:∀ {A B:World},n7 I' A B->n7 I A B:=λh b j hb=>h b j (h2 b j hb)
   refine⟨e1,hKp _ _ (hkI e2),λW2=>R W2/\n7 I w W2,?_,⟨e4,hk2.trans (hkI e2)⟩,?_⟩
   ·rintro W2 r1 r2 ⟨f1,f2⟩ hl2
    rw[<-hL] at hl2 ⊢;exact⟨e3 W2 r1 r2 f1 hl2,f2.trans (Z6 hIL1)⟩
   ·rintro W2 ⟨f1,f2⟩
    refine wpIn_mono (e5 W2 f1) λe a3 W3 he=>?_
    cases e with
    | normal =>
     obtain⟨q1,q2,I2,g2,q3,q4,q5,q6⟩:=he;exact⟨q1,hKp _ _ (hkI q2),⟨I2,g2,λb j hb=>q3 b j (h2 b j hb),q4,q5,q6⟩,f2.trans (hkI q2)⟩
    | ret=>exact he
    | exit i=>exact he
    | goto t=>exact he
    | panic c=>exact he
    | outgrown=>exact he
  | ret=>exact he.elim
  | exit i=>exact he.elim
  | goto t=>exact he.elim
  | panic c=>exact he.elim
  | outgrown=>exact he.elim
 ·rw[hL] at hw;exact hQ D W hD hw.1 hd
theorem b71 {asg bdy:Code} {n:Nat} {g0:Operand} {p1 p2 gf N:Nat} {lb:Array Value} {u1 u2:Nat->Value} {Kp:World->World->Prop} {st:Nat->List O} {tk:Nat->List V} {Q:Exit->Act->World->Prop} (hA:o9 Tryd.prog asg=true) (hB:o9 Tryd.prog bdy=true)
  (h:RelI I0 X w0 I g ⟨t,st 0⟩ a w) (h1:1<=n) (hg:a.eval g0=.func (.func gf) #[] lb) (eg:∀args w,(callFunc gf args).run Tryd.prog w=.ok (.enter gf args) w)
  (hseq:b8S (FW none) (n - 1) Tryd.prog gf lb (λk=>#[u1 k,u2 k]) Kp N w) (hKt:∀ {A B C:World},Kp A B->Kp B C->Kp A C) (hKb:∀(W:World) (l:Nat) (o o':Obj),w.heap.size<=l->W.heap[l]?=some o->o.isCells=false->o.isWalk=false->Kp W (W.putObj l o')) (hKp:∀W W',n7 I W W'->Kp W W')
  (hv:∀k W I' g',k<N->(∀b j,I b j->I' b j)->n7 I w W->f9 I' W g' a.tmps.toList t->f9 I' W g' ((a.tmps.setIfInBounds p1 (u1 k)).setIfInBounds p2 (u2 k)).toList (tk k))
  (hx:∀k,k<N->c0F asg bdy (tk k) (st k) (st (k+1)))
  (hQ:∀(D:Nat) (W:World),D=w.heap.size->a2f I0 X w0 I (w.heap.size+1) w.heap.size t a (st N) W->W.heap[D]?=some (.deferred (some []))->Q .normal { a with defers:={ target:=.collected D,args:=#[] }::a.defers } W) :
  (Code.rangeFunc g0 #[p1,p2] asg bdy).wpIn (FW none) n Tryd.prog Q a w :=
 b1w (ks1:=[]) (ks2:=[]) hA hB h h1 hg eg hseq hKt hKb hKp hv rfl hx hQ
end
section
variable {I0:Nat->Nat->Prop} {X:Nat->Prop} {w0:W0} {I:Nat->Nat->Prop} {g:Nat->Value} {s:S} {a:Act} {w:World}
theorem RelI.mark (h:RelI I0 X w0 I g s a w) (d:List Deferred):RelI I0 X ⟨w0.w,w0.g,w0.n,d⟩ I g s { a with defers:=d } w :=
 ⟨h.im,h.lt,h.fr,h.kp,h.lo,h.st,h.obj,h.dis,h.out,h.tmp,rfl,h.dfr.2⟩
end
def c17 (l:List ResultVar) (q:List R) (m:Nat):Vm.X->S->Prop
 | .exit _,_=>False
 | _,s=>m5 s.o m=.kl []/\a7p a7 s l q
theorem b5z {c2:Code} {n D:Nat} {fn:Func} {q:List R} {w:World} {I IN:Nat->Nat->Prop} {gN:Nat->Value} {t:List V} {oN:List O} {a:Act} {W:World} (hc:o9 Tryd.prog c2=true) (hr:M5 fn.results.toList=true)
  (h:RelI I (λ_=>False) ⟨w,λ_=>.nilFunc,0,[]⟩ IN gN ⟨t,oN⟩ a W) (hID:∀k,¬IN D k) (hD0:w.heap.size<=D) (hD:W.heap[D]?=some (.deferred (some [])))
  (hx:w5 a7 c2 ⟨t,o6 oN (.kl [])⟩ (λx s=>c17 fn.results.toList q (j2 oN) x s)) :
  c2.wpIn (FW none) n Tryd.prog (bodyPostM (FW none) n Tryd.prog fn (λe w'=>∃v,e=.returned v/\a28 (nxt I w w') w' v q/\Below w.heap.size w w')) { a with defers:={ target:=.collected D,args:=#[] }::a.defers } W:=by
 obtain⟨g',hg,hgn,h1⟩:=h.rebase h.tmp;have hDt:D<W.heap.size:=(c2I.1 hD).1;have hXD:¬Xof g' (o6 oN (.kl [])) D:=λ⟨j,x,hj,hd,hb⟩=>a1f hD rfl (h1.obj j x hj) hd hb
 have h2:=h1.mark [{ target:=.collected D,args:=#[] }]
 have ea:({ ({ tmps:=a.tmps.toList.toArray,defers:=[] }:Act) with defers:=[{ target:=.collected D,args:=#[] }] }:Act)={ a with defers:={ target:=.collected D,args:=#[] }::a.defers }:=by
  have:=h.dfr.1;cases a;simp only at this;subst this;rfl
 rw[ea] at h2;refine G1 c2 _ _ _ _ _ hc ⟨IN,g',h2⟩ hx λe s2 a2 W2 hrel hk=>?_
 obtain⟨I2,g2,h3⟩:=hrel;have hD2:W2.heap[D]?=some (.deferred (some [])):=(h3.fr.block D hDt hXD).trans hD
 have hI2D:∀k,¬I2 D k:=λk hk=>by
  rcases (h3.lt D k hk).2 hDt with h4|h4
  ·exact hID k h4
  ·exact hXD h4
 have key:m5 s2.o (j2 oN)=.kl []/\a7p a7 s2 fn.results.toList q->LeavesInM (FW none) n Tryd.prog fn a2.tmps (λe w'=>∃v,e=.returned v/\a28 (nxt I w w') w' v q/\Below w.heap.size w w') a2.defers .returning W2:=λ⟨hkl,hres⟩=>by
  rw[h3.dfr.1];have h4:=h3.turnBoth (y':=.deferred none) hD2 rfl hD hI2D;have h5:=h.turned (y':=.deferred none) hD rfl hD0 hID;have h6:=h4.mark [];have hkl:=j1 hkl (by simp);rw[m7] at hkl;obtain⟨_,h7⟩:=h5.unbase hg hgn h6 hkl;obtain⟨v,r1,r2⟩:=a7q h4 hr hres;refine⟨by simp,.inl ⟨_,_,rfl,run_takeDeferred hD2,?_⟩⟩;refine⟨v,r1,v,rfl,?_,⟨h7.fr.os,h7.fr.tape,h7.fr.output,h7.fr.size,λb hb=>h7.fr.block b hb (λhx=>hx)⟩⟩
  have hnx:∀b k,I2 b k->nxt I w _ b k:=λb k hbk=>by
   obtain⟨h3,h4⟩:=h7.lt b k hbk
   rcases c3o b w.heap.size with hlt|hge
   ·exact .inl ((h4 hlt).resolve_right (λhx=>hx))
   ·exact .inr ⟨hge,h3⟩
  match q,r2 with
  | [],⟨us,e,hu⟩=>exact⟨us,e,hu.mono hnx (n7.refl _ _)⟩
  | [r],hu=>exact AtR.mono hnx (n7.refl _ _) hu
  | r::r'::q,⟨us,e,hu⟩=>exact⟨us,e,hu.mono hnx (n7.refl _ _)⟩
 cases e with
 | normal=>exact key hk
 | exit i=>exact hk.elim
 | ret=>exact key hk
theorem b2C {f:Nat} {fn:Func} {c0 c1 cp c2 asg bdy:Code} {bi:Nat} {g0:Operand} {ps:Array Tmp} {rs q:List R} {Pre:S->Prop} (hf:Tryd.prog.funcs[f]?=some fn)
  (hb:fn.body=some (.seq c0 (.seq c1 (.seq (.seq cp (.block bi (.rangeFunc g0 ps asg bdy))) c2)))) (hn:(fn.name != "runtime.NumGoroutine")=true) (h0:o9 Tryd.prog c0=true) (h1:o9 Tryd.prog c1=true) (hp:o9 Tryd.prog cp=true)
  (hpre:w5 a7 (.seq c0 (.seq c1 cp)) (a1B rs (fn.ntmps - m9 rs)) (λx s=>x=.normal/\Pre s))
  (hmid:∀(I I':Nat->Nat->Prop) (g:Nat->Value) (w W:World) (s:S) (a:Act),Pre s->RelI I (λ_=>False) ⟨w,λ_=>.nilFunc,0,[]⟩ I' g s a W ->
   (Code.rangeFunc g0 ps asg bdy).wpIn (FW none) 3 Tryd.prog (Exit.inBlock bi (Exit.then (c2.wpIn (FW none) 3 Tryd.prog (bodyPostM (FW none) 3 Tryd.prog fn (λe w'=>∃v,e=.returned v/\a28 (nxt I w w') w' v q/\Below w.heap.size w w')))
    (bodyPostM (FW none) 3 Tryd.prog fn (λe w'=>∃v,e=.returned v/\a28 (nxt I w w') w' v q/\Below w.heap.size w w')))) a W):m6 f rs q:=by
 refine⟨by unfold a0U;rw[hf];simp only[hn,hb];rfl,?_⟩;intro I w args hI hat;have hlen:=hat.len;have hsz:args.toArray.size=m9 rs:=by rw[x7];simp[hlen]
 refine callsIn_wide.1 (callsIn_of_wp_marks (n:=3) hf hb trivial ?_);rw[hsz];have hst:=b0U hI hat (fn.ntmps - m9 rs);refine wpIn_seq (G1 (ro:=none) c0 _ _ _ _ _ h0 ⟨I,_,hst⟩ hpre λe s1 a1 W1 hr1 hk1=>?_);cases e with
 | normal =>
  obtain⟨F1,hg1,hk1⟩:=hk1;obtain⟨z1,hf1,hr1'⟩:=hg1 _ _ _ _ _ hr1;refine wpIn_seq (G1 (ro:=none) c1 _ _ _ _ _ h1 hr1' (hk1 z1 hf1) λe s2 a2 W2 hr2 hk2=>?_);cases e with
  | normal =>
   obtain⟨F2,hg2,hk2⟩:=hk2;obtain⟨z2,hf2,hr2'⟩:=hg2 _ _ _ _ _ hr2;refine wpIn_seq (wpIn_seq (G1 (ro:=none) cp _ _ _ _ _ hp hr2' (hk2 z2 hf2) λe s3 a3 W3 hr3 hk3=>?_));obtain⟨he,hP⟩:=hk3;subst he;obtain⟨I',g',h3⟩:=hr3;exact wpIn_block (hmid I I' g' w W3 s3 a3 hP h3)
  | exit i=>exact absurd hk2.1 (by simp)
  | ret=>exact absurd hk2.1 (by simp)
 | exit i=>exact absurd hk1.1 (by simp)
 | ret=>exact absurd hk1.1 (by simp)
end
section
def N6:Code->Code
 | .seq c _=>c
 | c=>c
def B0:Code->Code
 | .seq _ c=>c
 | c=>c
def jT (rows:List (List D)) (d0 d1 d2 d3:D):List V:=[.d (.sl 5 rows),.ag [.d d0,.d d1,.d d2,.d d3],.tu [],.ptr 0 0,.ptr 1 0,.ptr 2 0,.tu [],.tu [],.ag [.d d0,.d d1,.d d2,.d d3],.ag [.d d0,.d d1,.d d2,.d d3],.d (.sl 5 rows),
 .cl 82 [4],.tu [],.tu [],.tu [],.tu [],.tu [],.tu [],.tu [],.tu [],.tu [],.tu [],.tu []]
def jO (d0 d1 d2 d3:D) (acc:List V) (b:O):List O:=[.box [.d d0,.d d1,.d d2,.d d3],.box [.d (.sc (.int .u8 0)),.d (.sc (.string ⟨#[]⟩)),.d (.sc (.int .i64 0)),.em],.box acc,.dead,b]
set_option maxRecDepth 100000
set_option maxHeartbeats 4000000
theorem b72 (rows:List (List D)) (d0 d1 d2 d3:D) (hcp:m6 69 [.ag [d0,d1,d2,d3]] [.ag [d0,d1,d2,d3]]) (P:S->Prop) (hP:P ⟨jT rows d0 d1 d2 d3,jO d0 d1 d2 d3 [.d d0,.d d1,.d d2,.d d3] (.box [.d (.sl 5 rows)])⟩):∀qa qb qc qd qe qf qg qh qi qj qk ql qm qo qp qq qs qt qu qv qw qx qy qz va vc vd ve vf vg vh vj vk vl vp vq vr vt vu vv vw vx vy,Ar.mk qa qb qc qd qe qf qg qh qi qj qk ql qm qo qp qq qs qt qu qv qw qx qy qz va vc vd ve vf vg vh vj vk vl vp vq vr vt vu vv vw vx vy=a7->w5 (Ar.mk qa qb qc qd qe qf qg qh qi qj qk ql qm qo qp qq qs qt qu qv qw qx qy qz va vc vd ve vf vg vh vj vk vl vp vq vr vt vu vv vw vx vy) (.seq (N6 (Tryd.f45.body.getD .skip)) (.seq (N6 (B0 (Tryd.f45.body.getD .skip))) (N6 (N6 (B0 (B0 (Tryd.f45.body.getD .skip)))))))
  (a1B [.one (.sl 5 rows),.ag [d0,d1,d2,d3]] (Tryd.f45.ntmps - m9 [R.one (.sl 5 rows),.ag [d0,d1,d2,d3]])) (λx s=>x=.normal/\P s):=by
 intro _ _ _ _ _ _ _ _ _ _ _ _ _ _ _ _ _ _ _ _ _ _ _ _ _ _ _ _ _ _ _ _ _ _ _ _ _ _ _ _ _ vx _ hA;cbv
 repeat ((with_reducible apply b5 hA);cbv)
 refine b9 hA _ hcp ?_ ?_
 ·rfl
 cbv
 repeat ((with_reducible apply b5 hA);cbv)
 refine b20 hA Tryd.func70 rfl (by kernel_rfl) (by kernel_rfl) (by kernel_rfl) ?_;cbv
 repeat ((with_reducible apply b5 hA);cbv)
 exact hP
def a9Z:Code->Code
 | .block _ (.rangeFunc _ _ a _)=>a
 | c=>c
def b0a:Code->Code
 | .block _ (.rangeFunc _ _ _ b)=>b
 | c=>c
theorem b2D (rows:List (List D)) (d0 d1 d2 d3 a0 a1 a2 a3 nm c0 c1 c2 c3:D) (i:Int) (hcp:m6 69 [.ag [c0,c1,c2,c3]] [.ag [c0,c1,c2,c3]]):∀qa qb qc qd qe qf qg qh qi qj qk ql qm qo qp qq qs qt qu qv qw qx qy qz va vc vd ve vf vg vh vj vk vl vp vq vr vt vu vv vw vx vy,Ar.mk qa qb qc qd qe qf qg qh qi qj qk ql qm qo qp qq qs qt qu qv qw qx qy qz va vc vd ve vf vg vh vj vk vl vp vq vr vt vu vv vw vx vy=a7 ->
  w5 (Ar.mk qa qb qc qd qe qf qg qh qi qj qk ql qm qo qp qq qs qt qu qv qw qx qy qz va vc vd ve vf vg vh vj vk vl vp vq vr vt vu vv vw vx vy) (a9Z (B0 (N6 (B0 (B0 (Tryd.f45.body.getD .skip)))))) ⟨G7 (G7 (jT rows d0 d1 d2 d3) 12 (vi .i64 i)) 13 (.ag [.d nm,.d c0,.d c1,.d c2,.d c3]),o6 (jO d0 d1 d2 d3 [.d a0,.d a1,.d a2,.d a3] .dead) (.kl [])⟩
   (λx s1=>x=.normal/\a1H (jO d0 d1 d2 d3 [.d a0,.d a1,.d a2,.d a3] .dead) s1.o=true/\w5 (Ar.mk qa qb qc qd qe qf qg qh qi qj qk ql qm qo qp qq qs qt qu qv qw qx qy qz va vc vd ve vf vg vh vj vk vl vp vq vr vt vu vv vw vx vy) (b0a (B0 (N6 (B0 (B0 (Tryd.f45.body.getD .skip)))))) ⟨s1.t,o6 s1.o (.kl [])⟩ (λx s2=>x=.normal /\
    b7y 5 (jO d0 d1 d2 d3 [.d a0,.d a1,.d a2,.d a3] .dead) (jO d0 d1 d2 d3 [.d (.sc (.int .u8 11)),.d nm,.d (.sc (.int .i64 0)),.d (.sl 4 [[c0,c1,c2,c3],[a0,a1,a2,a3]])] .dead) (j2 s1.o) s2)):=by
 intro _ _ _ _ _ _ _ _ _ _ _ _ _ _ _ _ _ _ _ _ _ _ _ _ _ _ _ _ _ _ _ _ _ _ _ _ _ _ _ _ _ vx _ hA;cbv
 repeat ((with_reducible apply b5 hA);cbv)
 refine c5 hA _ hcp ?_;cbv
 repeat ((with_reducible first|apply b5 hA|apply P5 hA true);cbv)
 exact⟨rfl,trivial⟩
def a4Y:List (List D)->List D->List D
 | [],tl=>tl
 | r::rows,tl=>[.sc (.int .u8 11),r.headD (.sl 0 []),.sc (.int .i64 0),.sl 4 [r.tail,a4Y rows tl]]
theorem a7A (rows:List (List D)) (d0 d1 d2 d3:D):∃a0 a1 a2 a3,a4Y rows [d0,d1,d2,d3]=[a0,a1,a2,a3]:=by
 cases rows <;> exact⟨_,_,_,_,rfl⟩
def a8n (rows:List (List D)) (tl:List D) (k:Nat):List D:=a4Y (rows.drop (rows.length - k)) tl
theorem b50 {rows:List (List D)} {tl r:List D} {k:Nat} (hk:k<rows.length) (hr:rows[rows.length - 1 - k]?=some r):a8n rows tl (k+1)=a4Y (r::rows.drop (rows.length - k)) tl:=by
 have h1:rows.length - (k+1)<rows.length:=by omega
 have h2:=c2X h1;have e1:rows.length - 1 - k=rows.length - (k+1):=by omega
 rw[e1,c28 h1] at hr;rw[a8n,h2,Option.some.inj hr,show rows.length - (k+1)+1=rows.length - k by omega]
theorem a7B {W:World} {b:Nat} {us:Array Value} {t:TypeId} {m:Nat×Nat} {i:Nat} (h:W.heap[b]?=some (.cells us t m)):W.cell? ⟨b,i,none⟩=us[i]?:=by
 show (match W.heap[b]? with|some (.cells c _ _)=>c[i]?|_=>none)=_;rw[h]
theorem b73 (rows:List (List D)) (d0 d1 d2 d3 a0 a1 a2 a3:D):∀qa qb qc qd qe qf qg qh qi qj qk ql qm qo qp qq qs qt qu qv qw qx qy qz va vc vd ve vf vg vh vj vk vl vp vq vr vt vu vv vw vx vy,Ar.mk qa qb qc qd qe qf qg qh qi qj qk ql qm qo qp qq qs qt qu qv qw qx qy qz va vc vd ve vf vg vh vj vk vl vp vq vr vt vu vv vw vx vy=a7->w5 (Ar.mk qa qb qc qd qe qf qg qh qi qj qk ql qm qo qp qq qs qt qu qv qw qx qy qz va vc vd ve vf vg vh vj vk vl vp vq vr vt vu vv vw vx vy) (B0 (B0 (B0 (Tryd.f45.body.getD .skip)))) ⟨jT rows d0 d1 d2 d3,o6 (jO d0 d1 d2 d3 [.d a0,.d a1,.d a2,.d a3] .dead) (.kl [])⟩
  (λx s=>c17 Tryd.f45.results.toList [.ag [a0,a1,a2,a3]] 5 x s):=by
 intro _ _ _ _ _ _ _ _ _ _ _ _ _ _ _ _ _ _ _ _ _ _ _ _ _ _ _ _ _ _ _ _ _ _ _ _ _ _ _ _ _ vx _ hA;cbv
 repeat ((with_reducible apply b5 hA);cbv)
end
theorem b4f:Tryd.f45.body=some (.seq (N6 (Tryd.f45.body.getD .skip)) (.seq (N6 (B0 (Tryd.f45.body.getD .skip))) (.seq (.seq (N6 (N6 (B0 (B0 (Tryd.f45.body.getD .skip))))) (.block 0 (.rangeFunc (.tmp 11) #[12,13] (a9Z (B0 (N6 (B0 (B0 (Tryd.f45.body.getD .skip)))))) (b0a (B0 (N6 (B0 (B0 (Tryd.f45.body.getD .skip))))))))) (B0 (B0 (B0 (Tryd.f45.body.getD .skip))))))):=by kernel_rfl
theorem b4g:(Tryd.f45.name != "runtime.NumGoroutine")=true:=by kernel_rfl
theorem b4h:o9 Tryd.prog (N6 (Tryd.f45.body.getD .skip))=true:=by kernel_rfl
theorem b4i:o9 Tryd.prog (N6 (B0 (Tryd.f45.body.getD .skip)))=true:=by kernel_rfl
theorem b4j:o9 Tryd.prog (N6 (N6 (B0 (B0 (Tryd.f45.body.getD .skip)))))=true:=by kernel_rfl
theorem b4k:o9 Tryd.prog (B0 (B0 (B0 (Tryd.f45.body.getD .skip))))=true:=by kernel_rfl
theorem b4l:M5 Tryd.f45.results.toList=true:=by kernel_rfl
theorem b4m:o9 Tryd.prog (a9Z (B0 (N6 (B0 (B0 (Tryd.f45.body.getD .skip))))))=true:=by kernel_rfl
theorem b4n:o9 Tryd.prog (b0a (B0 (N6 (B0 (B0 (Tryd.f45.body.getD .skip))))))=true:=by kernel_rfl
theorem b51 (rows:List (List D)) (d0 d1 d2 d3:D) (hcp:m6 69 [.ag [d0,d1,d2,d3]] [.ag [d0,d1,d2,d3]]) (P:S->Prop) (hP:P ⟨jT rows d0 d1 d2 d3,jO d0 d1 d2 d3 [.d d0,.d d1,.d d2,.d d3] (.box [.d (.sl 5 rows)])⟩) :
  w5 a7 (.seq (N6 (Tryd.f45.body.getD .skip)) (.seq (N6 (B0 (Tryd.f45.body.getD .skip))) (N6 (N6 (B0 (B0 (Tryd.f45.body.getD .skip))))))) (a1B [.one (.sl 5 rows),.ag [d0,d1,d2,d3]] (Tryd.f45.ntmps - m9 [R.one (.sl 5 rows),.ag [d0,d1,d2,d3]])) (λx s=>x=.normal/\P s) :=
 b72 rows d0 d1 d2 d3 hcp P hP _ _ _ _ _ _ _ _ _ _ _ _ _ _ _ _ _ _ _ _ _ _ _ _ _ _ _ _ _ _ _ _ _ _ _ _ _ _ _ _ _ _ _ rfl
theorem b2E (rows:List (List D)) (d0 d1 d2 d3:D) (hlen:rows.length * 80<=140737488351232) (htl:m6 69 [.ag [d0,d1,d2,d3]] [.ag [d0,d1,d2,d3]]) (hrows:∀r∈rows,∃nm c0 c1 c2 c3,r=[nm,c0,c1,c2,c3]/\m6 69 [.ag [c0,c1,c2,c3]] [.ag [c0,c1,c2,c3]]) :
  m6 45 [.one (.sl 5 rows),.ag [d0,d1,d2,d3]] [.ag (a4Y rows [d0,d1,d2,d3])]:=by
 refine b2C (Pre:=λs=>s=⟨jT rows d0 d1 d2 d3,jO d0 d1 d2 d3 [.d d0,.d d1,.d d2,.d d3] (.box [.d (.sl 5 rows)])⟩) Tryd.func45 b4f b4g b4h b4i b4j ?_ ?_
 ·exact b51 rows d0 d1 d2 d3 htl _ rfl
 intro I I' g w W s a hs h;subst hs;obtain⟨b,us,ty,h1,h2,h3,h4⟩:=h.frzBox (k:=4) rfl;obtain⟨v,us',rfl,hv,hn⟩:=h3.uncons;obtain rfl:=hn.unnil;have hvD:AtD I' W v (.sl 5 rows):=by cases hv with|d h=>exact h
 have hBs:W.cell? ⟨b,0,none⟩=some v:=a7B h2;have hbl:b<W.heap.size:=(c2I.1 h2).1;obtain⟨bb,off,vs,hl,hup,hds,hr5,hseq⟩:=a8Q (λb k hb=>(h.lt b k hb).1) hvD hbl hBs hlen
 have hcl:a.eval (.tmp 11)=.func (.func 82) #[] #[.pointer (some ⟨b,0,none⟩)]:=by
  have h5:=h4.get (.tmp 11);have h5:AtV _ W g (a.eval (.tmp 11)) (.cl 82 [4]):=h5;generalize a.eval (.tmp 11)=ax at h5 ⊢;cases h5 with
  | cl f us ks hl hh =>
   match us,hl with
   | [u],_=>rw[(hh 0 u 4 rfl rfl).1,h1]
 have hst0:RelI I (λ_=>False) ⟨w,λ_=>.nilFunc,0,[]⟩ (λb' n=>I' b' n\/(b'=b/\n<=1)) g ⟨jT rows d0 d1 d2 d3,jO d0 d1 d2 d3 (ofD (a8n rows [d0,d1,d2,d3] 0)) .dead⟩ a W:=by
  have e:a8n rows [d0,d1,d2,d3] 0=[d0,d1,d2,d3]:=by rw[a8n,c3j (by omega)];rfl
  rw[e];exact h4
 refine b71 (t:=jT rows d0 d1 d2 d3) (p1:=12) (p2:=13) (gf:=82) (N:=rows.length) (lb:=#[.pointer (some ⟨b,0,none⟩)])
  (u1:=λk=>.int .i64 ((rows.length - 1 - k:Nat):Int)) (u2:=λk=>.agg (((vs.drop ((rows.length - 1 - k) * 5)).take 5).toArray)) (Kp:=KpB b bb off (rows.length * 5)) (st:=λk=>jO d0 d1 d2 d3 (ofD (a8n rows [d0,d1,d2,d3] k)) .dead)
  (tk:=λk=>G7 (G7 (jT rows d0 d1 d2 d3) 12 (vi .i64 ((rows.length - 1 - k:Nat):Int))) 13 (.ag (ofD (rows.getD (rows.length - 1 - k) []))))
  b4m b4n hst0 (by decide) hcl (enters_of Tryd.func82 (by kernel_rfl) rfl) (hseq (FW none) 2 trivial rfl (by decide)) KpB.trans (λW l o o' _ hl ho _=>KpB.turn W l o o' hl ho) ?_ ?_ ?_ ?_
 ·intro W1 W2 hk;refine⟨λv hv=>?_,λi hi v hv=>?_⟩
  ·rw[hk b 1 (.inr ⟨rfl,c2A _⟩) 0 (by decide)];exact hv
  ·obtain⟨n,hn1,hn2⟩:=hup (λe=>by rw[e] at hi;simp at hi);rw[hk bb n (.inl hn2) (off+i) (by omega)];exact hv
 ·intro k W1 I1 g1 hk hI1 hk1 hvs;have hlt:rows.length - 1 - k<rows.length:=by omega
  have e1:∀(ts:Array Value) (i:Nat) (u:Value),(ts.setIfInBounds i u).toList=ts.toList.set i u:=λts i u=>by simp
  rw[e1,e1,N7,N7];refine(hvs.set (.d (.sc _ rfl)) 12).set (a00 ?_) 13;refine s8.toV g1 ?_;have h5:=(hds.drop ((rows.length - 1 - k) * 5)).take 5
  have e2:(rows.flatten.drop ((rows.length - 1 - k) * 5)).take 5=rows.getD (rows.length - 1 - k) []:=by
   have hg:rows[rows.length - 1 - k]?=some (rows.getD (rows.length - 1 - k) []):=by rw[c2V,c28 hlt];rfl
   apply c4b
   intro i;rw[c3g];have h6:(rows.getD (rows.length - 1 - k) []).length=5:=hr5 _ (c2F hg)
   split
   ·rename_i hi;rw[c3e,K6 hr5 hg hi]
   ·rename_i hi;rw[c3p (by omega)]
  rw[e2] at h5;exact h5.mono (λb j hb=>hI1 b j (.inl hb)) (λb j hb=>hk1 b j (.inl hb))
 ·intro k hk;have hlt:rows.length - 1 - k<rows.length:=by omega
  have hg:rows[rows.length - 1 - k]?=some (rows.getD (rows.length - 1 - k) []):=by rw[c2V,c28 hlt];rfl
  have ea:=b50 (tl:=[d0,d1,d2,d3]) hk hg;obtain⟨nm,c0,c1,c2,c3,er,hsp⟩:=hrows _ (c2F hg);obtain⟨a0,a1,a2,a3,e4⟩:=a7A (rows.drop (rows.length - k)) d0 d1 d2 d3;have e5:a8n rows [d0,d1,d2,d3] k=[a0,a1,a2,a3]:=e4;have e6:a8n rows [d0,d1,d2,d3] (k+1)=[.sc (.int .u8 11),nm,.sc (.int .i64 0),.sl 4 [[c0,c1,c2,c3],[a0,a1,a2,a3]]]:=by rw[ea,er];show [_,_,_,D.sl 4 [_,a4Y _ _]]=_;rw[e4];rfl
  try dsimp only
  rw[e5,e6,er];exact b2D rows d0 d1 d2 d3 a0 a1 a2 a3 nm c0 c1 c2 c3 _ hsp _ _ _ _ _ _ _ _ _ _ _ _ _ _ _ _ _ _ _ _ _ _ _ _ _ _ _ _ _ _ _ _ _ _ _ _ _ _ _ _ _ _ _ rfl
 ·rintro D W1 hD ⟨I1,g1,q1,q2,q3,q4⟩ hd
  obtain⟨a0,a1,a2,a3,e4⟩:=a7A rows d0 d1 d2 d3;have e5:a8n rows [d0,d1,d2,d3] rows.length=[a0,a1,a2,a3]:=by rw[a8n,c4e];exact e4
  rw[e4]
  try dsimp only at q3
  rw[e5] at q3;have hID:∀k,¬I1 D k:=λk=>by rw[hD];exact(q2 k).2
  have hD0:w.heap.size<=D:=by rw[hD];exact h.fr.size
  refine b5z b4k b4l q3 hID hD0 hd ?_;exact b73 rows d0 d1 d2 d3 a0 a1 a2 a3 _ _ _ _ _ _ _ _ _ _ _ _ _ _ _ _ _ _ _ _ _ _ _ _ _ _ _ _ _ _ _ _ _ _ _ _ _ _ _ _ _ _ _ rfl
theorem a4Z (tl:Ty):∀fs:List (ByteArray×Ty),a4Y (rF fs) (cT tl)=cT (x8 fs tl)
 | []=>rfl
 | f::fs=>by
  rw[A8,cT];have ih:=a4Z tl fs;show a4Y ((.sc (.string f.1)::cT f.2)::rF fs) (cT tl)=_;rw[a4Y,ih];rfl
theorem a3c:∀(m:Nat) (t:Ty),t.parts.length<=m->m<=1048576->(∀x∈t.parts,Q9 x)->m6 35 [.ag (cT t)] [.ag (cT (b6 t))]:=by
 intro m
 induction m with
 | zero=>intro t h;have:=l6 t;omega
 | succ m ih =>
  intro t hm hm2 hsp;have hself:t∈t.parts:=by rw[r6];exact c27 ..
  have hkl:=o7 t;obtain⟨op,nm,n,ks⟩:=t;generalize ht:Ty.mk op nm n ks=t at *;have hc:cT t=[.sc (.int .u8 op),.sc (.string nm),.sc (.int .i64 n),.sl 4 (rT ks)]:=by rw[<-ht,cT]
  have hks:t.kids=ks:=by rw[<-ht];rfl
  rw[hks] at hkl
  by_cases hop:op=11
  ·have hF:=b2B t (hsp t hself) (by omega);have hcr:=C9 (t:=t) (by rw[<-ht];exact hop)
   have hfs:∀f∈i6 K5 (c6 t),f.2.parts.length<=m/\C4 f.2:=λf hf=>by
    have h1:=A7 hf;have h2:=x9 _ t (c2A _) f h1;have h3:=P7 _ t (c2A _) f h1;exact⟨by omega,λx hx=>hsp x (y9 hx h3)⟩
   have hih:∀f∈i6 K5 (c6 t),m6 35 [.ag (cT f.2)] [.ag (cT (b6 f.2))]:=λf hf=>ih f.2 (hfs f hf).1 (by omega) (hfs f hf).2
   have hlen:(i6 K5 (c6 t)).length<=1048576:=by
    rw[a0M];have:=L5 _ t (c2A _);omega
   have htl:(j0 t).parts.length<=1048576:=by
    have h1:=T0 _ t (c2A _) (hsp t hself);omega
   rw[hc] at hF ⊢;obtain⟨K0,hK0⟩:∃K,K=rT ks:=⟨_,rfl⟩;rw[<-hK0] at hF ⊢;generalize i6 K5 (c6 t)=L at *;have hj:=a4Z (j0 t) (L.map cfS);rw[show x8 (L.map cfS) (j0 t)=b6 t from hcr.symm] at hj;have hct:=a1F (j0 t) htl
   have hcf:∀r∈rF (L.map cfS),∃nm c0 c1 c2 c3,r=[nm,c0,c1,c2,c3]/\m6 69 [.ag [c0,c1,c2,c3]] [.ag [c0,c1,c2,c3]]:=λr hr=>by
    obtain⟨f,hf,rfl⟩:=c3k.1 hr;obtain⟨f0,hf0,rfl⟩:=c3k.1 hf;have h1:=hfs f0 hf0;have h2:=B6 _ f0.2 (c2A _) h1.2;have h3:=a1F (b6 f0.2) (by omega);obtain⟨c0,c1,c2,c3,hcc⟩:=d6 (b6 f0.2);rw[hcc] at h3;exact⟨_,c0,c1,c2,c3,by show D.sc _::cT (b6 f0.2)=_;rw[hcc],h3⟩
   obtain⟨y0,y1,y2,y3,hy⟩:=d6 (b6 t);obtain⟨q0,q1,q2,q3,hq⟩:=d6 (j0 t);rw[hq] at hF hct hj;rw[hy] at hj ⊢;have hJ:=b2E (rF (L.map cfS)) q0 q1 q2 q3 (by rw[U3,c3f];omega) hct hcf;rw[hj] at hJ;obtain⟨M0,hM0⟩:∃M,M=rF L:=⟨_,rfl⟩;rw[<-hM0] at hF;refine Y8 Tryd.func35 rfl λqa qb qc qd qe qf qg qh qi qj qk ql qm qo qp qq qs qt qu qv qw qx qy qz va vc vd ve vf vg vh vj vk vl vp vq vr vt vu vv vw vx vy hA=>?_
   cbv;refine gn ?_;have h11:qj op 11=decide (op=11):=by have e:=j8 hA;exact e.2.2.2.2.2.2.2.2 _ _
   rw[c2J hop] at h11;rw[h11];cbv;refine gn ?_;refine c7 hA [] hF ⟨rfl,rfl,rfl,rfl,rfl,rfl,rfl⟩ ?_
   rintro res os2 ⟨rfl,rfl⟩
   cbv;refine gn ?_;obtain⟨e1,e2,e3,e4,e5,e6,e7,e8,e9⟩:=j8 hA;obtain⟨r1,r2,r3,r4⟩:=n9 hA;obtain⟨m1,m2,m3,m4⟩:=H2 hA;refine l9 hA (γ:=Int×List (List D)) (λx=>[(19,vi .i64 x.1),(12,.jk),(14,.jk)]) (λx=>[(2,.row false 73 x.2)]) (λx=>∃k:Nat,x.1=(k:Int)/\k<=L.length/\x.2=rF ((L.take k).map cfS++L.drop k)) (λx=>L.length - x.1.toNat) (0,M0) ?_ ?_ ?_
   ·exact⟨0,rfl,c3d _,hM0⟩
   ·cbv
   ·intro x hinv;obtain⟨z,M⟩:=x;cbv;refine gn ?_;try simp only[nc] at *
    obtain⟨k,hz,hk,hM⟩:=hinv;have hll:qy M0=((L.length:Nat):Int):=by rw[r1,hM0,U3]
    have hlt:qh z (qy M0)=decide (k<L.length):=by rw[e7,hll,hz];exact c2Q.2 (by omega)
    by_cases h9:k<L.length
    ·rw[c2J h9] at hlt;obtain⟨x,hx⟩:∃x,L[k]?=some x:=⟨_,c28 h9⟩;have hspx:=hih x (c2F hx)
     have hxe:((L.take k).map cfS++L.drop k)[k]?=some x:=by
      rw[c2P (by simp;omega)]
      simp
      rw[c4N (by omega),c4e,c3I];exact hx
     have hset:((L.take k).map cfS++L.drop k).set k (cfS x)=(L.take (k+1)).map cfS++L.drop (k+1):=by
      obtain⟨hi,e⟩:=c25.1 hx;have e0:k - ((L.take k).map cfS).length=0:=by rw[c3f,c3h];omega
      rw[c3Z _ _ (by rw[c3f,c3h];omega),c4v,hx,c3G,c3m,c2X hi,e0];rfl
     obtain⟨xn,xt⟩:=x;obtain⟨x0,x1,x2,x3,hxx⟩:=d6 xt;obtain⟨v0,v1,v2,v3,hvv⟩:=d6 (b6 xt);simp only at hspx;rw[hxx,hvv] at hspx;have gx:qz M z=some [.sc (.string xn),x0,x1,x2,x3]:=by rw[r2,hz,c2E (by omega),hM,show ((k:Int)).toNat=k by omega,a7x hxe,hxx]
     have hz1:qa .i64 (qb z 1)=((k+1:Nat):Int):=by rw[e1,e2,hz,IntWalk.i64_in _ (by omega)];omega
     have hmu:L.length - (qa .i64 (qb z 1)).toNat<L.length - z.toNat:=by rw[hz1,hz];omega
     have hnew:vd M z [.sc (.string xn),v0,v1,v2,v3]=rF ((L.take (k+1)).map cfS++L.drop (k+1)):=by
      rw[m4,<-hset,hM,hz,show ((k:Int)).toNat=k by omega];unfold rF;rw[List.map_set];show _=List.set _ k (.sc (.string xn)::cT (b6 xt));rw[hvv]
     rw[hlt]
     iterate 2 (try cbv;repeat ((first|with_reducible apply b5 hA|rw[gx]|refine b9 hA _ hspx rfl ?_);cbv))
     try simp (maxSteps:=4000000) only [nc] at *
     refine⟨(qa .i64 (qb z 1),vd M z [.sc (.string xn),v0,v1,v2,v3]),⟨k+1,hz1,h9,hnew⟩,hmu,?_⟩;cbv
    ·rw[c2G h9] at hlt;have hM2:M=rF (L.map cfS):=by rw[hM,c3r (by omega),c4A (by omega),c3b]
     rw[<-hM2] at hJ;rw[hlt];cbv;refine c0q hA [2] ?_;cbv
     repeat (first|(with_reducible apply b5 hA;cbv)|(refine b9 hA _ hJ rfl ?_;cbv))
  ·have hcn:=w6 (t:=t) (by rw[<-ht];exact hop);rw[hks,show t.op=op by rw[<-ht];rfl,show t.name=nm by rw[<-ht];rfl,show t.n=n by rw[<-ht];rfl] at hcn
   have hih:∀x∈ks,m6 35 [.ag (cT x)] [.ag (cT (b6 x))]:=λx hx=>by
    have h2:=hkl.2 x hx;exact ih x (by omega) (by omega) λy hy=>hsp y (by rw[d5,hks];exact c26 _ (c2U.2 ⟨x,hx,hy⟩))
   rw[hcn,cT,hc];obtain⟨K,hK⟩:∃K,K=rT ks:=⟨_,rfl⟩;obtain⟨Q,hQ⟩:∃Q,Q=rT (ks.map b6):=⟨_,rfl⟩;rw[<-hK,<-hQ];refine Y8 Tryd.func35 rfl λqa qb qc qd qe qf qg qh qi qj qk ql qm qo qp qq qs qt qu qv qw qx qy qz va vc vd ve vf vg vh vj vk vl vp vq vr vt vu vv vw vx vy hA=>?_
   cbv;refine gn ?_;obtain⟨e1,e2,e3,e4,e5,e6,e7,e8,e9⟩:=j8 hA;obtain⟨r1,r2,r3,r4⟩:=n9 hA;have h11:qj op 11=decide (op=11):=e9 _ _;rw[c2G hop] at h11;rw[h11];cbv
   repeat (first|(refine a55 hA 6 25 true rfl ?_;cbv)|(with_reducible apply b5 hA;cbv))
   refine l9 hA (γ:=Int×List (List D)) (λx=>[(39,vi .i64 x.1),(6,.own 2)]) (λx=>[(2,.row true 25 x.2)]) (λx=>∃k:Nat,x.1=(k:Int)/\k<=ks.length/\x.2=rT ((ks.map b6).take k)) (λx=>ks.length - x.1.toNat) (0,[]) ?_ ?_ ?_
   ·exact⟨0,rfl,c3d _,rfl⟩
   ·cbv
   ·intro x hinv;obtain⟨z,M⟩:=x;cbv;refine gn ?_;try simp only[nc] at *
    obtain⟨k,hz,hk,hM⟩:=hinv;have hll:qy K=((ks.length:Nat):Int):=by rw[r1,hK,E8]
    have hlt:qh z (qy K)=decide (k<ks.length):=by rw[e7,hll,hz];exact c2Q.2 (by omega)
    by_cases h9:k<ks.length
    ·rw[c2J h9] at hlt;obtain⟨x,hx⟩:∃x,ks[k]?=some x:=⟨_,c28 h9⟩;have hspx:=hih x (c2F hx);have hx2:(ks.map b6)[k]?=some (b6 x):=by rw[c3i,hx];rfl
     have hsn:=a6v hx2;obtain⟨x0,x1,x2,x3,hxx⟩:=d6 x;obtain⟨v0,v1,v2,v3,hvv⟩:=d6 (b6 x);rw[hxx,hvv] at hspx;rw[hvv] at hsn;have gx:qz K z=some [x0,x1,x2,x3]:=by rw[r2,hz,c2E (by omega),hK,show ((k:Int)).toNat=k by omega,a04 hx,hxx]
     have hz1:qa .i64 (qb z 1)=((k+1:Nat):Int):=by rw[e1,e2,hz,IntWalk.i64_in _ (by omega)];omega
     have hmu:ks.length - (qa .i64 (qb z 1)).toNat<ks.length - z.toNat:=by rw[hz1,hz];omega
     have hnew:vc M [[v0,v1,v2,v3]]=rT ((ks.map b6).take (k+1)):=by rw[r4,hsn,hM]
     have hMl:M.length<=1048576:=by rw[hM,E8,c3h];omega
     rw[hlt]
     iterate 2 (try cbv;repeat ((first|with_reducible apply b5 hA|rw[gx]|refine c5 hA _ hspx ?_|refine b9 hA _ hspx rfl ?_|refine P5 hA true ?_|(refine K4 hA (by simp only[r4,c29,c2D,c2N];omega) ?_));cbv))
     try simp (maxSteps:=4000000) only [nc] at *
     refine⟨(qa .i64 (qb z 1),vc M [[v0,v1,v2,v3]]),⟨k+1,hz1,h9,hnew⟩,hmu,?_⟩;cbv
    ·rw[c2G h9] at hlt;have hM2:M=Q:=by rw[hM,hQ,c3r (by rw[c3f];omega)]
     rw[hlt];cbv;refine gn ?_;exact⟨by rw[hM2],trivial⟩
def b9I (l:List ResultVar) (Q:List V->List O->Prop) (m:Nat) (kl:List Nat):Vm.X->S->Prop
 | .exit _,_=>False
 | _,s=>m5 s.o m=.kl kl/\I9 a7 s l (λvs=>a7.keep 0 Q vs ⟨s.t,A2 s.o m .dead⟩)
def b4o (I:Nat->Nat->Prop) (w:World) (Q:List V->List O->Prop) (e:Ending) (w':World):Prop:=∃us res os2 I' g',e=.returned (pkg us)/\Q res os2/\RelI I (λ_=>False) ⟨w,λ_=>.nilFunc,0,[]⟩ I' g' ⟨res,os2⟩ { tmps:=us.toArray,defers:=[] } w'
theorem b2F {c2:Code} {n D:Nat} {fn:Func} {Q:List V->List O->Prop} {w:World} {I IN:Nat->Nat->Prop} {gN:Nat->Value} {t:List V} {oN:List O} {a:Act} {W:World} {kl:List Nat} (hc:o9 Tryd.prog c2=true) (hr:M5 fn.results.toList=true)
  (h:RelI I (λ_=>False) ⟨w,λ_=>.nilFunc,0,[]⟩ IN gN ⟨t,oN⟩ a W) (hID:∀k,¬IN D k) (hD0:w.heap.size<=D) (hD:W.heap[D]?=some (.deferred (some [])))
  (hx:w5 a7 c2 ⟨t,o6 oN (.kl [])⟩ (λx s=>b9I fn.results.toList Q (j2 oN) kl x s)) :
  c2.wpIn (FW none) n Tryd.prog (bodyPostM (FW none) n Tryd.prog fn (b4o I w Q)) { a with defers:={ target:=.collected D,args:=#[] }::a.defers } W:=by
 obtain⟨g',hg,hgn,h1⟩:=h.rebase h.tmp;have hDt:D<W.heap.size:=(c2I.1 hD).1;have hXD:¬Xof g' (o6 oN (.kl [])) D:=λ⟨j,x,hj,hd,hb⟩=>a1f hD rfl (h1.obj j x hj) hd hb
 have h2:=h1.mark [{ target:=.collected D,args:=#[] }]
 have ea:({ ({ tmps:=a.tmps.toList.toArray,defers:=[] }:Act) with defers:=[{ target:=.collected D,args:=#[] }] }:Act)={ a with defers:={ target:=.collected D,args:=#[] }::a.defers }:=by
  have:=h.dfr.1;cases a;simp only at this;subst this;rfl
 rw[ea] at h2;refine G1 c2 _ _ _ _ _ hc ⟨IN,g',h2⟩ hx λe s2 a2 W2 hrel hk=>?_
 obtain⟨I2,g2,h3⟩:=hrel;have hD2:W2.heap[D]?=some (.deferred (some [])):=(h3.fr.block D hDt hXD).trans hD
 have hI2D:∀k,¬I2 D k:=λk hk=>by
  rcases (h3.lt D k hk).2 hDt with h4|h4
  ·exact hID k h4
  ·exact hXD h4
 have key:(m5 s2.o (j2 oN)=.kl kl/\I9 a7 s2 fn.results.toList (λvs=>a7.keep 0 Q vs ⟨s2.t,A2 s2.o (j2 oN) .dead⟩))->LeavesInM (FW none) n Tryd.prog fn a2.tmps (b4o I w Q) a2.defers .returning W2:=λ⟨hkl,hres⟩=>by
  rw[h3.dfr.1];have h4:=h3.turnBoth (y':=.deferred none) hD2 rfl hD hI2D;have h5:=h.turned (y':=.deferred none) hD rfl hD0 hID;have h6:=h4.mark [];have hkl:=j1 hkl (by simp);rw[m7] at hkl;obtain⟨_,h7⟩:=h5.unbase hg hgn h6 hkl;obtain⟨us,vs,r1,r2,ks,res',os',hko,hQ⟩:=a0p h4 hr hres;refine⟨by simp,.inl ⟨_,_,rfl,run_takeDeferred hD2,?_⟩⟩;rw[x5,m7] at hko;refine⟨_,r1,us,res',os',I2,_,rfl,hQ,b3w (w0:=⟨w,λ_=>.nilFunc,0,[]⟩) h7 rfl ⟨hko.nd,hko.len,hko.head,hko.args,hko.objs,hko.low,hko.lowo,hko.nk⟩ r2⟩
 cases e with
 | normal=>exact key hk
 | exit i=>exact hk.elim
 | ret=>exact key hk
theorem b1x {f:Nat} {fn:Func} {c0 c1 cp c2 asg bdy:Code} {bi:Nat} {g0:Operand} {ps:Array Tmp} {vs:List V} {Q:List V->List O->Prop} {Pre:S->Prop} (hf:Tryd.prog.funcs[f]?=some fn)
  (hb:fn.body=some (.seq c0 (.seq c1 (.seq (.seq cp (.block bi (.rangeFunc g0 ps asg bdy))) c2)))) (hn:(fn.name != "runtime.NumGoroutine")=true) (h0:o9 Tryd.prog c0=true) (h1:o9 Tryd.prog c1=true) (hp:o9 Tryd.prog cp=true)
  (hpre:w5 a7 (.seq c0 (.seq c1 cp)) (a2M vs [] (fn.ntmps - m9 vs)) (λx s=>x=.normal/\Pre s))
  (hmid:∀(I I':Nat->Nat->Prop) (g:Nat->Value) (w W:World) (s:S) (a:Act),Pre s->RelI I (λ_=>False) ⟨w,λ_=>.nilFunc,0,[]⟩ I' g s a W ->
   (Code.rangeFunc g0 ps asg bdy).wpIn (FW none) 3 Tryd.prog (Exit.inBlock bi (Exit.then (c2.wpIn (FW none) 3 Tryd.prog (bodyPostM (FW none) 3 Tryd.prog fn (b4o I w Q)))
    (bodyPostM (FW none) 3 Tryd.prog fn (b4o I w Q)))) a W):j3 f vs [] Q:=by
 refine⟨by unfold a0U;rw[hf];simp only[hn,hb];rfl,?_⟩;intro I w g args hrel;have hg0:g=λ_=>.nilFunc:=funext λk=>hrel.out k (c3d _)
 have hX0:Xof g []=λ_=>False:=funext λb=>propext ⟨λ⟨k,o,hk,_⟩=>by simp at hk,λh=>h.elim⟩
 rw[hX0] at hrel ⊢;subst hg0;have hv:f9 I w _ args vs:=hrel.tmp;have hsz:args.toArray.size=m9 vs:=by rw[x7];simp[hv.1]
 refine callsIn_wide.1 (callsIn_of_wp_marks (n:=3) hf hb trivial ?_);rw[hsz]
 have hst:RelI I (λ_=>False) ⟨w,λ_=>.nilFunc,0,[]⟩ I (λ_=>.nilFunc) (a2M vs [] (fn.ntmps - m9 vs)) { tmps:=args.toArray++Array.replicate (fn.ntmps - m9 vs) undef,defers:=[] } w:=by
  refine⟨hrel.im,hrel.lt,hrel.fr,hrel.kp,hrel.lo,hrel.st,hrel.obj,hrel.dis,hrel.out,?_,rfl,hrel.dfr.2⟩;show f9 I w _ (args.toArray++Array.replicate (fn.ntmps - m9 vs) undef).toList (a1S vs (uns (fn.ntmps - m9 vs)));rw[T7,c4c,a3Y];refine hv.append ?_;rw[c3T];refine⟨by simp,λi u c hu hc=>?_⟩;rw[c3M] at hu hc
  split at hu
  ·rename_i hi;rw[c2E hi] at hc;injection hu with hu;injection hc with hc;subst hu;subst hc;exact .tu [] [] rfl λi u c hu _=>by simp at hu
  ·cases hu
 refine wpIn_seq (G1 (ro:=none) c0 _ _ _ _ _ h0 ⟨I,_,hst⟩ hpre λe s1 a1 W1 hr1 hk1=>?_);cases e with
 | normal =>
  obtain⟨F1,hg1,hk1⟩:=hk1;obtain⟨z1,hf1,hr1'⟩:=hg1 _ _ _ _ _ hr1;refine wpIn_seq (G1 (ro:=none) c1 _ _ _ _ _ h1 hr1' (hk1 z1 hf1) λe s2 a2 W2 hr2 hk2=>?_);cases e with
  | normal =>
   obtain⟨F2,hg2,hk2⟩:=hk2;obtain⟨z2,hf2,hr2'⟩:=hg2 _ _ _ _ _ hr2;refine wpIn_seq (wpIn_seq (G1 (ro:=none) cp _ _ _ _ _ hp hr2' (hk2 z2 hf2) λe s3 a3 W3 hr3 hk3=>?_));obtain⟨he,hP⟩:=hk3;subst he;obtain⟨I',g',h3⟩:=hr3;exact wpIn_block (hmid I I' g' w W3 s3 a3 hP h3)
  | exit i=>exact absurd hk2.1 (by simp)
  | ret=>exact absurd hk2.1 (by simp)
 | exit i=>exact absurd hk1.1 (by simp)
 | ret=>exact absurd hk1.1 (by simp)
def dd:List Nat->List Nat
 | []=>[]
 | x::l=>match l.any (Nat.beq x) with|true=>dd l|false=>x::dd l
theorem b2G (x:Nat):∀l:List Nat,x∈dd l↔x∈l
 | []=>Iff.rfl
 | y::l=>by
  rw[dd];cases h:l.any (Nat.beq y) with
  | true =>
   simp only[b2G x l,c2C];refine⟨.inr,λh2=>h2.elim (λe=>?_) id⟩;obtain⟨z,hz,he⟩:=List.any_eq_true.1 h;rw[Nat.beq_eq] at he;rw[e,he];exact hz
  | false=>simp only[c2C,b2G x l]
def b4p:List Oper->List (List Nat)->List (List Nat)
 | [],acc=>acc
 | o::l,acc=>b4p l (acc++[dd ((a1X o).flatMap λj=>j::acc.getD j [])])
def b1y (a b:List (List Nat)):Prop:=a.length=b.length/\∀i j,j∈a.getD i []↔j∈b.getD i []
theorem b1y.snoc {a b:List (List Nat)} (h:b1y a b) {x y:List Nat} (hx:∀j,j∈x↔j∈y):b1y (a++[x]) (b++[y]):=by
 refine⟨by simp[h.1],λi j=>?_⟩
 rcases Nat.lt_trichotomy i a.length with hi|hi|hi
 ·have e1:(a++[x]).getD i []=a.getD i []:=by rw[c2V,c2R hi,c2V]
  have e2:(b++[y]).getD i []=b.getD i []:=by rw[c2V,c2R (by rw[<-h.1];exact hi),c2V]
  rw[e1,e2];exact h.2 i j
 ·have e1:(a++[x]).getD i []=x:=by rw[c2V,hi];simp
  have e2:(b++[y]).getD i []=y:=by rw[c2V,hi,h.1];simp
  rw[e1,e2];exact hx j
 ·have e1:(a++[x]).getD i []=[]:=by rw[c2V,c3p (by simp;omega)];rfl
  have e2:(b++[y]).getD i []=[]:=by rw[c2V,c3p (by simp;have:=h.1;omega)];rfl
  rw[e1,e2]
theorem a8R:∀(l:List Oper) (a b:List (List Nat)),b1y a b->b1y (G0 l a) (b4p l b)
 | [],a,b,h=>h
 | o::l,a,b,h=>by
  rw[G0,b4p];refine a8R l _ _ (h.snoc λj=>?_);rw[b2G,c2U,c2U];refine exists_congr λk=>and_congr_right λ_=>?_
  rw[c2C,c2C,h.2 k j]
def b4q (ops:Array Oper):Bool :=
 let l:=ops.toList
 let an:=b4p l []
 let d:=l8 l
 l.all (b36 (N8 l)) && (List.range l.length).all λi=>(an.getD i []).all (λj=>Nat.blt j i) && (List.range i).all λj=>a7l d (N8 l) l an j i
theorem b2H {ops:Array Oper} (h:b4q ops=true):a7m ops=true:=by
 have hs:=a8R ops.toList [] [] ⟨rfl,λ_ _=>Iff.rfl⟩;have h0:=c4x.1 h;refine c4x.2 ⟨h0.1,c3a.2 λi hi=>?_⟩;have h1:=c3a.1 h0.2 i hi;rw[c2B] at h1 ⊢;refine⟨c3a.2 λj hj=>c3a.1 h1.1 j ((hs.2 i j).1 hj),c3a.2 λj hj=>?_⟩;have h2:=c3a.1 h1.2 j hj;unfold a7l at h2 ⊢;rw[c38] at h2 ⊢;refine h2.imp (λh3=>?_) id;rw[c39] at h3 ⊢;exact(hs.2 i j).2 h3
def a0j (P:Program):Code->Bool
 | .region _ ops d=>b37 P ops.toList && (!d || (b4q ops || b83 ops.toList))
 | .seq c d=>a0j P c && a0j P d
 | .cond _ c d=>a0j P c && a0j P d
 | .block _ c=>a0j P c
 | .loop c=>a0j P c
 | _=>true
theorem L6 {P:Program}:∀ {c:Code},a0j P c=true->o9 P c=true
 | .region _ ops d,h=>by
  simp only[o9,a0j,c2B,c38] at h ⊢;exact⟨h.1,h.2.imp id λh2=>h2.imp b2H id⟩
 | .seq c d,h=>by
  simp only[o9,a0j,c2B] at h ⊢;exact⟨L6 h.1,L6 h.2⟩
 | .cond _ c d,h=>by
  simp only[o9,a0j,c2B] at h ⊢;exact⟨L6 h.1,L6 h.2⟩
 | .block _ c,h=>L6 (c:=c) h
 | .loop c,h=>L6 (c:=c) h
 | .skip,_=>rfl
 | .exit _,_=>rfl
 | .ret,_=>rfl
 | .rangeFunc _ _ _ _,_=>rfl
 | .scope _,_=>rfl
 | .label _,_=>rfl
 | .goto _,_=>rfl
 | .refuse _,_=>rfl
section
def a0t (i:Nat):List Nat->List Nat
 | []=>[]
 | x::l=>match B8 x i with|true=>a0t i l|false=>x::a0t i l
def b1z:List (List Nat)->Nat->List Nat
 | [],_=>[]
 | x::_,0=>x
 | _::l,n+1=>b1z l n
def b52:List Oper->Nat->Option Oper
 | [],_=>none
 | x::_,0=>some x
 | _::l,n+1=>b52 l n
def a7C:List Nat->List Nat->Bool
 | [],_=>true
 | j::m,l=>match a8i j l with|true=>false|false=>a7C m l
def a8o (an:List (List Nat)) (l:List Nat) (i:Nat):Bool:=a7C (b1z an i) l
def a1I (an:List (List Nat)) (l:List Nat):List Nat->Option Nat
 | []=>none
 | i::fr=>match a8i i l with
  | true=>match a8o an l i with|true=>some i|false=>a1I an l fr
  | false=>a1I an l fr
def b53 (an:List (List Nat)) (l:List Nat):List Nat->List Nat
 | []=>[]
 | i::m=>match a8o an l i with|true=>i::b53 an l m|false=>b53 an l m
def c0G (f:Nat->Prop):List Nat->Prop
 | []=>True
 | [i]=>f i
 | i::j::l=>f i/\c0G f (j::l)
theorem b4r {f:Nat->Prop}:∀ {l:List Nat},c0G f l->∀i∈l,f i
 | [],_,i,h=>by simp at h
 | [x],h,i,hi=>by simp at hi;subst hi;exact h
 | x::y::l,h,i,hi=>by
  rcases c2C.1 hi with rfl|hi
  ·exact h.1
  ·exact b4r h.2 i hi
def b54 (a:Ar) (dsts:List (Option Nat)) (all:List Oper) (an:List (List Nat)) (fr:List Nat):Nat->List Nat->S->(S->Prop)->Prop
 | 0,_,s,K=>a.next K s
 | n+1,l,s,K=>match a1I an l fr with
  | some i=>match b52 all i with
   | some o=>a0z a dsts [o] s (λs=>b54 a dsts all an fr n (a0t i l) s K)
   | none=>False
  | none=>c0G (λi=>match b52 all i with
   | some o=>a0z a dsts [o] s (λs=>b54 a dsts all an fr n (a0t i l) s K)
   | none=>False) (b53 an l l)
def c18:Op->Bool
 | .move _=>true
 | .load _ _=>true
 | .fieldAddr _ _ _=>true
 | .field _ _ _=>true
 | .indexAddr _ _ _=>true
 | .extract _ _=>true
 | _=>false
def b4s:Oper->Bool
 | ⟨_,op,_,_,_,none⟩=>c18 op
 | _=>false
def a8S (all:List Oper) (an:List (List Nat)) (i:Nat):Bool:=match all[i]? with
 | some o=>b4s o && (List.range all.length).all λj=>(an.getD i []).contains j || (an.getD j []).contains i || Nat.beq j i || match all[j]? with|some oj=>b4s oj && b3G (l8 all) o oj|none=>true
 | none=>false
def b2I (ops:Array Oper) (fr:List Nat):Bool :=
 let an:=G0 ops.toList []
 (List.range ops.size).all (λi=>(an.getD i []).all λj=>Nat.blt j i) && fr.all (a8S ops.toList an)
theorem b12:∀(l:List (List Nat)) (i:Nat),b1z l i=l.getD i []
 | [],i=>by simp[b1z]
 | x::l,0=>rfl
 | x::l,i+1=>by rw[b1z,b12 l i];simp
theorem b0b:∀(l:List Oper) (i:Nat),b52 l i=l[i]?
 | [],i=>by simp[b52]
 | x::l,0=>rfl
 | x::l,i+1=>by rw[b52,b0b l i];simp
theorem a0u {i j:Nat}:∀ {l:List Nat},j∈a0t i l↔j∈l/\j≠i
 | []=>by simp[a0t]
 | x::l=>by
  rw[a0t];cases e:B8 x i
  ·have:=Y0.1 e;simp only[c2C,a0u (l:=l)]
   constructor
   ·rintro (rfl|h)
    ·exact⟨.inl rfl,this⟩
    ·exact⟨.inr h.1,h.2⟩
   ·rintro ⟨rfl|h,h2⟩
    ·exact .inl rfl
    ·exact .inr ⟨h,h2⟩
  ·have:=w8.1 e;subst this;simp only[a0u (l:=l),c2C];exact⟨λh=>⟨.inr h.1,h.2⟩,λh=>⟨h.1.resolve_left h.2,h.2⟩⟩
theorem a8T {i j:Nat}:∀(l:List Nat),a0t i (a0t j l)=a0t j (a0t i l)
 | []=>rfl
 | x::l=>by
  cases e:B8 x i <;> cases e2:B8 x j <;> simp[a0t,e,e2,a8T l]
theorem a8U:∀ {m l:List Nat},a7C m l=true↔∀j∈m,j∉l
 | [],l=>by simp[a7C]
 | a::m,l=>by
  rw[a7C];cases e:a8i a l
  ·simp only[List.forall_mem_cons,a8U (m:=m)];exact Iff.intro (λh=>And.intro (λhm=>(by rw[a3o.2 hm] at e;cases e)) h) λh=>h.2
  ·simp only[List.forall_mem_cons];exact Iff.intro (λh=>(by cases h)) λh=>absurd (a3o.1 e) h.1
theorem a4k {an:List (List Nat)} {l:List Nat} {i:Nat}:a8o an l i=true↔∀j∈an.getD i [],j∉l:=by
 rw[a8o,b12,a8U]
theorem a7D {an:List (List Nat)} {l:List Nat} {i:Nat}:∀ {m:List Nat},i∈b53 an l m↔i∈m/\a8o an l i=true
 | []=>by simp[b53]
 | x::m=>by
  rw[b53];cases e:a8o an l x
  ·simp only[a7D (m:=m),c2C];refine Iff.intro (λh=>⟨.inr h.1,h.2⟩) λh=>⟨h.1.resolve_left λe2=>?_,h.2⟩
   rw[e2,e] at h;cases h.2
  ·simp only[c2C,a7D (m:=m)]
   constructor
   ·rintro (rfl|h)
    ·exact⟨.inl rfl,e⟩
    ·exact⟨.inr h.1,h.2⟩
   ·rintro ⟨rfl|h,h2⟩
    ·exact .inl rfl
    ·exact .inr ⟨h,h2⟩
theorem a2g {an:List (List Nat)} {l:List Nat} {i:Nat}:∀ {fr:List Nat},a1I an l fr=some i->i∈fr/\i∈l/\a8o an l i=true
 | [],h=>by cases h
 | x::fr,h=>by
  rw[a1I] at h
  split at h
  ·rename_i hm
   split at h
   ·rename_i hr;injection h with h;subst h;exact⟨c27 ..,a3o.1 hm,hr⟩
   ·obtain⟨h1,h2⟩:=a2g h;exact⟨c26 _ h1,h2⟩
  ·obtain⟨h1,h2⟩:=a2g h;exact⟨c26 _ h1,h2⟩
def b55 (ops:Array Oper) (o:Oper) (s:S) (K1:S->Prop):Prop:=∀(I0:Nat->Nat->Prop) (X:Nat->Prop) (w0:W0) (a:Act) (w:World) (ro:Option Nat) (n:Nat) (Q:Exit->Act->World->Prop) (Kw:Act->World->Prop),U9 Tryd.prog o.op=true->U8 I0 X w0 s a w->(∀s' a' w',U8 I0 X w0 s' a' w'->K1 s'->Kw a' w') ->
 if Region.wanted o (yielded ops a.tmps) then o.wpIn (FW ro) n Tryd.prog a w Kw Q else (∀f,o.about Tryd.prog w a.eval=some f->(FW ro).fn f)/\Kw (a.put o.dst undef) w
theorem b55.mono {ops:Array Oper} {o:Oper} {s:S} {K K':S->Prop} (h:b55 ops o s K) (hK:∀s,K s->K' s):b55 ops o s K' :=
 λI0 X w0 a w ro n Q Kw hop hr hk=>h I0 X w0 a w ro n Q Kw hop hr λs' a' w' h1 h2=>hk s' a' w' h1 (hK s' h2)
theorem c19 {ops:Array Oper} {o:Oper} {s:S} {K1:S->Prop} (h:a0z a7 (l8 ops.toList) [o] s K1):b55 ops o s K1:=by
 intro I0 X w0 a w ro n Q Kw hop hrel hKw;obtain⟨dst,op,type,pos,after,gd⟩:=o
 have hstep:step1 a7 s dst K1 op->Oper.wpIn (FW ro) n Tryd.prog ⟨dst,op,type,pos,after,gd⟩ a w Kw Q:=λhs =>
  b0J (λc hc=>a2E hop c hc) (Oper.wp_mono (λa' w' ⟨s',h1,h2⟩=>hKw s' a' w' h1 h2) (b0K hrel (o:=⟨dst,op,type,pos,after,gd⟩) (Q:=Q) hop hs))
 have hskip:K1 (s.put dst U7)->Kw (a.put dst undef) w:=λhs=>by
  obtain⟨I,g,h⟩:=hrel;exact hKw _ _ w ⟨I,g,h.put (x:=U7) (.tu [] [] rfl (λi u c hu _=>by simp at hu)) dst⟩ hs
 cases gd with
 | none =>
  rw[c2E (by rfl)];rw[a0z] at h;exact hstep h
 | some jb =>
  obtain⟨j,b⟩:=jb;rw[a0z] at h;obtain⟨c,hc,hK⟩:=a6V hrel h;have hw:Region.wanted ⟨dst,op,type,pos,after,some (j,b)⟩ (yielded ops a.tmps)=(c == some b):=by simp[Region.wanted,hc]
  rw[hw];cases c with
  | none =>
   rw[c2H (by simp)];exact⟨λ_ _=>trivial,hskip hK⟩
  | some c =>
   simp only at hK
   split at hK
   ·rename_i hb;rw[a01] at hb;rw[c2E (by simpa using hb)];exact hstep hK
   ·rename_i hb;rw[a01] at hb;rw[c2H (by simpa using hb)];exact⟨λ_ _=>trivial,hskip hK⟩
theorem b4t {dsts:List (Option Nat)} {o:Oper} (ho:b4s o=true) {s:S} {K:S->Prop}:a0z a7 dsts [o] s K=j6 a7 dsts o s K:=by
 obtain⟨dst,op,type,pos,after,gd⟩:=o;cases gd with
 | some g=>cases ho
 | none =>
  have h:c18 op=true:=ho;cases op <;> first|rfl|cases h
def exG (ops:Array Oper) (o:Oper) (s:S) (K:S->Prop):Prop:=if b4s o=true then j6 a7 (l8 ops.toList) o s K else b55 ops o s K
theorem exG.mono {ops:Array Oper} {o:Oper} {s:S} {K K':S->Prop} (h:exG ops o s K) (hK:∀s,K s->K' s):exG ops o s K':=by
 unfold exG at h ⊢
 split
 ·rename_i hr;rw[c2E hr] at h;exact Q7 hK h
 ·rename_i hr;rw[c2H hr] at h;exact h.mono hK
theorem exG.sem {ops:Array Oper} {o:Oper} {s:S} {K:S->Prop} (h:exG ops o s K):b55 ops o s K:=by
 unfold exG at h
 split at h
 ·rename_i hr;rw[<-b4t hr] at h;exact c19 h
 ·exact h
theorem exG.of {ops:Array Oper} {o:Oper} {s:S} {K:S->Prop} (h:a0z a7 (l8 ops.toList) [o] s K):exG ops o s K:=by
 unfold exG
 split
 ·rename_i hr;rw[<-b4t hr];exact h
 ·exact c19 h
def b2J (ops:Array Oper) (K:S->Prop):Nat->List Nat->S->Prop
 | 0,l,s=>a7.next K s
 | n+1,l,s=>(∃i o,i∈l/\a8o (G0 ops.toList []) l i=true/\a8S ops.toList (G0 ops.toList []) i=true/\ops.toList[i]?=some o/\exG ops o s (b2J ops K n (a0t i l))) \/
   ∀i,i∈l->a8o (G0 ops.toList []) l i=true->∃o,ops.toList[i]?=some o/\exG ops o s (b2J ops K n (a0t i l))
theorem b2K {ops:Array Oper} {fr:List Nat} (hfr:∀i∈fr,a8S ops.toList (G0 ops.toList []) i=true):∀ {n:Nat} {l:List Nat} {s:S} {K:S->Prop},b54 a7 (l8 ops.toList) ops.toList (G0 ops.toList []) fr n l s K->b2J ops K n l s
 | 0,l,s,K,h=>h
 | n+1,l,s,K,h=>by
  rw[b54] at h
  split at h
  ·rename_i i hi;obtain⟨h1,h2,h3⟩:=a2g hi
   split at h <;> try exact h.elim
   rename_i o ho;rw[b0b] at ho;exact .inl ⟨i,o,h2,h3,hfr i h1,ho,(exG.of h).mono λs hs=>b2K hfr hs⟩
  ·refine .inr λi hi hr=>?_
   have h4:=b4r h i (a7D.2 ⟨hi,hr⟩)
   split at h4 <;> try exact h4.elim
   rename_i o ho;rw[b0b] at ho;exact⟨o,ho,(exG.of h4).mono λs hs=>b2K hfr hs⟩
theorem b4u {l:List Nat} {i:Nat} (hn:l.Nodup) (hi:i∈l):(a0t i l).length+1=l.length:=by
 have e:∀l:List Nat,a0t i l=l.filter (· != i):=by
  intro l
  induction l with
  | nil=>rfl
  | cons x l ih =>
   rw[a0t,c4y];cases e:B8 x i
   ·have:=Y0.1 e;simp[this,ih]
   ·have:=w8.1 e;simp[this,ih]
 rw[e,<-hn.erase_eq_filter,List.length_erase_of_mem hi];have:=List.length_pos_of_mem hi;omega
theorem a4l {i:Nat}:∀ {l:List Nat},l.Nodup->(a0t i l).Nodup
 | [],_=>c4T
 | x::l,h=>by
  obtain⟨h1,h2⟩:=c34.1 h;rw[a0t];cases B8 x i
  ·exact c34.2 ⟨λhm=>h1 (a0u.1 hm).1,a4l h2⟩
  ·exact a4l h2
theorem b13 {ops:Array Oper} {K:S->Prop}:∀ {n:Nat} {l:List Nat} {s:S},b2J ops K (n+1) l s->l.Nodup->l.length=n+1->∀ {j:Nat} {oj:Oper},j∈l->a8o (G0 ops.toList []) l j=true->ops.toList[j]?=some oj->exG ops oj s (b2J ops K n (a0t j l))
 | n,l,s,h,hn,hl,j,oj,hj,hr,ho=>by
  rcases h with⟨i,o,hi,hri,hf,hoi,h⟩|h
  ·by_cases e:i=j
   ·subst e;rw[hoi] at ho;cases ho;exact h
   ·cases n with
    | zero =>
     match l,hl with
     | [x],_=>simp at hi hj;omega
    | succ n =>
     have hd:=b4u hn hi;have h1:exG ops o s λs=>exG ops oj s (b2J ops K n (a0t j (a0t i l))):=h.mono λs hs=>b13 hs (a4l hn) (by omega) (a0u.2 ⟨hj,λe2=>e e2.symm⟩) (a4k.2 λk hk hm=>a4k.1 hr k hk (a0u.1 hm).1) ho
     have hjlt:j<ops.toList.length:=(c25.1 ho).1;unfold a8S at hf;rw[hoi] at hf;simp only[c2B] at hf;have h2:=c3a.1 hf.2 j (by simpa using hjlt);rw[ho] at h2;simp only[c38,c2B,c39,Nat.beq_eq] at h2
     rcases h2 with ((h2|h2)|h2)|h2
     ·exact absurd hj (a4k.1 hri j h2)
     ·exact absurd hi (a4k.1 hr i h2)
     ·exact absurd h2.symm e
     ·have e1:∀K,exG ops o s K=j6 a7 (l8 ops.toList) o s K:=λK=>by unfold exG;rw[c2E hf.1]
      have e2:∀s K,exG ops oj s K=j6 a7 (l8 ops.toList) oj s K:=λs K=>by unfold exG;rw[c2E h2.1]
      rw[e1] at h1;have h3:=b9C h2.2 (Q7 (λs hs=>by rw[e2] at hs;exact hs) h1);rw[e2];refine Q7 (λs hs=>?_) h3;refine .inl ⟨i,o,a0u.2 ⟨hi,e⟩,a4k.2 λk hk hm=>a4k.1 hri k hk (a0u.1 hm).1,?_,hoi,?_⟩
      ·unfold a8S;rw[hoi];simp only[c2B];exact hf
      ·rw[a8T];unfold exG;rw[c2E hf.1];exact hs
  ·obtain⟨o,ho',h⟩:=h j hj hr;rw[ho] at ho';cases ho';exact h
section
variable {I0:Nat->Nat->Prop} {X:Nat->Prop} {w0:W0}
theorem c0H {ro:Option Nat} {n:Nat} {ops:Array Oper} {Q:Exit->Act->World->Prop} {K:S->Prop} (hQ:∀s' a' w',U8 I0 X w0 s' a' w'->K s'->Q .normal a' w') (hok:∀o∈ops.toList,U9 Tryd.prog o.op=true) (hd:∀i,i<ops.size->∀j∈(G0 ops.toList []).getD i [],j<i):∀(fuel:Nat) (l:List Nat) (listed:Array Bool) (s:S) (a:Act) (w:World),l.length=fuel->listed.size=ops.size->l.Pairwise (·<·)->(∀i,i∈l↔i<ops.size/\listed.getD i true=false)->(∀i,i<ops.size->listed.getD i false=true->∀j∈(G0 ops.toList []).getD i [],listed.getD j false=true)->U8 I0 X w0 s a w->b2J ops K fuel l s->wpAnyIn (FW ro) n Tryd.prog .any ops Q fuel listed a w:=by
 intro fuel
 induction fuel with
 | zero =>
  intro l listed s a w hl hsz hp hmem hcl hrel hK;obtain rfl:=c48.1 hl;obtain⟨F,hg,hk⟩:=hK;obtain⟨s',hf,hr'⟩:=hg _ _ _ _ _ hrel;refine⟨?_,hQ _ _ _ hr' (hk s' hf)⟩;cases hr:Region.ready .any ops listed with
  | nil=>rfl
  | cons x xs =>
   obtain⟨h1,o,h2,_⟩:=mem_ready.1 (show x∈Region.ready .any ops listed by rw[hr];exact c27 ..);have:=(hmem x).2 ⟨(c2I.1 h2).1,h1⟩
   simp at this
 | succ fuel ih =>
  intro l listed s a w hl hsz hp hmem hcl hrel hK
  have un:∀j,j∈l->listed.getD j false=true->False:=λj hj h=>by
   obtain⟨h1,h2⟩:=(hmem j).1 hj
   simp[hsz,h1] at h h2
   rw[h2] at h;cases h
  refine⟨λhr=>?_,λi hi=>?_⟩
  ·exfalso;cases l with
   | nil=>simp at hl
   | cons i0 rest =>
    obtain⟨h1,h2⟩:=(hmem i0).1 (c27 ..);obtain⟨o,ho⟩:∃o,ops[i0]?=some o:=⟨_,c3O h1⟩
    have:i0∈Region.ready .any ops listed:=mem_ready.2 ⟨h2,o,ho,λe he hb=>by
     have h3:e.on∈(G0 ops.toList []).getD i0 []:=by
      rw[b3M ho (hd i0 h1)];exact c2U.2 ⟨e.on,a7o he hb,c27 ..⟩
     have h4:=hd i0 h1 _ h3
     have h5:¬(e.on∈i0::rest):=λhm=>by
      rcases c2C.1 hm with hm|hm
      ·omega
      ·have:=(c3l.1 hp).1 _ hm;omega
     have h6:listed.getD e.on true=true:=by
      cases hx:listed.getD e.on true with
      | true=>rfl
      | false=>exact absurd ((hmem e.on).2 ⟨by omega,hx⟩) h5
     have hlt:e.on<listed.size:=by omega
     simpa [hlt] using h6⟩
    rw[hr] at this
    simp at this
  ·obtain⟨h1,o,ho,hall⟩:=mem_ready.1 hi;have hlt:=(c2I.1 ho).1;have hil:i∈l:=(hmem i).2 ⟨hlt,h1⟩
   have han:∀j∈(G0 ops.toList []).getD i [],listed.getD j false=true:=λj hj=>by
    rw[b3M ho (hd i hlt)] at hj;obtain⟨k,hk,hj⟩:=c2U.1 hj;obtain⟨e,he,hek⟩:=c3k.1 hk;obtain⟨he1,he2⟩:=c3U.1 he;subst hek;have h3:=hall e (by simpa using he1) he2
    rcases c2C.1 hj with rfl|hj
    ·exact h3
    ·have:e.on<ops.size:=by
      rcases c3o e.on listed.size with h'|h'
      ·omega
      ·simp[c3S h'] at h3
     exact hcl _ this h3 j hj
   have hot:ops.toList[i]?=some o:=by rw[c3w];exact ho
   have hnd:l.Nodup:=hp.imp λh=>Nat.ne_of_lt h
   have hf:=(b13 hK hnd hl hil (a4k.2 λj hj hm=>un j hm (han j hj)) hot).sem
   have key:=hf I0 X w0 a w ro n Q (wpAnyIn (FW ro) n Tryd.prog .any ops Q fuel (listed.setIfInBounds i true)) (hok o (c2F hot)) hrel (λs' a' w' hrel' hK'=>by
    have hsub:(a0t i l).Pairwise (·<·):=by
     have e:∀l:List Nat,(a0t i l).Sublist l:=by
      intro l
      induction l with
      | nil=>exact .slnil
      | cons x l ih =>
       rw[a0t];cases B8 x i
       ·exact ih.cons_cons x
       ·exact ih.cons x
     exact hp.sublist (e l)
    refine ih (a0t i l) _ s' a' w' (by have:=b4u hnd hil;omega) (by simpa using hsz) hsub (λk=>?_) (λk hk hkl j hj=>?_) hrel' hK'
    ·rw[a0u]
     by_cases hik:i=k
     ·subst hik;refine⟨λhm=>absurd rfl hm.2,λhm=>?_⟩;have h6:=hm.2;have hlt':i<listed.size:=by omega
      simp[hlt'] at h6
     ·rw[getD_set_ne true hik,<-hmem k];exact⟨λh=>h.1,λh=>⟨h,λe=>hik e.symm⟩⟩
    ·by_cases hik:i=k
     ·subst hik;exact getD_set_true (han j hj)
     ·rw[getD_set_ne false hik] at hkl
      exact getD_set_true (hcl k hk hkl j hj))
   unfold wpOpIn;rw[ho];simp only
   split at key
   ·rename_i hw;rw[c2E hw];exact key
   ·rename_i hw;rw[c2H hw];exact key
end
theorem c0I {ops:Array Oper} {fr:List Nat} (hp:b2I ops fr=true) {s:S} {K:S->Prop} (h:b54 a7 (l8 ops.toList) ops.toList (G0 ops.toList []) fr ops.size (List.range ops.size) s K):a7.reg ops s K:=by
 intro I0 X w0 a w ro n Q hok hrel hQ;unfold b2I at hp;simp only[c2B] at hp
 have hd:∀i,i<ops.size->∀j∈(G0 ops.toList []).getD i [],j<i:=λi hi j hj=>by
  have h1:=c3a.1 hp.1 i (by simpa using hi)
  simpa [c32] using c3a.1 h1 j hj
 have hfr:∀i∈fr,a8S ops.toList (G0 ops.toList []) i=true:=λi hi=>c3a.1 hp.2 i hi
 refine c0H hQ hok hd ops.size (List.range ops.size) _ s a w (by simp) (by simp) List.pairwise_lt_range (λi=>?_) (λi hi h=>?_) hrel (b2K hfr h)
 ·rw[List.mem_range];exact⟨λhi=>⟨hi,by simp[hi]⟩,λh=>h.1⟩
 ·simp[hi] at h
section
variable {qa:_} {qb:_} {qc:_} {qd:_} {qe:_} {qf:_} {qg:_} {qh:_} {qi:_} {qj:_} {qk:_} {ql:_} {qm:_} {qo:_} {qp:_} {qq:_} {qs:_} {qt:_} {qu:_} {qv:_} {qw:_} {qx:_} {qy:_} {qz:_} {va:_} {vc:_} {vd:_} {ve:_} {vf:_} {vg:_} {vh:_} {vj:_} {vk:_} {vl:_} {vp:_} {vq:_} {vr:_} {vt:_} {vu:_} {vv:_} {vw:_} {vx:_} {vy:_} (hA:Ar.mk qa qb qc qd qe qf qg qh qi qj qk ql qm qo qp qq qs qt qu qv qw qx qy qz va vc vd ve vf vg vh vj vk vl vp vq vr vt vu vv vw vx vy=a7)
include hA
theorem a1g {ops:Array Oper} (fr:List Nat) (hp:b2I ops fr=true) {s:S} {K:S->Prop} (h:b54 (Ar.mk qa qb qc qd qe qf qg qh qi qj qk ql qm qo qp qq qs qt qu qv qw qx qy qz va vc vd ve vf vg vh vj vk vl vp vq vr vt vu vv vw vx vy) (l8 ops.toList) ops.toList (G0 ops.toList []) fr ops.size (List.range ops.size) s K):vx ops s K:=by
 have e:vx=a7.reg:=congrArg Ar.reg hA;rw[e];rw[hA] at h;exact c0I hp h
end
end
section
inductive AtTs (w:World) (e:Nat):List Nat->List Value->List D->Prop
 | nil:AtTs w e [] [] []
 | sc (v:Value) (F:List Nat) (us:List Value) (ds:List D) (h:v.oneCell'=true) (hs:AtTs w e F us ds):AtTs w e F (v::us) (.sc v::ds)
 | em (F:List Nat) (us:List Value) (ds:List D) (hs:AtTs w e F us ds):AtTs w e F (.slice none 0 0::us) (.sl (ty e).sz []::ds)
 | sl (b cap:Nat) (rows:List (List D)) (vs:List Value) (cur:Array Value) (t:TypeId) (F1 F:List Nat) (us:List Value) (ds:List D) (hne:rows≠[]) (hcap:rows.length<=cap) (hb:w.heap[b]?=some (.cells cur t (0,0))) (hl:vs.length=rows.length * (ty e).sz)
   (hc:cur.toList.take (rows.length * (ty e).sz)=vs) (hr:∀r∈rows,r.length=(ty e).sz) (h1:AtTs w e F1 vs rows.flatten) (hs:AtTs w e F us ds) :
   AtTs w e (b::(F1++F)) (.slice (some ⟨b,0,none⟩) rows.length cap::us) (.sl (ty e).sz rows::ds)
def i7 (z:Bool) (e:Nat) (rows:List (List D)):World->Value->List Nat->Prop:=λw v F=>F.Nodup/\AtTs w e F [v] [.sl (ty e).sz rows]/\(z=true->∃us,w.ownsRow 0 e (ty e).sz v rows.length us)
theorem AtTs.keep {w w':World} {e:Nat} {F:List Nat} {us:List Value} {ds:List D} (h:AtTs w e F us ds) (hF:∀b∈F,w'.heap[b]?=w.heap[b]?):AtTs w' e F us ds:=by
 induction h with
 | nil=>exact .nil
 | sc v F us ds h hs ih=>exact .sc v F us ds h (ih hF)
 | em F us ds hs ih=>exact .em F us ds (ih hF)
 | sl b cap rows vs cur t F1 F us ds hne hcap hb hl hc hr h1 hs ih1 ih =>
  exact .sl b cap rows vs cur t F1 F us ds hne hcap ((hF b (c27 ..)).trans hb) hl hc hr (ih1 λb hb=>hF b (c26 _ (c33 _ hb))) (ih λb hb=>hF b (c26 _ (c3L _ hb)))
theorem AtTs.cells {w:World} {e:Nat} {F:List Nat} {us:List Value} {ds:List D} (h:AtTs w e F us ds):∀b∈F,∃(c:Array Value) (t:TypeId),w.heap[b]?=some (.cells c t (0,0)):=by
 induction h with
 | nil=>intro b hb;simp at hb
 | sc v F us ds h hs ih=>exact ih
 | em F us ds hs ih=>exact ih
 | sl b cap rows vs cur t F1 F us ds hne hcap hb hl hc hr h1 hs ih1 ih =>
  intro c hm
  rcases c2C.1 hm with rfl|hm
  ·exact⟨_,_,hb⟩
  ·rcases c2W.1 hm with hm|hm
   ·exact ih1 c hm
   ·exact ih c hm
theorem AtTs.one {w:World} {e:Nat} {F:List Nat} {us:List Value} {ds:List D} (h:AtTs w e F us ds):∀u∈us,u.oneCell'=true:=by
 induction h with
 | nil=>intro u hu;simp at hu
 | sc v F us ds h hs ih =>
  intro u hu
  rcases c2C.1 hu with rfl|hu
  ·exact h
  ·exact ih u hu
 | em F us ds hs ih =>
  intro u hu
  rcases c2C.1 hu with rfl|hu
  ·exact rfl
  ·exact ih u hu
 | sl b cap rows vs cur t F1 F us ds hne hcap hb hl hc hr h1 hs ih1 ih =>
  intro u hu
  rcases c2C.1 hu with rfl|hu
  ·exact rfl
  ·exact ih u hu
theorem AtTs.app {w:World} {e:Nat} {F F2:List Nat} {us us2:List Value} {ds ds2:List D} (h:AtTs w e F us ds) (h2:AtTs w e F2 us2 ds2):AtTs w e (F++F2) (us++us2) (ds++ds2):=by
 induction h with
 | nil=>exact h2
 | sc v F us ds h hs ih=>exact .sc v _ _ _ h ih
 | em F us ds hs ih=>exact .em _ _ _ ih
 | sl b cap rows vs cur t F1 F us ds hne hcap hb hl hc hr h1 hs ih1 ih =>
  have:=AtTs.sl b cap rows vs cur t F1 (F++F2) (us++us2) (ds++ds2) hne hcap hb hl hc hr h1 ih;rw[<-c3m] at this;exact this
theorem AtTs.data {w:World} {e:Nat} {I:Nat->Nat->Prop} {F:List Nat} {us:List Value} {ds:List D} (h:AtTs w e F us ds) (hI:∀b∈F,∀n,I b n):s8 I w us ds:=by
 induction h with
 | nil=>exact .nil I w
 | sc v F us ds h hs ih=>exact .cons (.sc v h) (ih hI)
 | em F us ds hs ih=>exact .cons (.nil _ _ _) (ih hI)
 | sl b cap rows vs cur t F1 F us ds hne hcap hb hl hc hr h1 hs ih1 ih =>
  refine .cons ?_ (ih λb hb=>hI b (c26 _ (c3L _ hb)));have h2:=ih1 λb hb=>hI b (c26 _ (c33 _ hb))
  refine .sl b 0 cap _ rows vs hcap ⟨_,c2A _,hI b (c27 ..) _⟩ hr hl (λi u hu=>?_) h2.2;rw[c3v];show (match w.heap[b]? with|some (.cells c _ _)=>c[i]?|_=>none)=_;rw[hb];show cur[i]?=some u;have hlt:i<rows.length * (ty e).sz:=by rw[<-hl];exact(c25.1 hu).1
  rw[<-hc,c3g,c2E hlt] at hu
  simpa using hu
theorem AtTs.top {w:World} {e:Nat} {F:List Nat} {v:Value} {rows:List (List D)} (h:AtTs w e F [v] [.sl (ty e).sz rows]):(rows=[]/\v=.slice none 0 0/\F=[])\/∃b cap vs cur t F1,rows≠[]/\v=.slice (some ⟨b,0,none⟩) rows.length cap/\F=b::F1/\rows.length<=cap/\w.heap[b]?=some (.cells cur t (0,0))/\vs.length=rows.length * (ty e).sz /\
  cur.toList.take (rows.length * (ty e).sz)=vs/\(∀r∈rows,r.length=(ty e).sz)/\AtTs w e F1 vs rows.flatten:=by
 obtain⟨ds,hds⟩:∃ds,ds=[D.sl (ty e).sz rows]:=⟨_,rfl⟩;obtain⟨us,hus⟩:∃us,us=[v]:=⟨_,rfl⟩;rw[<-hds,<-hus] at h;cases h with
 | nil=>cases hds
 | sc v F us ds h hs=>cases hds
 | em F us ds hs =>
  injection hds with h1 h2;injection hus with h3 h4;subst h2;subst h4;subst h3;injection h1 with _ h1;cases hs;exact .inl ⟨h1.symm,rfl,rfl⟩
 | sl b cap rows' vs cur t F1 F us ds hne hcap hb hl hc hr h1 hs =>
  injection hds with e1 e2;injection hus with e3 e4;subst e2;subst e4;subst e3;injection e1 with _ e1;subst e1;cases hs;exact .inr ⟨b,cap,vs,cur,t,F1,hne,rfl,by simp,hcap,hb,hl,hc,hr,h1⟩
theorem i7.nil (w:World) (z:Bool) (e:Nat):i7 z e [] w (.slice none 0 0) []:=⟨c4T,.em _ _ _ .nil,λ_=>⟨[],World.ownsRow_nil w 0 e _⟩⟩
theorem i7.keep {w w':World} {z:Bool} {e:Nat} {rows:List (List D)} {v:Value} {F:List Nat} (h:i7 z e rows w v F) (hF:∀b∈F,w'.heap[b]?=w.heap[b]?):i7 z e rows w' v F:=by
 obtain⟨h1,h2,h3⟩:=h;refine⟨h1,h2.keep hF,λhz=>?_⟩;obtain⟨us,hl,h4⟩:=h3 hz;refine⟨us,hl,?_⟩
 rcases h4 with h4|⟨b,cap,cur,e1,e2,e3,r⟩
 ·exact .inl h4
 ·refine .inr ⟨b,cap,cur,e1,e2,(hF b ?_).trans e3,r⟩
  rcases h2.top with⟨_,h5,_⟩|⟨b',cap',vs,cur',t,F1,_,h5,h6,_⟩
  ·rw[h5] at e1;cases e1
  ·rw[h5] at e1;injection e1 with e1;injection e1 with e1;injection e1 with e1;rw[h6,e1];exact c27 ..
def fL (f:V->V):List V->List V
 | []=>[]
 | x::l=>f x::fL f l
def f2 (f:V->V):V->V
 | .ag cs=>.ag (fL f cs)
 | .tu []=>.tu []
 | .tu _=>.jk
 | x=>f x
def fT (f:V->V):List V->List V
 | []=>[]
 | x::l=>f2 f x::fT f l
def fO (f:V->V) (k:Nat):List O->List O
 | []=>[]
 | .box cs::l=>.box (fL f cs)::fO f k l
 | .kl ks::l=>.kl (k::ks)::fO f k l
 | x::l=>x::fO f k l
def sw1 (k:Nat) (x:V):V->V
 | .own j=>match B8 j k with|true=>x|false=>.own j
 | .ag _=>.jk
 | .tu _=>.jk
 | y=>y
def mv1 (j k:Nat):V->V
 | .own i=>match B8 i j with|true=>.jk|false=>(match B8 i k with|true=>.own j|false=>.own i)
 | .ag _=>.jk
 | .tu _=>.jk
 | y=>y
theorem a3d (f:V->V) (k:Nat):∀(l:List O) (j:Nat) (o:O),(fO f k l)[j]?=some o->∃o0,l[j]?=some o0/\((∃cs,o0=.box cs/\o=.box (fL f cs))\/(∃ks,o0=.kl ks/\o=.kl (k::ks))\/(o=o0/\(∀cs,o≠.box cs)/\∀ks,o≠.kl ks))
 | [],j,o,h=>by simp[fO] at h
 | x::l,0,o,h=>by
  cases x <;> simp[fO] at h <;> subst h <;> exact⟨_,rfl,by simp⟩
 | x::l,j+1,o,h=>by
  have h':(fO f k l)[j]?=some o:=by cases x <;> simpa [fO] using h
  obtain⟨o',h1,h2⟩:=a3d f k l j o h';exact⟨o',by simpa using h1,h2⟩
theorem G5 (f:V->V) (k:Nat):∀l:List O,(fO f k l).length=l.length
 | []=>rfl
 | x::l=>by cases x <;> simp[fO,G5 f k l]
section
variable {I0:Nat->Nat->Prop} {X:Nat->Prop} {w0:W0} {I I':Nat->Nat->Prop} {g g':Nat->Value} {s:S} {a:Act} {w w':World}
theorem b4v {f:V->V} (hf:∀v y,AtV I w g v y->AtV I' w' g' v (f y)):∀ {cs:List V} {us:List Value},f9 I w g us cs->f9 I' w' g' us (fL f cs)
 | [],us,h=>by rw[h.unnil];exact .nil I' w' g'
 | c::cs,us,h=>by
  obtain⟨u,us',rfl,h1,h2⟩:=h.uncons;exact .cons (hf _ _ h1) (b4v hf h2)
theorem c1A {f:V->V} (hf:∀v y,AtV I w g v y->AtV I' w' g' v (f y)) {v:Value} {x:V} (h:AtV I w g v x):AtV I' w' g' v (f2 f x):=by
 cases x with
 | ag cs=>obtain⟨us,rfl,h2⟩:=h.unag;exact a00 (b4v hf h2)
 | tu cs =>
  cases cs with
  | nil=>obtain⟨us,rfl,h2⟩:=h.untu;rw[h2.unnil];exact a0S (.nil I' w' g')
  | cons c cs=>exact .jk _
 | _=>exact hf _ _ h
theorem b9J {f:V->V} (hf:∀v y,AtV I w g v y->AtV I' w' g' v (f y)):∀ {cs:List V} {us:List Value},f9 I w g us cs->f9 I' w' g' us (fT f cs)
 | [],us,h=>by rw[h.unnil];exact .nil I' w' g'
 | c::cs,us,h=>by
  obtain⟨u,us',rfl,h1,h2⟩:=h.uncons;exact .cons (c1A hf h1) (b9J hf h2)
theorem RelI.trade (h:RelI I0 X w0 I g s a w) (f:V->V) (C:Nat->Prop) (B:Nat->Prop) (o':List O) (hfr:Fr X w0.w w') (hkp:n7 I w w') (hsz:w.heap.size<=w'.heap.size)
  (hI:∀b n,I b n->I' b n) (hB:∀b,B b->∃k,C k/\A1 s k/\M9 (g k) b) (hI2:∀b n,I' b n->I b n\/B b) (hf:∀v y,AtV I w g v y->AtV I' w' g' v (f y))
  (hw:∀j,¬C j->A1 s j->∀b,M9 (g j) b->w'.heap[b]?=w.heap[b]?)
  (hC:∀j,¬C j->∀o,o'[j]?=some o->g' j=g j/\∃o0,s.o[j]?=some o0/\((∃cs,o0=.box cs/\o=.box (fL f cs))\/(∃ks js,o0=.kl ks/\o=.kl js/\(∀i∈ks,i∈js)/\∀i,i<s.o.length->g' i=g i\/i∈js)\/(o=o0/\(∀cs,o≠.box cs)/\∀ks,o≠.kl ks)))
  (hN:∀j,C j->∀o,o'[j]?=some o->W7 X w0 I' w' g' j o/\(o≠.dead->∀b,M9 (g' j) b->B b\/w.heap.size<=b))
  (hD:∀i j b,C i->C j->(∃o,o'[i]?=some o/\o≠.dead)->(∃o,o'[j]?=some o/\o≠.dead)->M9 (g' i) b->M9 (g' j) b->i=j)
  (hg:∀j,H6 (g j)=true->g' j=g j) (hlen:s.o.length<=o'.length) (hout:∀k,o'.length<=k->g' k=.nilFunc):RelI I0 X w0 I' g' ⟨fT f s.t,o'⟩ a w':=by
 have noB:∀j,¬C j->A1 s j->∀b,M9 (g j) b->¬B b:=λj hj hl b hb hB'=>by
  obtain⟨k,hk,hlk,hbk⟩:=hB b hB';exact hj (h.dis j k b hl hlk hb hbk ▸ hk)
 have lv:∀j,¬C j->(∃o,o'[j]?=some o/\o≠.dead)->A1 s j/\g' j=g j:=λj hj ⟨o,ho,hd⟩=>by
  obtain⟨e,o0,h0,hsh⟩:=hC j hj o ho;refine⟨⟨o0,h0,?_⟩,e⟩
  rcases hsh with⟨cs,rfl,_⟩|⟨ks,js,rfl,_⟩|⟨rfl,_⟩
  ·simp
  ·simp
  ·exact hd
 refine⟨λb n hb=>hI b n (h.im b n hb),λb n hb=>?_,hfr,h.kp.trans λb n hb i hi=>hkp b n (h.im b n hb) i hi,c3E h.lo hlen,λk hk hr=>?_,λj o ho=>?_,λi j b hi hj hbi hbj=>?_,hout,b9J hf h.tmp,h.dfr⟩
 ·rcases hI2 b n hb with h1|h1
  ·exact⟨c3y (h.lt b n h1).1 hsz,(h.lt b n h1).2⟩
  ·obtain⟨k,_,⟨o,ho,hd⟩,hbk⟩:=hB b h1;obtain⟨h2,h3⟩:=(h.obj k o ho).blk hd b hbk;refine⟨c3y h2 hsz,λhlt=>.inr ?_⟩
   rcases h3 with h3|h3
   ·omega
   ·exact h3
 ·have e:=h.st k hk hr;rw[<-e] at hr ⊢;exact hg k hr
 ·by_cases hc:C j
  ·exact(hN j hc o ho).1
  ·by_cases hd:o=.dead
   ·subst hd;exact True.intro
   obtain⟨e,o0,h0,hsh⟩:=hC j hc o ho;obtain⟨hl,_⟩:=lv j hc ⟨o,ho,hd⟩
   have hd0:o0≠.dead:=by
    rcases hsh with⟨cs,rfl,_⟩|⟨ks,js,rfl,_⟩|⟨rfl,_⟩
    ·simp
    ·simp
    ·exact hd
   have hk:=(h.obj j o0 h0).keep hI hkp (λb hb=>hw j hc hl b hb) (λb hb n hn=>(hI2 b n hn).resolve_right (noB j hc hl b hb));have hob:=h.obj j o0 h0
   rcases hsh with⟨cs,rfl,rfl⟩|⟨ks,js,rfl,rfl,hks,hjs⟩|⟨rfl,hnb,hnk⟩
   ·obtain⟨b,us,t,a1,a2,a3,a4,a5,a6⟩:=hk;obtain⟨b',us',t',b1,b2,b3,b4,_⟩:=hob;have e1:b=b':=by rw[a1] at b1;injection b1 with b1;injection b1 with b1;injection b1
    subst e1;have hb2:=hw j hc hl b (by rw[a1];rfl);rw[b2] at hb2;refine⟨b,us',t',e.trans a1,hb2,b4v hf b3,b4,a5,a6⟩
   ·obtain⟨us,a1,a2,a3⟩:=hob;refine⟨us,e.trans a1,a2,λi u hu=>?_⟩;have hi:=(c2I.1 hu).1;have hjl:=(c25.1 h0).1
    rcases a3 i u hu with a4|a4|a4
    ·exact .inl a4
    ·rcases hjs i (by omega) with h5|h5
     ·exact .inr (.inl (h5.trans a4))
     ·exact .inr (.inr h5)
    ·exact .inr (.inr (hks i a4))
   ·cases o with
    | dead=>exact absurd rfl hd
    | box cs=>exact absurd rfl (hnb cs)
    | kl ks=>exact absurd rfl (hnk ks)
    | mp kt es=>obtain⟨b,l,c,a1,a2⟩:=hk;exact⟨b,l,c,e.trans a1,a2⟩
    | it P=>obtain⟨A,n,cap,F,a1,a2⟩:=hk;exact⟨A,n,cap,F,e.trans a1,a2⟩
    | ob T vs=>obtain⟨b,a1,a2⟩:=hk;exact⟨b,e.trans a1,a2⟩
    | row z e2 rows=>obtain⟨us,a1,a2,a3,a4⟩:=hk;exact⟨us,by rw[e];exact a1,a2,a3,by rw[e];exact a4⟩
 ·have hi:∃o,o'[i]?=some o/\o≠.dead:=hi;have hj:∃o,o'[j]?=some o/\o≠.dead:=hj
  have cross:∀i j,¬C i->C j->(∃o,o'[i]?=some o/\o≠.dead)->(∃o,o'[j]?=some o/\o≠.dead)->M9 (g' i) b->M9 (g' j) b->False:=λi j hi hj li ⟨o,ho,hd⟩ hbi hbj=>by
   obtain⟨hl,e⟩:=lv i hi li;rw[e] at hbi
   rcases (hN j hj o ho).2 hd b hbj with h1|h1
   ·exact noB i hi hl b hbi h1
   ·have:=h.blk_lt hl hbi;omega
  by_cases hci:C i <;> by_cases hcj:C j
  ·exact hD i j b hci hcj hi hj hbi hbj
  ·exact(cross j i hcj hci hj hi hbj hbi).elim
  ·exact(cross i j hci hcj hi hj hbi hbj).elim
  ·obtain⟨l1,e1⟩:=lv i hci hi;obtain⟨l2,e2⟩:=lv j hcj hj;rw[e1] at hbi;rw[e2] at hbj;exact h.dis i j b l1 l2 hbi hbj
end
end
section
def a09:List Nat->List O->List O
 | [],l=>l
 | j::ms,l=>a09 ms (A2 l j .dead)
theorem a5F:∀(ms:List Nat) (l:List O),(a09 ms l).length=l.length
 | [],l=>rfl
 | j::ms,l=>by rw[a09,a5F ms,x5,c2K]
theorem a5G:∀(ms:List Nat) (l:List O) (i:Nat) (o:O),(a09 ms l)[i]?=some o->(i∉ms/\l[i]?=some o)\/(i∈ms/\o=.dead)
 | [],l,i,o,h=>.inl ⟨by simp,h⟩
 | j::ms,l,i,o,h=>by
  rw[a09] at h
  rcases a5G ms _ i o h with⟨h1,h2⟩|⟨h1,h2⟩
  ·rw[x5] at h2
   by_cases e:j=i
   ·subst e;have hlt:=(c25.1 h2).1;rw[c2K] at hlt;rw[c2S hlt] at h2;exact .inr ⟨c27 ..,(Option.some.inj h2).symm⟩
   ·rw[c2L e] at h2;exact .inl ⟨by simp[h1,c3P e],h2⟩
  ·exact .inr ⟨c26 _ h1,h2⟩
def a7E:Nat->List D->List V
 | _,[]=>[]
 | n,.sc v::l=>.d (.sc v)::a7E n l
 | n,.sl _ _::l=>.own n::a7E (n+1) l
def a2l (e:Nat):List D->List O
 | []=>[]
 | .sc _::l=>a2l e l
 | .sl _ r::l=>.it (i7 false e r)::a2l e l
def a1i (os:List O) (e:Nat):List V->List D->List Nat->Prop
 | [],[],[]=>True
 | .d (.sc v)::l,.sc u::ds,ms=>v=u/\a1i os e l ds ms
 | .em::l,.sl z []::ds,ms=>z=(ty e).sz/\a1i os e l ds ms
 | .own m::l,.sl z r::ds,i::ms=>m=i/\z=(ty e).sz/\(∃b,m5 os m=.it (i7 b e r))/\a1i os e l ds ms
 | _,_,_=>False
section
variable {I0:Nat->Nat->Prop} {X:Nat->Prop} {w0:W0} {I I':Nat->Nat->Prop} {g g':Nat->Value} {s:S} {a:Act} {w w':World}
theorem a1J (h:RelI I0 X w0 I g s a w) {e:Nat}:∀ {cs:List V} {us:List Value} {ds:List D} {ms:List Nat},f9 I w g us cs->a1i s.o e cs ds ms->ms.Nodup->∃F,AtTs w e F us ds/\F.Nodup/\∀b∈F,∃m∈ms,A1 s m/\M9 (g m) b
 | cs,us,ds,ms,hv,hc,hn=>by
  unfold a1i at hc
  split at hc
  ·rw[hv.unnil];exact⟨[],.nil,c4T,by simp⟩
  ·obtain⟨u,us',rfl,h1,h2⟩:=hv.uncons;obtain⟨rfl,hc⟩:=hc;obtain⟨F,a1,a2,a3⟩:=a1J h h2 hc hn;cases h1 with
   | d h1 =>
    cases h1 with
    | sc v h1=>exact⟨F,.sc _ _ _ _ h1 a1,a2,a3⟩
  ·obtain⟨u,us',rfl,h1,h2⟩:=hv.uncons;obtain⟨rfl,hc⟩:=hc;obtain⟨F,a1,a2,a3⟩:=a1J h h2 hc hn;cases h1;exact⟨F,.em _ _ _ a1,a2,a3⟩
  ·obtain⟨u,us',rfl,h1,h2⟩:=hv.uncons;obtain⟨rfl,rfl,⟨z,ho⟩,hc⟩:=hc;rename_i m l r ds ms;obtain⟨hn1,hn2⟩:=c34.1 hn;obtain⟨F,a1,a2,a3⟩:=a1J h h2 hc hn2;have hm:=j1 ho (by simp);have hlm:A1 s m:=⟨_,hm,by simp⟩;obtain⟨A,n,cap,Fm,b1,⟨b2,b3,_⟩,_⟩:=h.obj m _ hm;have hu:u=.slice A n cap:=by rw[h1.unown.1,b1];rfl
   subst hu;have hFm:∀b∈Fm,M9 (g m) b:=λb hb=>by rw[b1,z8];exact hb
   refine⟨Fm++F,b3.app a1,c4u.2 ⟨b2,a2,λb hb c hc' e=>?_⟩,λb hb=>?_⟩
   ·subst e;obtain⟨m',hm',hl',hb'⟩:=a3 b hc';have:=h.dis m m' b hlm hl' (hFm b hb) hb';subst this;exact hn1 hm'
   ·rcases c2W.1 hb with hb|hb
    ·exact⟨m,c27 ..,hlm,hFm b hb⟩
    ·obtain⟨m',hm',h5⟩:=a3 b hb;exact⟨m',c26 _ hm',h5⟩
  ·exact hc.elim
termination_by cs=>cs.length
theorem b75 {e:Nat} {F:List Nat} {us:List Value} {ds:List D} (h:AtTs w e F us ds):F.Nodup->∃gs:List (Value×List Nat),gs.length=(a2l e ds).length/\(∀(i:Nat) (p:Value×List Nat),gs[i]?=some p->(∃r,(a2l e ds)[i]?=some (O.it (i7 false e r))/\i7 false e r w p.1 p.2)/\(∃A n cap,p.1=.slice A n cap)/\∀b∈p.2,b∈F) /\
  (∀(i j:Nat) (p q:Value×List Nat) (b:Nat),gs[i]?=some p->gs[j]?=some q->b∈p.2->b∈q.2->i=j)/\∀(I:Nat->Nat->Prop) (g:Nat->Value) (n:Nat),(∀(i:Nat) (p:Value×List Nat),gs[i]?=some p->g (n+i)=W6 p.1 p.2)->f9 I w g us (a7E n ds):=by
 induction h with
 | nil=>exact λ_=>⟨[],rfl,by simp,by simp,λI g n _=>.nil I w g⟩
 | sc v F us ds h hs ih =>
  intro hn;obtain⟨gs,h1,h2,h3,h4⟩:=ih hn;exact⟨gs,h1,h2,h3,λI g n hg=>.cons (.d (.sc v h)) (h4 I g n hg)⟩
 | em F us ds hs ih =>
  intro hn;obtain⟨gs,h1,h2,h3,h4⟩:=ih hn;refine⟨(.slice none 0 0,[])::gs,by simp[a2l,h1],λi p hp=>?_,λi j p q b hi hj hb hb'=>?_,λI g n hg=>?_⟩
  ·cases i with
   | zero =>
    simp at hp;subst hp
    exact⟨⟨[],rfl,i7.nil w false e⟩,⟨_,_,_,rfl⟩,by simp⟩
   | succ i =>
    obtain⟨⟨r,a1,a2⟩,a3,a4⟩:=h2 i p (by simpa using hp);exact⟨⟨r,by simpa [a2l] using a1,a2⟩,a3,a4⟩
  ·cases i with
   | zero=>simp at hi;subst hi;simp at hb
   | succ i =>
    cases j with
    | zero=>simp at hj;subst hj;simp at hb'
    | succ j=>exact congrArg (·+1) (h3 i j p q b (by simpa using hi) (by simpa using hj) hb hb')
  ·refine .cons ?_ (h4 I g (n+1) λi p hp=>?_)
   ·have:=hg 0 _ rfl;rw[c3I] at this;exact .own n _ _ _ (by rw[this];rfl)
   ·rw[c4o];exact hg (i+1) p (by simpa using hp)
 | sl b cap rows vs cur t F1 F us ds hne hcap hb hl hc hr h1' hs ih1 ih =>
  intro hn;obtain⟨hn1,hn2⟩:=c34.1 hn;obtain⟨hn3,hn4,hn5⟩:=c4u.1 hn2;obtain⟨gs,h1,h2,h3,h4⟩:=ih hn4
  have hd:∀c,c∈b::F1->c∈F->False:=λc hc1 hc2=>by
   rcases c2C.1 hc1 with rfl|hc1
   ·exact hn1 (c3L _ hc2)
   ·exact hn5 c hc1 c hc2 rfl
  refine⟨(.slice (some ⟨b,0,none⟩) rows.length cap,b::F1)::gs,by simp[a2l,h1],λi p hp=>?_,λi j p q c hi hj hc1 hc2=>?_,λI g n hg=>?_⟩
  ·cases i with
   | zero =>
    simp at hp;subst hp
    refine⟨⟨rows,rfl,c34.2 ⟨λhm=>hn1 (c33 _ hm),hn3⟩,?_,by simp⟩,⟨_,_,_,rfl⟩,λc hc=>?_⟩
    ·have:=AtTs.sl b cap rows vs cur t F1 [] [] [] hne hcap hb hl hc hr h1' .nil
     rwa [c3b] at this
    ·rcases c2C.1 hc with rfl|hc
     ·exact c27 ..
     ·exact c26 _ (c33 _ hc)
   | succ i =>
    obtain⟨⟨r,a1,a2⟩,a3,a4⟩:=h2 i p (by simpa using hp);exact⟨⟨r,by simpa [a2l] using a1,a2⟩,a3,λc hc=>c26 _ (c3L _ (a4 c hc))⟩
  ·cases i with
   | zero =>
    cases j with
    | zero=>rfl
    | succ j =>
     simp at hi hj;subst hi
     exact(hd c hc1 ((h2 j q hj).2.2 c hc2)).elim
   | succ i =>
    cases j with
    | zero =>
     simp at hi hj;subst hj
     exact(hd c hc2 ((h2 i p hi).2.2 c hc1)).elim
    | succ j=>exact congrArg (·+1) (h3 i j p q c (by simpa using hi) (by simpa using hj) hc1 hc2)
  ·refine .cons ?_ (h4 I g (n+1) λi p hp=>?_)
   ·have:=hg 0 _ rfl;rw[c3I] at this;exact .own n _ _ _ (by rw[this];rfl)
   ·rw[c4o];exact hg (i+1) p (by simpa using hp)
theorem a5H {k:Nat} {x:V} (hI:∀b n,I b n->I' b n) (hkp:n7 I w w') (hg:∀j,j≠k->g j≠.nilFunc->g' j=g j) (hgr:∀j,H6 (g j)=true->g' j=g j) (hx:∀v,v=gv (g k)->(∃A n cap,gv (g k)=.slice A n cap)->AtV I' w' g' v x) (hel:∀b n cap,g k=.slice (some ⟨b,0,none⟩) n cap->g' k=g k):∀v y,AtV I w g v y->AtV I' w' g' v (sw1 k x y):=by
 intro v y h;cases y with
 | own j =>
  show AtV I' w' g' v (match B8 j k with|true=>x|false=>.own j);obtain⟨h1,A,n,cap,h2⟩:=h.unown;cases e:B8 j k
  ·refine(by rw[h1,h2];exact .own j A n cap ((congrArg gv (hg j (Y0.1 e) (λe2=>by rw[e2] at h2;cases h2))).trans h2))
  ·obtain rfl:=w8.1 e;exact hx v h1 ⟨A,n,cap,h2⟩
 | ag cs=>exact .jk _
 | tu cs=>exact .jk _
 | d x=>cases h with|d h=>exact .d (h.mono hI hkp)
 | em=>cases h;exact .em
 | ptr j off=>cases h with|ptr k off b h=>exact .ptr _ off b ((hgr j (by rw[h];rfl)).trans h)
 | cl f ks =>
  cases h with
  | cl f us ks hl h =>
   exact .cl f us ks hl λi u j hu hj=>by
    obtain⟨h1,b,h2⟩:=h i u j hu hj;have h3:=hgr j (by rw[h2];rfl);exact⟨h1.trans h3.symm,b,h3.trans h2⟩
 | el j i sz off =>
  cases h with
  | el j i sz off b n cap h =>
   by_cases e:j=k
   ·subst e;exact .el j i sz off b n cap ((hel b n cap h).trans h)
   ·exact .el j i sz off b n cap ((hg j e (by rw[h];simp)).trans h)
 | ro cs off=>exact ro_mono hI hkp h
 | mp j=>cases h with|mp j b h=>exact .mp j b ((hgr j (by rw[h];rfl)).trans h)
 | bs j n=>cases h with|bs j n b cap h hn=>exact .bs j n b cap ((hgr j (by rw[h];rfl)).trans h) hn
 | jk=>exact .jk _
where
 ro_mono {I I':Nat->Nat->Prop} {w w':World} {g g':Nat->Value} (hI:∀b n,I b n->I' b n) (hkp:n7 I w w') {v:Value} {cs:List D} {off:Nat} (h:AtV I w g v (.ro cs off)):AtV I' w' g' v (.ro cs off):=by
  cases h with
  | ro b o off us cs hi hc hd =>
   refine .ro b o off us cs (hi.mono hI) (λi u hu=>?_) (hd.mono hI hkp);have hlt:i<cs.length:=by rw[<-hd.1];exact(c25.1 hu).1
   obtain⟨k,hk1,hk2⟩:=hi;exact(hkp _ _ hk2 _ (by omega)).trans (hc i u hu)
end
end
end Go.Proofs.YtlofmibkljoapaaDoor.Vm
end
